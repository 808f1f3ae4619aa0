/- Texts of this session, joined: each is a section. -/
import Derived.Test.YtejmipoolbodgaaMFrag1
import Derived.Test.YtejmipoolbodgaaMFragWhole1
import Derived.Test.YtejmipoolbodgaaMFrag7
import Derived.Test.YtejmipoolbodgaaMFrag4
import Derived.Test.YtejmipoolbodgaaMFrag3
section
namespace Go.Proofs.Ytejmipoolbodgaa.G
open Go.RowKit Go.Proofs.YtejmipoolbodgaaW.PrintWords Go.Proofs.YtejmipoolbodgaaW.PrintLast Go.Proofs.YtejmipoolbodgaaW.PrintMore
attribute [local go_sem] max2_int min2_int max_two min_two max_three min_three max_four min_four   -- for this text's walks alone
set_option linter.unusedVariables false
set_option linter.unusedSimpArgs false

attribute [local go_sem high] eqA93
/-! ### palanquinlaw15_FragWhole: function 32 -/
mutual
def palanquinlaw15_FragWhole.j0 : Nat → ByteArray → Int → Bool → Option (Bool)
  | 0, _, _, _ => none
  | k + 1, x0, x1, x31 => if x31 = true then (some true) else ((frag_Cut.f x0 x1).bind fun bt805 => (if bt805.2 = 0 then ((ip4_Get.f x0).bind fun bt809 => (if bt809.2.2.2.2.2.2.2.2.2.2.2 = 0 then (palanquinlaw15_FragWhole.j1 k x1 bt805.1 bt809.2.2.2.2.2.2.2.2.2.2.1 ((bt805.1.length : Int) == 0) bt809.1 bt809.2.1 bt809.2.2.1 bt809.2.2.2.1 bt809.2.2.2.2.1 bt809.2.2.2.2.2.1 bt809.2.2.2.2.2.2.1 bt809.2.2.2.2.2.2.2.1 bt809.2.2.2.2.2.2.2.2.1 bt809.2.2.2.2.2.2.2.2.2.1) else (palanquinlaw15_FragWhole.j1 k x1 bt805.1 bt809.2.2.2.2.2.2.2.2.2.2.1 true bt809.1 bt809.2.1 bt809.2.2.1 bt809.2.2.2.1 bt809.2.2.2.2.1 bt809.2.2.2.2.2.1 bt809.2.2.2.2.2.2.1 bt809.2.2.2.2.2.2.2.1 bt809.2.2.2.2.2.2.2.2.1 bt809.2.2.2.2.2.2.2.2.2.1))) else (some ((bt805.1.length : Int) == 0))))
def palanquinlaw15_FragWhole.j1 : Nat → Int → List ByteArray → ByteArray → Bool → Int → Int → Int → Int → Int → Bool → Bool → ByteArray → ByteArray → ByteArray → Option (Bool)
  | 0, _, _, _, _, _, _, _, _, _, _, _, _, _, _ => none
  | k + 1, x1, x5, x8, x55, x822000, x822001, x822002, x822003, x822004, x822005, x822006, x822007, x822008, x822009 => if x55 = true then (some false) else (palanquinlaw15_FragWhole.l0 k x1 x5 x8 (⟨#[]⟩ : ByteArray) 0 x822000 x822001 x822002 x822003 x822004 x822005 x822006 x822007 x822008 x822009)
def palanquinlaw15_FragWhole.l0 : Nat → Int → List ByteArray → ByteArray → ByteArray → Int → Int → Int → Int → Int → Int → Bool → Bool → ByteArray → ByteArray → ByteArray → Option (Bool)
  | 0, _, _, _, _, _, _, _, _, _, _, _, _, _, _, _ => none
  | k + 1, x1, x5, x8, x10, x11, x822000, x822001, x822002, x822003, x822004, x822005, x822006, x822007, x822008, x822009 => if x11 < (x5.length : Int) then (if 0 ≤ x11 then ((ip4_Get.f (rdOf ByteArray.empty x5 x11)).bind fun bt823 => ((frag_Cut.f (rdOf ByteArray.empty x5 x11) x1).bind fun bt837 => (if bt823.2.2.2.2.2.2.2.2.2.2.2 = 0 then (if ((rdOf ByteArray.empty x5 x11).size : Int) > x1 then (palanquinlaw15_FragWhole.j3 k x1 x5 x8 x10 x11 bt823.2.2.2.2.2.2.2.2.2.2.1 true x822000 x822001 x822002 x822003 x822004 x822005 x822006 x822007 x822008 x822009 bt823.1 bt823.2.1 bt823.2.2.1 bt823.2.2.2.1 bt823.2.2.2.2.1 bt823.2.2.2.2.2.1 bt823.2.2.2.2.2.2.1 bt823.2.2.2.2.2.2.2.1 bt823.2.2.2.2.2.2.2.2.1 bt823.2.2.2.2.2.2.2.2.2.1) else (if bt837.2 = 0 then (if (bt837.1.length : Int) = 1 then (if 0 < (bt837.1.length : Int) then (if (rdOf ByteArray.empty bt837.1 0).toList = (rdOf ByteArray.empty x5 x11).toList then (palanquinlaw15_FragWhole.j3 k x1 x5 x8 x10 x11 bt823.2.2.2.2.2.2.2.2.2.2.1 (bt823.2.2.1 != (wrap64 (x822002 + (wrap64 ((x10.size : Int) / 8))))) x822000 x822001 x822002 x822003 x822004 x822005 x822006 x822007 x822008 x822009 bt823.1 bt823.2.1 bt823.2.2.1 bt823.2.2.2.1 bt823.2.2.2.2.1 bt823.2.2.2.2.2.1 bt823.2.2.2.2.2.2.1 bt823.2.2.2.2.2.2.2.1 bt823.2.2.2.2.2.2.2.2.1 bt823.2.2.2.2.2.2.2.2.2.1) else (palanquinlaw15_FragWhole.j3 k x1 x5 x8 x10 x11 bt823.2.2.2.2.2.2.2.2.2.2.1 true x822000 x822001 x822002 x822003 x822004 x822005 x822006 x822007 x822008 x822009 bt823.1 bt823.2.1 bt823.2.2.1 bt823.2.2.2.1 bt823.2.2.2.2.1 bt823.2.2.2.2.2.1 bt823.2.2.2.2.2.2.1 bt823.2.2.2.2.2.2.2.1 bt823.2.2.2.2.2.2.2.2.1 bt823.2.2.2.2.2.2.2.2.2.1)) else (none)) else (palanquinlaw15_FragWhole.j3 k x1 x5 x8 x10 x11 bt823.2.2.2.2.2.2.2.2.2.2.1 true x822000 x822001 x822002 x822003 x822004 x822005 x822006 x822007 x822008 x822009 bt823.1 bt823.2.1 bt823.2.2.1 bt823.2.2.2.1 bt823.2.2.2.2.1 bt823.2.2.2.2.2.1 bt823.2.2.2.2.2.2.1 bt823.2.2.2.2.2.2.2.1 bt823.2.2.2.2.2.2.2.2.1 bt823.2.2.2.2.2.2.2.2.2.1)) else (palanquinlaw15_FragWhole.j3 k x1 x5 x8 x10 x11 bt823.2.2.2.2.2.2.2.2.2.2.1 true x822000 x822001 x822002 x822003 x822004 x822005 x822006 x822007 x822008 x822009 bt823.1 bt823.2.1 bt823.2.2.1 bt823.2.2.2.1 bt823.2.2.2.2.1 bt823.2.2.2.2.2.1 bt823.2.2.2.2.2.2.1 bt823.2.2.2.2.2.2.2.1 bt823.2.2.2.2.2.2.2.2.1 bt823.2.2.2.2.2.2.2.2.2.1))) else (palanquinlaw15_FragWhole.j3 k x1 x5 x8 x10 x11 bt823.2.2.2.2.2.2.2.2.2.2.1 true x822000 x822001 x822002 x822003 x822004 x822005 x822006 x822007 x822008 x822009 bt823.1 bt823.2.1 bt823.2.2.1 bt823.2.2.2.1 bt823.2.2.2.2.1 bt823.2.2.2.2.2.1 bt823.2.2.2.2.2.2.1 bt823.2.2.2.2.2.2.2.1 bt823.2.2.2.2.2.2.2.2.1 bt823.2.2.2.2.2.2.2.2.2.1)))) else (none)) else (some (x10.toList == x8.toList))
def palanquinlaw15_FragWhole.j3 : Nat → Int → List ByteArray → ByteArray → ByteArray → Int → ByteArray → Bool → Int → Int → Int → Int → Int → Bool → Bool → ByteArray → ByteArray → ByteArray → Int → Int → Int → Int → Int → Bool → Bool → ByteArray → ByteArray → ByteArray → Option (Bool)
  | 0, _, _, _, _, _, _, _, _, _, _, _, _, _, _, _, _, _, _, _, _, _, _, _, _, _, _, _ => none
  | k + 1, x1, x5, x8, x10, x11, x13, x120, x822000, x822001, x822002, x822003, x822004, x822005, x822006, x822007, x822008, x822009, x836000, x836001, x836002, x836003, x836004, x836005, x836006, x836007, x836008, x836009 => if x120 = true then (some false) else (if (x11 = (wrap64 ((x5.length : Int) - 1))) then (if x822006 = true then (palanquinlaw15_FragWhole.j4 k x1 x5 x8 x10 x11 x13 (x836006 != true) x822000 x822001 x822002 x822003 x822004 x822005 x822006 x822007 x822008 x822009 x836000 x836001 x836002 x836003 x836004 x836005 x836006 x836007 x836008 x836009) else (palanquinlaw15_FragWhole.j4 k x1 x5 x8 x10 x11 x13 (x836006 != (!(x11 == (wrap64 ((x5.length : Int) - 1))))) x822000 x822001 x822002 x822003 x822004 x822005 x822006 x822007 x822008 x822009 x836000 x836001 x836002 x836003 x836004 x836005 x836006 x836007 x836008 x836009)) else (if ((x13.size : Int) % 8) = 0 then (if (x13.size : Int) = 0 then (palanquinlaw15_FragWhole.j4 k x1 x5 x8 x10 x11 x13 true x822000 x822001 x822002 x822003 x822004 x822005 x822006 x822007 x822008 x822009 x836000 x836001 x836002 x836003 x836004 x836005 x836006 x836007 x836008 x836009) else (if x822006 = true then (palanquinlaw15_FragWhole.j4 k x1 x5 x8 x10 x11 x13 (x836006 != true) x822000 x822001 x822002 x822003 x822004 x822005 x822006 x822007 x822008 x822009 x836000 x836001 x836002 x836003 x836004 x836005 x836006 x836007 x836008 x836009) else (palanquinlaw15_FragWhole.j4 k x1 x5 x8 x10 x11 x13 (x836006 != (!(x11 == (wrap64 ((x5.length : Int) - 1))))) x822000 x822001 x822002 x822003 x822004 x822005 x822006 x822007 x822008 x822009 x836000 x836001 x836002 x836003 x836004 x836005 x836006 x836007 x836008 x836009))) else (palanquinlaw15_FragWhole.j4 k x1 x5 x8 x10 x11 x13 true x822000 x822001 x822002 x822003 x822004 x822005 x822006 x822007 x822008 x822009 x836000 x836001 x836002 x836003 x836004 x836005 x836006 x836007 x836008 x836009)))
def palanquinlaw15_FragWhole.j4 : Nat → Int → List ByteArray → ByteArray → ByteArray → Int → ByteArray → Bool → Int → Int → Int → Int → Int → Bool → Bool → ByteArray → ByteArray → ByteArray → Int → Int → Int → Int → Int → Bool → Bool → ByteArray → ByteArray → ByteArray → Option (Bool)
  | 0, _, _, _, _, _, _, _, _, _, _, _, _, _, _, _, _, _, _, _, _, _, _, _, _, _, _, _ => none
  | k + 1, x1, x5, x8, x10, x11, x13, x149, x822000, x822001, x822002, x822003, x822004, x822005, x822006, x822007, x822008, x822009, x836000, x836001, x836002, x836003, x836004, x836005, x836006, x836007, x836008, x836009 => if x149 = true then (some false) else (if x10.size + x13.size ≤ 9223372036854775807 then (if (!(x836000 == x822000) || (!(x836001 == x822001) || (!(x836003 == x822003) || (!(x836004 == x822004) || (!(x836005 == x822005) || (!(x836007.toList == x822007.toList) || (!(x836008.toList == x822008.toList) || (!(x836009.toList == x822009.toList))))))))) = true then (some false) else (palanquinlaw15_FragWhole.l0 k x1 x5 x8 (x10 ++ x13) (wrap64 (x11 + 1)) x822000 x822001 x822002 x822003 x822004 x822005 x822006 x822007 x822008 x822009)) else (none))
end
def palanquinlaw15_FragWhole.f (k : Nat) (a0 : ByteArray) (a1 : Int) : Option (Bool) := (palanquinlaw15_awake.f k).bind fun t804 => (if t804 = true then (if (a0.size : Int) > 70000 then (palanquinlaw15_FragWhole.j0 k a0 a1 true) else (if (a0.size : Int) > 3000 then (palanquinlaw15_FragWhole.j0 k a0 a1 (decide (a1 < 400))) else (palanquinlaw15_FragWhole.j0 k a0 a1 false))) else (some false))
theorem palanquinlaw15_FragWhole.mono_l : ∀ k, (∀ y0 y1 y2, LeO (palanquinlaw15_FragWhole.j0 k y0 y1 y2) (palanquinlaw15_FragWhole.j0 (k + 1) y0 y1 y2)) ∧ (∀ y0 y1 y2 y3 y4 y5 y6 y7 y8 y9 y10 y11 y12 y13, LeO (palanquinlaw15_FragWhole.j1 k y0 y1 y2 y3 y4 y5 y6 y7 y8 y9 y10 y11 y12 y13) (palanquinlaw15_FragWhole.j1 (k + 1) y0 y1 y2 y3 y4 y5 y6 y7 y8 y9 y10 y11 y12 y13)) ∧ (∀ y0 y1 y2 y3 y4 y5 y6 y7 y8 y9 y10 y11 y12 y13 y14, LeO (palanquinlaw15_FragWhole.l0 k y0 y1 y2 y3 y4 y5 y6 y7 y8 y9 y10 y11 y12 y13 y14) (palanquinlaw15_FragWhole.l0 (k + 1) y0 y1 y2 y3 y4 y5 y6 y7 y8 y9 y10 y11 y12 y13 y14)) ∧ (∀ y0 y1 y2 y3 y4 y5 y6 y7 y8 y9 y10 y11 y12 y13 y14 y15 y16 y17 y18 y19 y20 y21 y22 y23 y24 y25 y26, LeO (palanquinlaw15_FragWhole.j3 k y0 y1 y2 y3 y4 y5 y6 y7 y8 y9 y10 y11 y12 y13 y14 y15 y16 y17 y18 y19 y20 y21 y22 y23 y24 y25 y26) (palanquinlaw15_FragWhole.j3 (k + 1) y0 y1 y2 y3 y4 y5 y6 y7 y8 y9 y10 y11 y12 y13 y14 y15 y16 y17 y18 y19 y20 y21 y22 y23 y24 y25 y26)) ∧ (∀ y0 y1 y2 y3 y4 y5 y6 y7 y8 y9 y10 y11 y12 y13 y14 y15 y16 y17 y18 y19 y20 y21 y22 y23 y24 y25 y26, LeO (palanquinlaw15_FragWhole.j4 k y0 y1 y2 y3 y4 y5 y6 y7 y8 y9 y10 y11 y12 y13 y14 y15 y16 y17 y18 y19 y20 y21 y22 y23 y24 y25 y26) (palanquinlaw15_FragWhole.j4 (k + 1) y0 y1 y2 y3 y4 y5 y6 y7 y8 y9 y10 y11 y12 y13 y14 y15 y16 y17 y18 y19 y20 y21 y22 y23 y24 y25 y26))
  | 0 => ⟨fun _ _ _ r h => by simp [palanquinlaw15_FragWhole.j0] at h, fun _ _ _ _ _ _ _ _ _ _ _ _ _ _ r h => by simp [palanquinlaw15_FragWhole.j1] at h, fun _ _ _ _ _ _ _ _ _ _ _ _ _ _ _ r h => by simp [palanquinlaw15_FragWhole.l0] at h, fun _ _ _ _ _ _ _ _ _ _ _ _ _ _ _ _ _ _ _ _ _ _ _ _ _ _ _ r h => by simp [palanquinlaw15_FragWhole.j3] at h, fun _ _ _ _ _ _ _ _ _ _ _ _ _ _ _ _ _ _ _ _ _ _ _ _ _ _ _ r h => by simp [palanquinlaw15_FragWhole.j4] at h⟩
  | k + 1 => by
    obtain ⟨ih0, ih1, ih2, ih3, ih4⟩ := palanquinlaw15_FragWhole.mono_l k
    refine ⟨?_, ?_, ?_, ?_, ?_⟩
    · intro y0 y1 y2
      unfold palanquinlaw15_FragWhole.j0
      repeat' first
      | (with_reducible exact ih0 _ _ _)
      | (with_reducible exact ih1 _ _ _ _ _ _ _ _ _ _ _ _ _ _)
      | (with_reducible exact ih2 _ _ _ _ _ _ _ _ _ _ _ _ _ _ _)
      | (with_reducible exact ih3 _ _ _ _ _ _ _ _ _ _ _ _ _ _ _ _ _ _ _ _ _ _ _ _ _ _ _)
      | (with_reducible exact ih4 _ _ _ _ _ _ _ _ _ _ _ _ _ _ _ _ _ _ _ _ _ _ _ _ _ _ _)
      | (with_reducible exact palanquinlaw15_awake.mono _)
      | (with_reducible exact LeO.refl _)
      | (with_reducible exact LeO.none _)
      | (with_reducible refine LeO.ite ?_ ?_)
      | (with_reducible refine LeO.bind ?_ (fun _ => ?_))
      | exact ih0 _ _ _
      | exact ih1 _ _ _ _ _ _ _ _ _ _ _ _ _ _
      | exact ih2 _ _ _ _ _ _ _ _ _ _ _ _ _ _ _
      | exact ih3 _ _ _ _ _ _ _ _ _ _ _ _ _ _ _ _ _ _ _ _ _ _ _ _ _ _ _
      | exact ih4 _ _ _ _ _ _ _ _ _ _ _ _ _ _ _ _ _ _ _ _ _ _ _ _ _ _ _
      | exact palanquinlaw15_awake.mono _
      | exact LeO.none _
      | refine LeO.ite ?_ ?_
      | refine LeO.bind ?_ (fun _ => ?_)
    · intro y0 y1 y2 y3 y4 y5 y6 y7 y8 y9 y10 y11 y12 y13
      unfold palanquinlaw15_FragWhole.j1
      repeat' first
      | (with_reducible exact ih0 _ _ _)
      | (with_reducible exact ih1 _ _ _ _ _ _ _ _ _ _ _ _ _ _)
      | (with_reducible exact ih2 _ _ _ _ _ _ _ _ _ _ _ _ _ _ _)
      | (with_reducible exact ih3 _ _ _ _ _ _ _ _ _ _ _ _ _ _ _ _ _ _ _ _ _ _ _ _ _ _ _)
      | (with_reducible exact ih4 _ _ _ _ _ _ _ _ _ _ _ _ _ _ _ _ _ _ _ _ _ _ _ _ _ _ _)
      | (with_reducible exact palanquinlaw15_awake.mono _)
      | (with_reducible exact LeO.refl _)
      | (with_reducible exact LeO.none _)
      | (with_reducible refine LeO.ite ?_ ?_)
      | (with_reducible refine LeO.bind ?_ (fun _ => ?_))
      | exact ih0 _ _ _
      | exact ih1 _ _ _ _ _ _ _ _ _ _ _ _ _ _
      | exact ih2 _ _ _ _ _ _ _ _ _ _ _ _ _ _ _
      | exact ih3 _ _ _ _ _ _ _ _ _ _ _ _ _ _ _ _ _ _ _ _ _ _ _ _ _ _ _
      | exact ih4 _ _ _ _ _ _ _ _ _ _ _ _ _ _ _ _ _ _ _ _ _ _ _ _ _ _ _
      | exact palanquinlaw15_awake.mono _
      | exact LeO.none _
      | refine LeO.ite ?_ ?_
      | refine LeO.bind ?_ (fun _ => ?_)
    · intro y0 y1 y2 y3 y4 y5 y6 y7 y8 y9 y10 y11 y12 y13 y14
      unfold palanquinlaw15_FragWhole.l0
      repeat' first
      | (with_reducible exact ih0 _ _ _)
      | (with_reducible exact ih1 _ _ _ _ _ _ _ _ _ _ _ _ _ _)
      | (with_reducible exact ih2 _ _ _ _ _ _ _ _ _ _ _ _ _ _ _)
      | (with_reducible exact ih3 _ _ _ _ _ _ _ _ _ _ _ _ _ _ _ _ _ _ _ _ _ _ _ _ _ _ _)
      | (with_reducible exact ih4 _ _ _ _ _ _ _ _ _ _ _ _ _ _ _ _ _ _ _ _ _ _ _ _ _ _ _)
      | (with_reducible exact palanquinlaw15_awake.mono _)
      | (with_reducible exact LeO.refl _)
      | (with_reducible exact LeO.none _)
      | (with_reducible refine LeO.ite ?_ ?_)
      | (with_reducible refine LeO.bind ?_ (fun _ => ?_))
      | exact ih0 _ _ _
      | exact ih1 _ _ _ _ _ _ _ _ _ _ _ _ _ _
      | exact ih2 _ _ _ _ _ _ _ _ _ _ _ _ _ _ _
      | exact ih3 _ _ _ _ _ _ _ _ _ _ _ _ _ _ _ _ _ _ _ _ _ _ _ _ _ _ _
      | exact ih4 _ _ _ _ _ _ _ _ _ _ _ _ _ _ _ _ _ _ _ _ _ _ _ _ _ _ _
      | exact palanquinlaw15_awake.mono _
      | exact LeO.none _
      | refine LeO.ite ?_ ?_
      | refine LeO.bind ?_ (fun _ => ?_)
    · intro y0 y1 y2 y3 y4 y5 y6 y7 y8 y9 y10 y11 y12 y13 y14 y15 y16 y17 y18 y19 y20 y21 y22 y23 y24 y25 y26
      unfold palanquinlaw15_FragWhole.j3
      repeat' first
      | (with_reducible exact ih0 _ _ _)
      | (with_reducible exact ih1 _ _ _ _ _ _ _ _ _ _ _ _ _ _)
      | (with_reducible exact ih2 _ _ _ _ _ _ _ _ _ _ _ _ _ _ _)
      | (with_reducible exact ih3 _ _ _ _ _ _ _ _ _ _ _ _ _ _ _ _ _ _ _ _ _ _ _ _ _ _ _)
      | (with_reducible exact ih4 _ _ _ _ _ _ _ _ _ _ _ _ _ _ _ _ _ _ _ _ _ _ _ _ _ _ _)
      | (with_reducible exact palanquinlaw15_awake.mono _)
      | (with_reducible exact LeO.refl _)
      | (with_reducible exact LeO.none _)
      | (with_reducible refine LeO.ite ?_ ?_)
      | (with_reducible refine LeO.bind ?_ (fun _ => ?_))
      | exact ih0 _ _ _
      | exact ih1 _ _ _ _ _ _ _ _ _ _ _ _ _ _
      | exact ih2 _ _ _ _ _ _ _ _ _ _ _ _ _ _ _
      | exact ih3 _ _ _ _ _ _ _ _ _ _ _ _ _ _ _ _ _ _ _ _ _ _ _ _ _ _ _
      | exact ih4 _ _ _ _ _ _ _ _ _ _ _ _ _ _ _ _ _ _ _ _ _ _ _ _ _ _ _
      | exact palanquinlaw15_awake.mono _
      | exact LeO.none _
      | refine LeO.ite ?_ ?_
      | refine LeO.bind ?_ (fun _ => ?_)
    · intro y0 y1 y2 y3 y4 y5 y6 y7 y8 y9 y10 y11 y12 y13 y14 y15 y16 y17 y18 y19 y20 y21 y22 y23 y24 y25 y26
      unfold palanquinlaw15_FragWhole.j4
      repeat' first
      | (with_reducible exact ih0 _ _ _)
      | (with_reducible exact ih1 _ _ _ _ _ _ _ _ _ _ _ _ _ _)
      | (with_reducible exact ih2 _ _ _ _ _ _ _ _ _ _ _ _ _ _ _)
      | (with_reducible exact ih3 _ _ _ _ _ _ _ _ _ _ _ _ _ _ _ _ _ _ _ _ _ _ _ _ _ _ _)
      | (with_reducible exact ih4 _ _ _ _ _ _ _ _ _ _ _ _ _ _ _ _ _ _ _ _ _ _ _ _ _ _ _)
      | (with_reducible exact palanquinlaw15_awake.mono _)
      | (with_reducible exact LeO.refl _)
      | (with_reducible exact LeO.none _)
      | (with_reducible refine LeO.ite ?_ ?_)
      | (with_reducible refine LeO.bind ?_ (fun _ => ?_))
      | exact ih0 _ _ _
      | exact ih1 _ _ _ _ _ _ _ _ _ _ _ _ _ _
      | exact ih2 _ _ _ _ _ _ _ _ _ _ _ _ _ _ _
      | exact ih3 _ _ _ _ _ _ _ _ _ _ _ _ _ _ _ _ _ _ _ _ _ _ _ _ _ _ _
      | exact ih4 _ _ _ _ _ _ _ _ _ _ _ _ _ _ _ _ _ _ _ _ _ _ _ _ _ _ _
      | exact palanquinlaw15_awake.mono _
      | exact LeO.none _
      | refine LeO.ite ?_ ?_
      | refine LeO.bind ?_ (fun _ => ?_)
theorem palanquinlaw15_FragWhole.mono : ∀ a0 a1 k, LeO (palanquinlaw15_FragWhole.f k a0 a1) (palanquinlaw15_FragWhole.f (k + 1) a0 a1) := by
  intro a0 a1 k
  obtain ⟨ih0, ih1, ih2, ih3, ih4⟩ := palanquinlaw15_FragWhole.mono_l k
  unfold palanquinlaw15_FragWhole.f
  repeat' first
      | (with_reducible exact ih0 _ _ _)
      | (with_reducible exact ih1 _ _ _ _ _ _ _ _ _ _ _ _ _ _)
      | (with_reducible exact ih2 _ _ _ _ _ _ _ _ _ _ _ _ _ _ _)
      | (with_reducible exact ih3 _ _ _ _ _ _ _ _ _ _ _ _ _ _ _ _ _ _ _ _ _ _ _ _ _ _ _)
      | (with_reducible exact ih4 _ _ _ _ _ _ _ _ _ _ _ _ _ _ _ _ _ _ _ _ _ _ _ _ _ _ _)
      | (with_reducible exact palanquinlaw15_awake.mono _)
      | (with_reducible exact LeO.refl _)
      | (with_reducible exact LeO.none _)
      | (with_reducible refine LeO.ite ?_ ?_)
      | (with_reducible refine LeO.bind ?_ (fun _ => ?_))
      | exact ih0 _ _ _
      | exact ih1 _ _ _ _ _ _ _ _ _ _ _ _ _ _
      | exact ih2 _ _ _ _ _ _ _ _ _ _ _ _ _ _ _
      | exact ih3 _ _ _ _ _ _ _ _ _ _ _ _ _ _ _ _ _ _ _ _ _ _ _ _ _ _ _
      | exact ih4 _ _ _ _ _ _ _ _ _ _ _ _ _ _ _ _ _ _ _ _ _ _ _ _ _ _ _
      | exact palanquinlaw15_awake.mono _
      | exact LeO.none _
      | refine LeO.ite ?_ ?_
      | refine LeO.bind ?_ (fun _ => ?_)
def palanquinlaw15_FragWhole.T17 : Bool × List (List Nat × List Nat) := (true, [([], []), ([0], [0]), ([1], [1]), ([2], [2]), ([2], [2]), ([3, 4, 2], [2, 3, 4]), ([5, 2], [2, 5]), ([6, 2], [2, 6]), ([2], [2]), ([7, 8, 2], [2, 7, 8]), ([2, 9], [2, 9]), ([10, 2], [10]), ([11], [11]), ([12, 11], [11, 12]), ([11, 13], [11, 13]), ([14, 11], [14]), ([15], [15]), ([16, 15], [15, 16]), ([17, 15], [15, 17]), ([15, 18], [15, 18]), ([19, 15], [19]), ([20], [20]), ([21, 20], [20, 21]), ([22, 20], [20, 22]), ([20], [20]), ([20], [20]), ([24, 25, 20], [20, 24, 25]), ([26, 20], [20, 26]), ([23, 27, 20], [20, 23, 27]), ([20, 28], [20, 28]), ([29, 20], [29]), ([30], [30]), ([31, 30], [30, 31]), ([30], [30]), ([33, 30], [30, 33]), ([30], [30]), ([35, 30], [30, 35]), ([36, 30], [30, 36]), ([34, 37, 30], [30, 34, 37]), ([32, 38, 30], [30, 32, 38]), ([30, 39], [30, 39])])
def palanquinlaw15_FragWhole.B17 : List Nat := [0, 1, 3, 7, 7, 31, 63, 127, 7, 511, 1023, 2047, 4095, 8191, 16383, 32767, 65535, 131071, 262143, 524287, 1048575, 2097151, 4194303, 8388607, 2097151, 2097151, 52428799, 119537663, 268435455, 536870911, 1073741823, 2147483647, 4294967295, 2147483647, 10737418239, 2147483647, 36507222015, 105226698751, 268435455999, 549755813887, 1099511627775]
theorem palanquinlaw15_FragWhole.tab17 : rtab .any (opsOf Try.f32 17) = palanquinlaw15_FragWhole.T17 := by kernel_rfl
theorem palanquinlaw15_FragWhole.bits17 : waitsOk palanquinlaw15_FragWhole.T17.2 palanquinlaw15_FragWhole.B17 = true := by kernel_rfl
def palanquinlaw15_FragWhole.T23 : Bool × List (List Nat × List Nat) := (true, [([], []), ([0], [0]), ([], []), ([2], [2]), ([0, 1], []), ([4, 1, 0, 1], [1, 4]), ([0, 1, 2, 3, 4, 5], []), ([6, 3, 5, 0, 1, 2, 3, 4, 5], [3, 6])])
def palanquinlaw15_FragWhole.B23 : List Nat := [0, 1, 0, 4, 3, 19, 63, 127]
theorem palanquinlaw15_FragWhole.tab23 : rtab .any (opsOf Try.f32 23) = palanquinlaw15_FragWhole.T23 := by kernel_rfl
theorem palanquinlaw15_FragWhole.bits23 : waitsOk palanquinlaw15_FragWhole.T23.2 palanquinlaw15_FragWhole.B23 = true := by kernel_rfl
theorem palanquinlaw15_FragWhole.j1_no : ∀ k y0 y1 y2 y4 y5 y6 y7 y8 y9 y10 y11 y12 y13 r, palanquinlaw15_FragWhole.j1 k y0 y1 y2 true y4 y5 y6 y7 y8 y9 y10 y11 y12 y13 = some r → Aside0 (r = true) → False
  | 0, _, _, _, _, _, _, _, _, _, _, _, _, _, _ => fun h _ => by simp [palanquinlaw15_FragWhole.j1] at h
  | k + 1, _, _, _, _, _, _, _, _, _, _, _, _, _, _ => fun h hr => by rw [palanquinlaw15_FragWhole.j1, if_pos rfl] at h; exact absurd ((Option.some.inj h).trans hr.out) (by decide)
theorem palanquinlaw15_FragWhole.j3_no : ∀ k y0 y1 y2 y3 y4 y5 y7 y8 y9 y10 y11 y12 y13 y14 y15 y16 y17 y18 y19 y20 y21 y22 y23 y24 y25 y26 r, palanquinlaw15_FragWhole.j3 k y0 y1 y2 y3 y4 y5 true y7 y8 y9 y10 y11 y12 y13 y14 y15 y16 y17 y18 y19 y20 y21 y22 y23 y24 y25 y26 = some r → Aside0 (r = true) → False
  | 0, _, _, _, _, _, _, _, _, _, _, _, _, _, _, _, _, _, _, _, _, _, _, _, _, _, _, _ => fun h _ => by simp [palanquinlaw15_FragWhole.j3] at h
  | k + 1, _, _, _, _, _, _, _, _, _, _, _, _, _, _, _, _, _, _, _, _, _, _, _, _, _, _, _ => fun h hr => by rw [palanquinlaw15_FragWhole.j3, if_pos rfl] at h; exact absurd ((Option.some.inj h).trans hr.out) (by decide)
theorem palanquinlaw15_FragWhole.j4_no : ∀ k y0 y1 y2 y3 y4 y5 y7 y8 y9 y10 y11 y12 y13 y14 y15 y16 y17 y18 y19 y20 y21 y22 y23 y24 y25 y26 r, palanquinlaw15_FragWhole.j4 k y0 y1 y2 y3 y4 y5 true y7 y8 y9 y10 y11 y12 y13 y14 y15 y16 y17 y18 y19 y20 y21 y22 y23 y24 y25 y26 = some r → Aside0 (r = true) → False
  | 0, _, _, _, _, _, _, _, _, _, _, _, _, _, _, _, _, _, _, _, _, _, _, _, _, _, _, _ => fun h _ => by simp [palanquinlaw15_FragWhole.j4] at h
  | k + 1, _, _, _, _, _, _, _, _, _, _, _, _, _, _, _, _, _, _, _, _, _, _, _, _, _, _, _ => fun h hr => by rw [palanquinlaw15_FragWhole.j4, if_pos rfl] at h; exact absurd ((Option.some.inj h).trans hr.out) (by decide)
set_option maxHeartbeats 8000000 in
set_option maxRecDepth 100000 in
theorem palanquinlaw15_FragWhole.calls (k : Nat) (a0 : ByteArray) (a1 : Int) (r : Bool) (w : World) (h : palanquinlaw15_FragWhole.f k a0 a1 = some r) (hrt_ : Aside0 (r = true)) :
    Calls Try.prog 32 #[.string a0, .int .i64 a1] w fun e w' => e = .returned (.bool r) ∧ Below w.heap.size w w' := by
  have hu93 := Try.underlying93
  have HB := Aside0.mk (Below.refl w.heap.size w)
  have H : ((palanquinlaw15_awake.f k).bind fun t804 => (if t804 = true then (if (a0.size : Int) > 70000 then (palanquinlaw15_FragWhole.j0 k a0 a1 true) else (if (a0.size : Int) > 3000 then (palanquinlaw15_FragWhole.j0 k a0 a1 (decide (a1 < 400))) else (palanquinlaw15_FragWhole.j0 k a0 a1 false))) else (some false))) = some r := h
  clear h
  replace H := Option.bind_eq_some_iff.mp H
  obtain ⟨t804, A30, H⟩ := H
  replace H : (if t804 = true then (if (a0.size : Int) > 70000 then (palanquinlaw15_FragWhole.j0 k a0 a1 true) else (if (a0.size : Int) > 3000 then (palanquinlaw15_FragWhole.j0 k a0 a1 (decide (a1 < 400))) else (palanquinlaw15_FragWhole.j0 k a0 a1 false))) else (some false)) = some r := H
  have A3 := Aside0.mk A30
  clear A30
  by_cases c4 : t804 = true
  · subst c4
    have H1 : (if (a0.size : Int) > 70000 then (palanquinlaw15_FragWhole.j0 k a0 a1 true) else (if (a0.size : Int) > 3000 then (palanquinlaw15_FragWhole.j0 k a0 a1 (decide (a1 < 400))) else (palanquinlaw15_FragWhole.j0 k a0 a1 false))) = some r := by rw [if_pos rfl] at H; exact H
    clear H
    have H := H1
    clear H1
    have HC5 := Aside0.mk H
    clear H
    go_enter Try.func32, Try.ntmps32
    go_upto_region 3 with (first | ((with_reducible refine gate_callee (f := 113) rfl ?_); refine goesL_ (some 18) rfl rfl Try.func113 (by kernel_rfl) rfl #[] rfl (by (try simp only [List.map_toArray, List.map_cons, List.map_nil]); first | done | rfl | (simp only [List.length_drop, List.length_take]; rfl)) ?_; (with_reducible refine (palanquinlaw15_awake.calls k  true _ A3.out).mono ?_); rintro e w6 ⟨rfl, hb⟩; refine ⟨_, rfl, ?_⟩; have n0_ := Aside0.mk (below_step (by repeat (first | (with_reducible first | exact HB.out | apply below_alloc | apply pw_below_drewN | apply below_drew1) | exact HB.out)) hb); clear HB; have HB := n0_; clear n0_; (try clear hb); (try clear hb2); (try clear hk); (try clear hi)))
    (try simp only [Act.put, List.setIfInBounds_toArray, List.set_cons_zero, List.set_cons_succ])
    go_cut [31] (fun v31 wc => ∃ (kq : Nat) (x31_4 : Bool), v31 = .bool x31_4 ∧ Aside0 (palanquinlaw15_FragWhole.j0 kq a0 a1 x31_4 = some r) ∧ Aside0 (kq ≤ k) ∧ Aside0 (Below w.heap.size w wc))
    case first =>
      have H := HC5.out
      clear HC5
      by_cases c7 : (a0.size : Int) > 70000
      · rw [if_pos c7] at H
        have c7b0 : decide (70000 < (a0.size : Int)) = true := decide_eq_true c7
        have c7b1 : decide (70000 < a0.size) = true := decide_eq_true (by omega)
        clear c7
        (first | rw [c7b0] | (simp only [i64_w, i32_w]; rw [c7b0]) | skip)
        have H' := Aside0.mk H
        clear H
        go_wp2
        (refine Met.intro ?_; go_step; (repeat apply Exists.intro); (first | refine ⟨?rel, rfl⟩ | (refine ⟨?rel, ?fr⟩; (case fr => (simp only [c49b0]; exact rfl)))))
        case rel => exact ⟨_, (true), (by first | rfl | (simp; done) | (simp [*]; done)), H', ⟨by first | omega | exact Nat.le_refl _⟩, ⟨by repeat (first | (with_reducible first | exact HB.out | apply below_alloc | apply pw_below_drewN | apply below_drew1) | exact HB.out)⟩⟩
      · rw [if_neg c7] at H
        have c7b0 : decide (70000 < (a0.size : Int)) = false := decide_eq_false c7
        have c7b1 : decide (70000 < a0.size) = false := decide_eq_false (by omega)
        clear c7
        (first | rw [c7b0] | (simp only [i64_w, i32_w]; rw [c7b0]) | skip)
        by_cases c8 : (a0.size : Int) > 3000
        · rw [if_pos c8] at H
          have c8b0 : decide (3000 < (a0.size : Int)) = true := decide_eq_true c8
          have c8b1 : decide (3000 < a0.size) = true := decide_eq_true (by omega)
          clear c8
          have H' := Aside0.mk H
          clear H
          go_wp2
          (refine Met.intro ?_; go_step; (repeat apply Exists.intro); (first | refine ⟨?rel, rfl⟩ | (refine ⟨?rel, ?fr⟩; (case fr => (simp only [c49b0]; exact rfl)))))
          case rel => exact ⟨_, (decide (a1 < 400)), (by first | rfl | (simp; done) | (simp [*]; done)), H', ⟨by first | omega | exact Nat.le_refl _⟩, ⟨by repeat (first | (with_reducible first | exact HB.out | apply below_alloc | apply pw_below_drewN | apply below_drew1) | exact HB.out)⟩⟩
        · rw [if_neg c8] at H
          have c8b0 : decide (3000 < (a0.size : Int)) = false := decide_eq_false c8
          have c8b1 : decide (3000 < a0.size) = false := decide_eq_false (by omega)
          clear c8
          have H' := Aside0.mk H
          clear H
          go_wp2
          (refine Met.intro ?_; go_step; (repeat apply Exists.intro); (first | refine ⟨?rel, rfl⟩ | (refine ⟨?rel, ?fr⟩; (case fr => (simp only [c49b0]; exact rfl)))))
          case rel => exact ⟨_, (false), (by first | rfl | (simp; done) | (simp [*]; done)), H', ⟨by first | omega | exact Nat.le_refl _⟩, ⟨by repeat (first | (with_reducible first | exact HB.out | apply below_alloc | apply pw_below_drewN | apply below_drew1) | exact HB.out)⟩⟩
    case rest =>
      clear HC5
      try clear c1
      try clear p2
      try clear c3
      try clear c4
      try clear c7
      try clear c7b0
      try clear c7b1
      try clear c8
      try clear c8b0
      try clear c8b1
      obtain ⟨kq, x31_4, rfl, HA, HJ4, HB⟩ := hcut
      cases kq with
      | zero => exact absurd HA.out (by simp [palanquinlaw15_FragWhole.j0])
      | succ kj4 =>
        have H := HA.out
        clear HA
        simp only [palanquinlaw15_FragWhole.j0] at H
        by_cases c9 : x31_4 = true
        · subst c9
          have H1 : (some true) = some r := by rw [if_pos rfl] at H; exact H
          clear H
          have H := H1
          clear H1
          obtain rfl := Option.some.inj H
          go_wp2
          go_ret
          exact ⟨by first | rfl | (simp [errW_none, errW_some] <;> rfl) | (simp [*, errW_none, errW_some] <;> rfl), by repeat (first | (with_reducible first | exact HB.out | apply below_alloc | apply pw_below_drewN | apply below_drew1) | exact HB.out)⟩
        · replace c9 := Bool.eq_false_iff.mpr c9
          subst c9
          have H1 : ((frag_Cut.f a0 a1).bind fun bt805 => (if bt805.2 = 0 then ((ip4_Get.f a0).bind fun bt809 => (if bt809.2.2.2.2.2.2.2.2.2.2.2 = 0 then (palanquinlaw15_FragWhole.j1 kj4 a1 bt805.1 bt809.2.2.2.2.2.2.2.2.2.2.1 ((bt805.1.length : Int) == 0) bt809.1 bt809.2.1 bt809.2.2.1 bt809.2.2.2.1 bt809.2.2.2.2.1 bt809.2.2.2.2.2.1 bt809.2.2.2.2.2.2.1 bt809.2.2.2.2.2.2.2.1 bt809.2.2.2.2.2.2.2.2.1 bt809.2.2.2.2.2.2.2.2.2.1) else (palanquinlaw15_FragWhole.j1 kj4 a1 bt805.1 bt809.2.2.2.2.2.2.2.2.2.2.1 true bt809.1 bt809.2.1 bt809.2.2.1 bt809.2.2.2.1 bt809.2.2.2.2.1 bt809.2.2.2.2.2.1 bt809.2.2.2.2.2.2.1 bt809.2.2.2.2.2.2.2.1 bt809.2.2.2.2.2.2.2.2.1 bt809.2.2.2.2.2.2.2.2.2.1))) else (some ((bt805.1.length : Int) == 0)))) = some r := by rw [if_neg (show ¬ (false = true) by decide)] at H; exact H
          clear H
          have H := H1
          clear H1
          replace H := Option.bind_eq_some_iff.mp H
          obtain ⟨⟨t805, t806⟩, A100, H⟩ := H
          replace H : (if t806 = 0 then ((ip4_Get.f a0).bind fun bt809 => (if bt809.2.2.2.2.2.2.2.2.2.2.2 = 0 then (palanquinlaw15_FragWhole.j1 kj4 a1 t805 bt809.2.2.2.2.2.2.2.2.2.2.1 ((t805.length : Int) == 0) bt809.1 bt809.2.1 bt809.2.2.1 bt809.2.2.2.1 bt809.2.2.2.2.1 bt809.2.2.2.2.2.1 bt809.2.2.2.2.2.2.1 bt809.2.2.2.2.2.2.2.1 bt809.2.2.2.2.2.2.2.2.1 bt809.2.2.2.2.2.2.2.2.2.1) else (palanquinlaw15_FragWhole.j1 kj4 a1 t805 bt809.2.2.2.2.2.2.2.2.2.2.1 true bt809.1 bt809.2.1 bt809.2.2.1 bt809.2.2.2.1 bt809.2.2.2.2.1 bt809.2.2.2.2.2.1 bt809.2.2.2.2.2.2.1 bt809.2.2.2.2.2.2.2.1 bt809.2.2.2.2.2.2.2.2.1 bt809.2.2.2.2.2.2.2.2.2.1))) else (some ((t805.length : Int) == 0))) = some r := H
          have A10 := Aside0.mk A100
          clear A100
          by_cases c11 : t806 = 0
          · rw [if_pos c11] at H
            have c11b0 : (t806 == 0) = true := beq_iff_eq.mpr c11
            have c11b1 : (t806 != 0) = false := bne_eq_false_iff_eq.mpr c11
            clear c11
            replace H := Option.bind_eq_some_iff.mp H
            obtain ⟨⟨t809, t810, t811, t812, t813, t814, t815, t816, t817, t818, t819, t820⟩, A120, H⟩ := H
            replace H : (if t820 = 0 then (palanquinlaw15_FragWhole.j1 kj4 a1 t805 t819 ((t805.length : Int) == 0) t809 t810 t811 t812 t813 t814 t815 t816 t817 t818) else (palanquinlaw15_FragWhole.j1 kj4 a1 t805 t819 true t809 t810 t811 t812 t813 t814 t815 t816 t817 t818)) = some r := H
            have A12 := Aside0.mk A120
            clear A120
            have HC13 := Aside0.mk H
            clear H
            go_upto_region 9 with (first | ((with_reducible refine gate_callee (f := 114) rfl ?_); refine goesL_ (some 35) rfl rfl Try.func114 (by kernel_rfl) rfl #[.string a0, .int .i64 a1] rfl (by (try simp only [List.map_toArray, List.map_cons, List.map_nil]); first | done | rfl | (simp only [List.length_drop, List.length_take]; rfl)) ?_; (with_reducible refine (frag_Cut.calls a0 a1 t805 t806 _ A10.out).mono ?_); rintro e w14 ⟨v807, rfl, ho0, hb⟩; refine ⟨_, rfl, ?_⟩; have n0_ := Aside0.mk (Kd.R_lower ho0 (below_size (by repeat (first | (with_reducible first | exact HB.out | apply below_alloc | apply pw_below_drewN | apply below_drew1) | exact HB.out)))); have n1_ := Aside0.mk (below_step (by repeat (first | (with_reducible first | exact HB.out | apply below_alloc | apply pw_below_drewN | apply below_drew1) | exact HB.out)) hb); clear HB; have HO808 := n0_; have HB := n1_; clear n0_ n1_; (try clear hb); (try clear hb2); (try clear hk); (try clear hi); (try clear ho0)) | ((with_reducible refine gate_callee (f := 111) rfl ?_); refine goesL_ (some 45) rfl rfl Try.func111 (by kernel_rfl) rfl #[.string a0] rfl (by (try simp only [List.map_toArray, List.map_cons, List.map_nil]); first | done | rfl | (simp only [List.length_drop, List.length_take]; rfl)) ?_; (with_reducible refine (ip4_Get.calls a0 t809 t810 t811 t812 t813 t814 t815 t816 t817 t818 t819 t820 _ A12.out).mono ?_); rintro e w15 ⟨rfl, hb⟩; refine ⟨_, rfl, ?_⟩; have n0_ := Aside0.mk (Kd.R_below (by (with_reducible repeat (first | apply Kd.R_alloc | apply Kd.R_drewN | apply Kd.R_drew)); exact HO808.out) hb); have n1_ := Aside0.mk (below_step (by repeat (first | (with_reducible first | exact HB.out | apply below_alloc | apply pw_below_drewN | apply below_drew1) | exact HB.out)) hb); clear HO808; clear HB; have HO808 := n0_; have HB := n1_; clear n0_ n1_; (try clear hb); (try clear hb2); (try clear hk); (try clear hi)) | ((with_reducible refine gate_dst (N := 7) rfl ?_); (try (refine gate_guard (by rfl) ?_; dsimp only)); refine box_event ?hg (N := 7) ?hd (cs := #[.int .i64 0, .int .i64 0, .int .i64 0, .int .i64 0, .int .i64 0, .bool false, .bool false, .string (⟨#[]⟩ : ByteArray), .string (⟨#[]⟩ : ByteArray), .string (⟨#[]⟩ : ByteArray)]) (t := 93) ?hr ?_; (case hd => rfl); (case hg => rfl); (case hr => first | (go_simp; done) | (go_simp; rfl)); intro gb821 hg w16 hbox hb; have n0_ := Aside0.mk (Kd.R_below (by (with_reducible repeat (first | apply Kd.R_alloc | apply Kd.R_drewN | apply Kd.R_drew)); exact HO808.out) hb); have n1_ := Aside0.mk (below_step (by repeat (first | (with_reducible first | exact HB.out | apply below_alloc | apply pw_below_drewN | apply below_drew1) | exact HB.out)) hb); have n2_ := Aside0.mk (hbox); have n3_ := Aside0.mk ((by rw [hg]; exact (below_size (by repeat (first | (with_reducible first | exact HB.out | apply below_alloc | apply pw_below_drewN | apply below_drew1) | exact HB.out))) : w.heap.size ≤ gb821)); have n4_ := Aside0.mk ((by rw [hg]; exact (below_size (by repeat (first | (with_reducible first | exact HB.out | apply below_alloc | apply pw_below_drewN | apply below_drew1) | exact HB.out))) : w.heap.size ≤ gb821)); clear HO808; clear HB; have HO808 := n0_; have HB := n1_; have BK821 := n2_; have GW821 := n3_; have GE821 := n4_; clear n0_ n1_ n2_ n3_ n4_; clear hb hbox hg; have hcz17_0 : w16.cell? ⟨gb821, 0, none⟩ = some (.int .i64 0) := (blk_cell BK821.out 0).trans rfl; have hcz17_1 : w16.cell? ⟨gb821, 1, none⟩ = some (.int .i64 0) := (blk_cell BK821.out 1).trans rfl; have hcz17_2 : w16.cell? ⟨gb821, 2, none⟩ = some (.int .i64 0) := (blk_cell BK821.out 2).trans rfl; have hcz17_3 : w16.cell? ⟨gb821, 3, none⟩ = some (.int .i64 0) := (blk_cell BK821.out 3).trans rfl; have hcz17_4 : w16.cell? ⟨gb821, 4, none⟩ = some (.int .i64 0) := (blk_cell BK821.out 4).trans rfl; have hcz17_5 : w16.cell? ⟨gb821, 5, none⟩ = some (.bool false) := (blk_cell BK821.out 5).trans rfl; have hcz17_6 : w16.cell? ⟨gb821, 6, none⟩ = some (.bool false) := (blk_cell BK821.out 6).trans rfl; have hcz17_7 : w16.cell? ⟨gb821, 7, none⟩ = some (.string (⟨#[]⟩ : ByteArray)) := (blk_cell BK821.out 7).trans rfl; have hcz17_8 : w16.cell? ⟨gb821, 8, none⟩ = some (.string (⟨#[]⟩ : ByteArray)) := (blk_cell BK821.out 8).trans rfl; have hcz17_9 : w16.cell? ⟨gb821, 9, none⟩ = some (.string (⟨#[]⟩ : ByteArray)) := (blk_cell BK821.out 9).trans rfl; have hfz17_0 := blk_frozen BK821.out 0; have hfz17_1 := blk_frozen BK821.out 1; have hfz17_2 := blk_frozen BK821.out 2; have hfz17_3 := blk_frozen BK821.out 3; have hfz17_4 := blk_frozen BK821.out 4; have hfz17_5 := blk_frozen BK821.out 5; have hfz17_6 := blk_frozen BK821.out 6; have hfz17_7 := blk_frozen BK821.out 7; have hfz17_8 := blk_frozen BK821.out 8; have hfz17_9 := blk_frozen BK821.out 9))
            (try simp only [Act.put, List.setIfInBounds_toArray, List.set_cons_zero, List.set_cons_succ])
            go_cut [55] (fun v55 wc => ∃ (kq : Nat) (x55_12 : Bool), v55 = .bool x55_12 ∧ Aside0 (palanquinlaw15_FragWhole.j1 kq a1 t805 t819 x55_12 t809 t810 t811 t812 t813 t814 t815 t816 t817 t818 = some r) ∧ Aside0 (kq ≤ kj4) ∧ Aside0 (Kd.R Kd.string 9 wc w.heap.size (fun _ => True) v807 t805) ∧ Aside0 (wc.heap[gb821]? = some (.cells #[.int .i64 t809, .int .i64 t810, .int .i64 t811, .int .i64 t812, .int .i64 t813, .bool t814, .bool t815, .string t816, .string t817, .string t818] 93 (0, 0))) ∧ Aside0 (Below w.heap.size w wc))
            case first =>
              have H := HC13.out
              clear HC13
              by_cases c18 : t820 = 0
              · rw [if_pos c18] at H
                have c18b0 : (t820 == 0) = true := beq_iff_eq.mpr c18
                have c18b1 : (t820 != 0) = false := bne_eq_false_iff_eq.mpr c18
                clear c18
                (first | rw [c18b0] | (simp only [i64_w, i32_w]; rw [c18b0]) | skip)
                have H' := Aside0.mk H
                clear H
                obtain ⟨Ao19, co19, eo19⟩ := Kd.R_slice HO808.out
                subst eo19
                go_wp2
                (refine Met.intro ?_; go_step; (repeat apply Exists.intro); (first | refine ⟨?rel, rfl⟩ | (refine ⟨?rel, ?fr⟩; (case fr => (simp only [c49b0]; exact rfl)))))
                case rel => exact ⟨_, (((t805.length : Int) == 0)), (by first | rfl | (simp; done) | (simp [*]; done)), H', ⟨by have := HJ4.out; first | omega | exact Nat.le_refl _⟩, ⟨by (with_reducible repeat (first | apply Kd.R_alloc | apply Kd.R_drewN | apply Kd.R_drew)); exact Kd.R_mono (Kd.R_far (p := ⟨gb821, 9, none⟩) (Kd.R_far (p := ⟨gb821, 8, none⟩) (Kd.R_far (p := ⟨gb821, 7, none⟩) (Kd.R_far (p := ⟨gb821, 6, none⟩) (Kd.R_far (p := ⟨gb821, 5, none⟩) (Kd.R_far (p := ⟨gb821, 4, none⟩) (Kd.R_far (p := ⟨gb821, 3, none⟩) (Kd.R_far (p := ⟨gb821, 2, none⟩) (Kd.R_far (p := ⟨gb821, 1, none⟩) (Kd.R_far (p := ⟨gb821, 0, none⟩) (Kd.R_types HO808.out BK821.out (by decide)) (fun _ hk => hk.2) (.int .i64 t809)) (fun _ hk => hk.2) (.int .i64 t810)) (fun _ hk => hk.2) (.int .i64 t811)) (fun _ hk => hk.2) (.int .i64 t812)) (fun _ hk => hk.2) (.int .i64 t813)) (fun _ hk => hk.2) (.bool t814)) (fun _ hk => hk.2) (.bool t815)) (fun _ hk => hk.2) (.string t816)) (fun _ hk => hk.2) (.string t817)) (fun _ hk => hk.2) (.string t818)) (fun _ hk => trivial)⟩, ⟨by (with_reducible repeat (first | refine blk_drewN ?_ _ | refine blk_drew ?_ | refine blk_alloc ?_ _)); refine blk_put (cs := #[.int .i64 t809, .int .i64 t810, .int .i64 t811, .int .i64 t812, .int .i64 t813, .bool t814, .bool t815, .string t816, .string t817, .string (⟨#[]⟩ : ByteArray)]) ?_ 9 _ rfl; (with_reducible repeat (first | refine blk_drewN ?_ _ | refine blk_drew ?_ | refine blk_alloc ?_ _)); refine blk_put (cs := #[.int .i64 t809, .int .i64 t810, .int .i64 t811, .int .i64 t812, .int .i64 t813, .bool t814, .bool t815, .string t816, .string (⟨#[]⟩ : ByteArray), .string (⟨#[]⟩ : ByteArray)]) ?_ 8 _ rfl; (with_reducible repeat (first | refine blk_drewN ?_ _ | refine blk_drew ?_ | refine blk_alloc ?_ _)); refine blk_put (cs := #[.int .i64 t809, .int .i64 t810, .int .i64 t811, .int .i64 t812, .int .i64 t813, .bool t814, .bool t815, .string (⟨#[]⟩ : ByteArray), .string (⟨#[]⟩ : ByteArray), .string (⟨#[]⟩ : ByteArray)]) ?_ 7 _ rfl; (with_reducible repeat (first | refine blk_drewN ?_ _ | refine blk_drew ?_ | refine blk_alloc ?_ _)); refine blk_put (cs := #[.int .i64 t809, .int .i64 t810, .int .i64 t811, .int .i64 t812, .int .i64 t813, .bool t814, .bool false, .string (⟨#[]⟩ : ByteArray), .string (⟨#[]⟩ : ByteArray), .string (⟨#[]⟩ : ByteArray)]) ?_ 6 _ rfl; (with_reducible repeat (first | refine blk_drewN ?_ _ | refine blk_drew ?_ | refine blk_alloc ?_ _)); refine blk_put (cs := #[.int .i64 t809, .int .i64 t810, .int .i64 t811, .int .i64 t812, .int .i64 t813, .bool false, .bool false, .string (⟨#[]⟩ : ByteArray), .string (⟨#[]⟩ : ByteArray), .string (⟨#[]⟩ : ByteArray)]) ?_ 5 _ rfl; (with_reducible repeat (first | refine blk_drewN ?_ _ | refine blk_drew ?_ | refine blk_alloc ?_ _)); refine blk_put (cs := #[.int .i64 t809, .int .i64 t810, .int .i64 t811, .int .i64 t812, .int .i64 0, .bool false, .bool false, .string (⟨#[]⟩ : ByteArray), .string (⟨#[]⟩ : ByteArray), .string (⟨#[]⟩ : ByteArray)]) ?_ 4 _ rfl; (with_reducible repeat (first | refine blk_drewN ?_ _ | refine blk_drew ?_ | refine blk_alloc ?_ _)); refine blk_put (cs := #[.int .i64 t809, .int .i64 t810, .int .i64 t811, .int .i64 0, .int .i64 0, .bool false, .bool false, .string (⟨#[]⟩ : ByteArray), .string (⟨#[]⟩ : ByteArray), .string (⟨#[]⟩ : ByteArray)]) ?_ 3 _ rfl; (with_reducible repeat (first | refine blk_drewN ?_ _ | refine blk_drew ?_ | refine blk_alloc ?_ _)); refine blk_put (cs := #[.int .i64 t809, .int .i64 t810, .int .i64 0, .int .i64 0, .int .i64 0, .bool false, .bool false, .string (⟨#[]⟩ : ByteArray), .string (⟨#[]⟩ : ByteArray), .string (⟨#[]⟩ : ByteArray)]) ?_ 2 _ rfl; (with_reducible repeat (first | refine blk_drewN ?_ _ | refine blk_drew ?_ | refine blk_alloc ?_ _)); refine blk_put (cs := #[.int .i64 t809, .int .i64 0, .int .i64 0, .int .i64 0, .int .i64 0, .bool false, .bool false, .string (⟨#[]⟩ : ByteArray), .string (⟨#[]⟩ : ByteArray), .string (⟨#[]⟩ : ByteArray)]) ?_ 1 _ rfl; (with_reducible repeat (first | refine blk_drewN ?_ _ | refine blk_drew ?_ | refine blk_alloc ?_ _)); refine blk_put (cs := #[.int .i64 0, .int .i64 0, .int .i64 0, .int .i64 0, .int .i64 0, .bool false, .bool false, .string (⟨#[]⟩ : ByteArray), .string (⟨#[]⟩ : ByteArray), .string (⟨#[]⟩ : ByteArray)]) ?_ 0 _ rfl; (with_reducible repeat (first | refine blk_drewN ?_ _ | refine blk_drew ?_ | refine blk_alloc ?_ _)); exact BK821.out⟩, ⟨by repeat (first | (with_reducible first | exact HB.out | apply below_alloc | apply pw_below_drewN | apply below_drew1 | refine below_set ?_ GE821.out) | exact HB.out)⟩⟩
              · rw [if_neg c18] at H
                exact (palanquinlaw15_FragWhole.j1_no _ _ _ _ _ _ _ _ _ _ _ _ _ _ _ H hrt_).elim
            case rest =>
              clear HC13
              try clear c1
              try clear p2
              try clear c3
              try clear c4
              try clear p4
              try clear c7
              try clear c7b0
              try clear c7b1
              try clear c8
              try clear c8b0
              try clear c8b1
              try clear c9
              try clear c11
              try clear c11b0
              try clear c11b1
              try clear c18
              try clear c18b0
              try clear c18b1
              try clear hcz17_0
              try clear hcz17_1
              try clear hcz17_2
              try clear hcz17_3
              try clear hcz17_4
              try clear hcz17_5
              try clear hcz17_6
              try clear hcz17_7
              try clear hcz17_8
              try clear hcz17_9
              try clear hfz17_0
              try clear hfz17_1
              try clear hfz17_2
              try clear hfz17_3
              try clear hfz17_4
              try clear hfz17_5
              try clear hfz17_6
              try clear hfz17_7
              try clear hfz17_8
              try clear hfz17_9
              try clear p2
              obtain ⟨kq, x55_12, rfl, HA, HJ12, HO_5, BK821, HB⟩ := hcut
              cases kq with
              | zero => exact absurd HA.out (by simp [palanquinlaw15_FragWhole.j1])
              | succ kj12 =>
                have H := HA.out
                clear HA
                simp only [palanquinlaw15_FragWhole.j1] at H
                by_cases c20 : x55_12 = true
                · subst c20
                  have H1 : (some false) = some r := by rw [if_pos rfl] at H; exact H
                  exact absurd ((Option.some.inj H1).trans hrt_.out) (by decide)
                · replace c20 := Bool.eq_false_iff.mpr c20
                  subst c20
                  have H1 : (palanquinlaw15_FragWhole.l0 kj12 a1 t805 t819 (⟨#[]⟩ : ByteArray) 0 t809 t810 t811 t812 t813 t814 t815 t816 t817 t818) = some r := by rw [if_neg (show ¬ (false = true) by decide)] at H; exact H
                  clear H
                  have H := H1
                  clear H1
                  have H' := Aside0.mk H
                  clear H
                  go_wp2
                  go_loopg [10, 11] kj12 (fun kq v10 v11 w' => ∃ (x10_3 : ByteArray) (x11_3 : Int), v10 = .string x10_3 ∧ v11 = .int .i64 x11_3 ∧ Aside0 (palanquinlaw15_FragWhole.l0 kq a1 t805 t819 x10_3 x11_3 t809 t810 t811 t812 t813 t814 t815 t816 t817 t818 = some r) ∧ Aside0 (kq ≤ kj12) ∧ Aside0 (Kd.R Kd.string 9 w' w.heap.size (fun _ => True) v807 t805) ∧ Aside0 (w'.heap[gb821]? = some (.cells #[.int .i64 t809, .int .i64 t810, .int .i64 t811, .int .i64 t812, .int .i64 t813, .bool t814, .bool t815, .string t816, .string t817, .string t818] 93 (0, 0))) ∧ Aside0 (Below w.heap.size w w'))
                  case atStart => exact ⟨((⟨#[]⟩ : ByteArray)), (0), (by first | rfl | (simp; done) | (simp [*]; done)), (by first | rfl | (simp; done) | (simp [*]; done)), H', ⟨Nat.le_refl _⟩, ⟨by (with_reducible repeat (first | apply Kd.R_alloc | apply Kd.R_drewN | apply Kd.R_drew)); exact HO_5.out⟩, ⟨by (with_reducible repeat (first | refine blk_drewN ?_ _ | refine blk_drew ?_ | refine blk_alloc ?_ _)); exact BK821.out⟩, ⟨by repeat (first | (with_reducible first | exact HB.out | apply below_alloc | apply pw_below_drewN | apply below_drew1 | refine below_set ?_ GE821.out) | exact HB.out)⟩⟩
                  case round =>
                    clear H'
                    try clear c1
                    try clear c2
                    try clear p2
                    try clear c3
                    try clear c4
                    try clear p4
                    try clear c7
                    try clear c7b0
                    try clear c7b1
                    try clear c8
                    try clear c8b0
                    try clear c8b1
                    try clear c9
                    try clear c11
                    try clear c11b0
                    try clear c11b1
                    try clear c18
                    try clear c18b0
                    try clear c18b1
                    try clear c20
                    try clear hcz17_0
                    try clear hcz17_1
                    try clear hcz17_2
                    try clear hcz17_3
                    try clear hcz17_4
                    try clear hcz17_5
                    try clear hcz17_6
                    try clear hcz17_7
                    try clear hcz17_8
                    try clear hcz17_9
                    try clear hfz17_0
                    try clear hfz17_1
                    try clear hfz17_2
                    try clear hfz17_3
                    try clear hfz17_4
                    try clear hfz17_5
                    try clear hfz17_6
                    try clear hfz17_7
                    try clear hfz17_8
                    try clear hfz17_9
                    try clear p2
                    try clear p4
                    obtain ⟨x10_3, x11_3, rfl, rfl, HA, HK3, HO_5, BK821, HB⟩ := hrel
                    cases gk with
                    | zero => exact absurd HA.out (by simp [palanquinlaw15_FragWhole.l0])
                    | succ k3 =>
                      have H := HA.out
                      clear HA
                      simp only [palanquinlaw15_FragWhole.l0] at H
                      by_cases c21 : x11_3 < (t805.length : Int)
                      · rw [if_pos c21] at H
                        have c21b0 : decide (x11_3 < (t805.length : Int)) = true := decide_eq_true c21
                        clear c21
                        by_cases c22 : 0 ≤ x11_3
                        · rw [if_pos c22] at H
                          have c22b0 : decide (0 ≤ x11_3) = true := decide_eq_true c22
                          clear c22
                          replace H := Option.bind_eq_some_iff.mp H
                          obtain ⟨⟨t823, t824, t825, t826, t827, t828, t829, t830, t831, t832, t833, t834⟩, A230, H⟩ := H
                          replace H : ((frag_Cut.f (rdOf ByteArray.empty t805 x11_3) a1).bind fun bt837 => (if t834 = 0 then (if ((rdOf ByteArray.empty t805 x11_3).size : Int) > a1 then (palanquinlaw15_FragWhole.j3 k3 a1 t805 t819 x10_3 x11_3 t833 true t809 t810 t811 t812 t813 t814 t815 t816 t817 t818 t823 t824 t825 t826 t827 t828 t829 t830 t831 t832) else (if bt837.2 = 0 then (if (bt837.1.length : Int) = 1 then (if 0 < (bt837.1.length : Int) then (if (rdOf ByteArray.empty bt837.1 0).toList = (rdOf ByteArray.empty t805 x11_3).toList then (palanquinlaw15_FragWhole.j3 k3 a1 t805 t819 x10_3 x11_3 t833 (t825 != (wrap64 (t811 + (wrap64 ((x10_3.size : Int) / 8))))) t809 t810 t811 t812 t813 t814 t815 t816 t817 t818 t823 t824 t825 t826 t827 t828 t829 t830 t831 t832) else (palanquinlaw15_FragWhole.j3 k3 a1 t805 t819 x10_3 x11_3 t833 true t809 t810 t811 t812 t813 t814 t815 t816 t817 t818 t823 t824 t825 t826 t827 t828 t829 t830 t831 t832)) else (none)) else (palanquinlaw15_FragWhole.j3 k3 a1 t805 t819 x10_3 x11_3 t833 true t809 t810 t811 t812 t813 t814 t815 t816 t817 t818 t823 t824 t825 t826 t827 t828 t829 t830 t831 t832)) else (palanquinlaw15_FragWhole.j3 k3 a1 t805 t819 x10_3 x11_3 t833 true t809 t810 t811 t812 t813 t814 t815 t816 t817 t818 t823 t824 t825 t826 t827 t828 t829 t830 t831 t832))) else (palanquinlaw15_FragWhole.j3 k3 a1 t805 t819 x10_3 x11_3 t833 true t809 t810 t811 t812 t813 t814 t815 t816 t817 t818 t823 t824 t825 t826 t827 t828 t829 t830 t831 t832))) = some r := H
                          have A23 := Aside0.mk A230
                          clear A230
                          replace H := Option.bind_eq_some_iff.mp H
                          obtain ⟨⟨t837, t838⟩, A240, H⟩ := H
                          replace H : (if t834 = 0 then (if ((rdOf ByteArray.empty t805 x11_3).size : Int) > a1 then (palanquinlaw15_FragWhole.j3 k3 a1 t805 t819 x10_3 x11_3 t833 true t809 t810 t811 t812 t813 t814 t815 t816 t817 t818 t823 t824 t825 t826 t827 t828 t829 t830 t831 t832) else (if t838 = 0 then (if (t837.length : Int) = 1 then (if 0 < (t837.length : Int) then (if (rdOf ByteArray.empty t837 0).toList = (rdOf ByteArray.empty t805 x11_3).toList then (palanquinlaw15_FragWhole.j3 k3 a1 t805 t819 x10_3 x11_3 t833 (t825 != (wrap64 (t811 + (wrap64 ((x10_3.size : Int) / 8))))) t809 t810 t811 t812 t813 t814 t815 t816 t817 t818 t823 t824 t825 t826 t827 t828 t829 t830 t831 t832) else (palanquinlaw15_FragWhole.j3 k3 a1 t805 t819 x10_3 x11_3 t833 true t809 t810 t811 t812 t813 t814 t815 t816 t817 t818 t823 t824 t825 t826 t827 t828 t829 t830 t831 t832)) else (none)) else (palanquinlaw15_FragWhole.j3 k3 a1 t805 t819 x10_3 x11_3 t833 true t809 t810 t811 t812 t813 t814 t815 t816 t817 t818 t823 t824 t825 t826 t827 t828 t829 t830 t831 t832)) else (palanquinlaw15_FragWhole.j3 k3 a1 t805 t819 x10_3 x11_3 t833 true t809 t810 t811 t812 t813 t814 t815 t816 t817 t818 t823 t824 t825 t826 t827 t828 t829 t830 t831 t832))) else (palanquinlaw15_FragWhole.j3 k3 a1 t805 t819 x10_3 x11_3 t833 true t809 t810 t811 t812 t813 t814 t815 t816 t817 t818 t823 t824 t825 t826 t827 t828 t829 t830 t831 t832)) = some r := H
                          have A24 := Aside0.mk A240
                          clear A240
                          have HC25 := Aside0.mk H
                          clear H
                          obtain ⟨Ao26, co26, eo26⟩ := Kd.R_slice HO_5.out
                          subst eo26
                          have p822 : 0 ≤ (x11_3 : Int) := of_decide_eq_true (by first | (with_reducible assumption) | assumption)
                          have q822 : x11_3 < (t805.length : Int) := of_decide_eq_true (by first | (with_reducible assumption) | assumption)
                          obtain ⟨ad822, e822, hx822_0⟩ := Kd.at_string (Kd.R_reads' HO_5.out).2.2 x11_3 p822 q822
                          cases e822
                          replace p822 := eq_true p822
                          replace q822 := eq_true q822
                          go_upto_region 17 with (first | ((with_reducible refine gate_callee (f := 111) rfl ?_); refine goesL_ (some 67) rfl rfl Try.func111 (by kernel_rfl) rfl #[.string (rdOf ByteArray.empty t805 x11_3)] rfl (by (try simp only [List.map_toArray, List.map_cons, List.map_nil]); first | done | rfl | (simp only [List.length_drop, List.length_take]; rfl)) ?_; (with_reducible refine (ip4_Get.calls (rdOf ByteArray.empty t805 x11_3) t823 t824 t825 t826 t827 t828 t829 t830 t831 t832 t833 t834 _ A23.out).mono ?_); rintro e w27 ⟨rfl, hb⟩; refine ⟨_, rfl, ?_⟩; have n0_ := Aside0.mk (Kd.R_below (by (with_reducible repeat (first | apply Kd.R_alloc | apply Kd.R_drewN | apply Kd.R_drew)); exact HO_5.out) hb); have n1_ := Aside0.mk (blk_below (g := gb821) (o := .cells #[.int .i64 t809, .int .i64 t810, .int .i64 t811, .int .i64 t812, .int .i64 t813, .bool t814, .bool t815, .string t816, .string t817, .string t818] 93 (0, 0)) (by (with_reducible repeat (first | refine blk_drewN ?_ _ | refine blk_drew ?_ | refine blk_alloc ?_ _)); exact BK821.out) hb); have n2_ := Aside0.mk (below_step (by repeat (first | (with_reducible first | exact HB.out | apply below_alloc | apply pw_below_drewN | apply below_drew1 | refine below_set ?_ GE821.out) | exact HB.out)) hb); clear HO_5; clear BK821; clear HB; have HO_5 := n0_; have BK821 := n1_; have HB := n2_; clear n0_ n1_ n2_; (try clear hb); (try clear hb2); (try clear hk); (try clear hi)) | ((with_reducible refine gate_dst (N := 12) rfl ?_); (try (refine gate_guard (by rfl) ?_; dsimp only)); refine box_event ?hg (N := 12) ?hd (cs := #[.int .i64 0, .int .i64 0, .int .i64 0, .int .i64 0, .int .i64 0, .bool false, .bool false, .string (⟨#[]⟩ : ByteArray), .string (⟨#[]⟩ : ByteArray), .string (⟨#[]⟩ : ByteArray)]) (t := 93) ?hr ?_; (case hd => rfl); (case hg => rfl); (case hr => first | (go_simp; done) | (go_simp; rfl)); intro gb835 hg w28 hbox hb; have n0_ := Aside0.mk (Kd.R_below (by (with_reducible repeat (first | apply Kd.R_alloc | apply Kd.R_drewN | apply Kd.R_drew)); exact HO_5.out) hb); have n1_ := Aside0.mk (blk_below (g := gb821) (o := .cells #[.int .i64 t809, .int .i64 t810, .int .i64 t811, .int .i64 t812, .int .i64 t813, .bool t814, .bool t815, .string t816, .string t817, .string t818] 93 (0, 0)) (by (with_reducible repeat (first | refine blk_drewN ?_ _ | refine blk_drew ?_ | refine blk_alloc ?_ _)); exact BK821.out) hb); have n2_ := Aside0.mk (below_step (by repeat (first | (with_reducible first | exact HB.out | apply below_alloc | apply pw_below_drewN | apply below_drew1 | refine below_set ?_ GE821.out) | exact HB.out)) hb); have n3_ := Aside0.mk (hbox); have n4_ := Aside0.mk ((by rw [hg]; exact (below_size (by repeat (first | (with_reducible first | exact HB.out | apply below_alloc | apply pw_below_drewN | apply below_drew1 | refine below_set ?_ GE821.out) | exact HB.out))) : w.heap.size ≤ gb835)); have n5_ := Aside0.mk ((by rw [hg]; exact (below_size (by repeat (first | (with_reducible first | exact HB.out | apply below_alloc | apply pw_below_drewN | apply below_drew1 | refine below_set ?_ GE821.out) | exact HB.out))) : w.heap.size ≤ gb835)); have n6_ := Aside0.mk ((by rw [hg]; exact Nat.ne_of_lt (blk_lt (g := gb821) (o := .cells #[.int .i64 t809, .int .i64 t810, .int .i64 t811, .int .i64 t812, .int .i64 t813, .bool t814, .bool t815, .string t816, .string t817, .string t818] 93 (0, 0)) (by (with_reducible repeat (first | refine blk_drewN ?_ _ | refine blk_drew ?_ | refine blk_alloc ?_ _)); exact BK821.out)) : gb821 ≠ gb835)); have n7_ := Aside0.mk ((by rw [hg]; exact Nat.ne_of_gt (blk_lt (g := gb821) (o := .cells #[.int .i64 t809, .int .i64 t810, .int .i64 t811, .int .i64 t812, .int .i64 t813, .bool t814, .bool t815, .string t816, .string t817, .string t818] 93 (0, 0)) (by (with_reducible repeat (first | refine blk_drewN ?_ _ | refine blk_drew ?_ | refine blk_alloc ?_ _)); exact BK821.out)) : gb835 ≠ gb821)); clear HO_5; clear BK821; clear HB; have HO_5 := n0_; have BK821 := n1_; have HB := n2_; have BK835 := n3_; have GW835 := n4_; have GE835 := n5_; have NB821_835 := n6_; have NB835_821 := n7_; clear n0_ n1_ n2_ n3_ n4_ n5_ n6_ n7_; clear hb hbox hg; have hnb29 := NB835_821.out; have hnc29 := NB821_835.out; have hcz30_0 : w28.cell? ⟨gb835, 0, none⟩ = some (.int .i64 0) := (blk_cell BK835.out 0).trans rfl; have hcz30_1 : w28.cell? ⟨gb835, 1, none⟩ = some (.int .i64 0) := (blk_cell BK835.out 1).trans rfl; have hcz30_2 : w28.cell? ⟨gb835, 2, none⟩ = some (.int .i64 0) := (blk_cell BK835.out 2).trans rfl; have hcz30_3 : w28.cell? ⟨gb835, 3, none⟩ = some (.int .i64 0) := (blk_cell BK835.out 3).trans rfl; have hcz30_4 : w28.cell? ⟨gb835, 4, none⟩ = some (.int .i64 0) := (blk_cell BK835.out 4).trans rfl; have hcz30_5 : w28.cell? ⟨gb835, 5, none⟩ = some (.bool false) := (blk_cell BK835.out 5).trans rfl; have hcz30_6 : w28.cell? ⟨gb835, 6, none⟩ = some (.bool false) := (blk_cell BK835.out 6).trans rfl; have hcz30_7 : w28.cell? ⟨gb835, 7, none⟩ = some (.string (⟨#[]⟩ : ByteArray)) := (blk_cell BK835.out 7).trans rfl; have hcz30_8 : w28.cell? ⟨gb835, 8, none⟩ = some (.string (⟨#[]⟩ : ByteArray)) := (blk_cell BK835.out 8).trans rfl; have hcz30_9 : w28.cell? ⟨gb835, 9, none⟩ = some (.string (⟨#[]⟩ : ByteArray)) := (blk_cell BK835.out 9).trans rfl; have hfz30_0 := blk_frozen BK835.out 0; have hfz30_1 := blk_frozen BK835.out 1; have hfz30_2 := blk_frozen BK835.out 2; have hfz30_3 := blk_frozen BK835.out 3; have hfz30_4 := blk_frozen BK835.out 4; have hfz30_5 := blk_frozen BK835.out 5; have hfz30_6 := blk_frozen BK835.out 6; have hfz30_7 := blk_frozen BK835.out 7; have hfz30_8 := blk_frozen BK835.out 8; have hfz30_9 := blk_frozen BK835.out 9; have p836 : 0 ≤ (x11_3 : Int) := of_decide_eq_true (by first | (with_reducible assumption) | assumption); have q836 : x11_3 < (t805.length : Int) := of_decide_eq_true (by first | (with_reducible assumption) | assumption); obtain ⟨ad836, e836, hx836_0⟩ := Kd.at_string (Kd.R_reads' HO_5.out).2.2 x11_3 p836 q836; obtain rfl : ad822 = ad836 := (by injection e836); have hn836_0 : ad822.block ≠ gb835 := Kd.own_blk (Kd.R_ne HO_5.out BK835.out (by decide)); have hn836_1 : ad822.block ≠ gb835 := Kd.own_blk (Kd.R_ne HO_5.out BK835.out (by decide)); have hn836_2 : ad822.block ≠ gb835 := Kd.own_blk (Kd.R_ne HO_5.out BK835.out (by decide)); have hn836_3 : ad822.block ≠ gb835 := Kd.own_blk (Kd.R_ne HO_5.out BK835.out (by decide)); have hn836_4 : ad822.block ≠ gb835 := Kd.own_blk (Kd.R_ne HO_5.out BK835.out (by decide)); have hn836_5 : ad822.block ≠ gb835 := Kd.own_blk (Kd.R_ne HO_5.out BK835.out (by decide)); have hn836_6 : ad822.block ≠ gb835 := Kd.own_blk (Kd.R_ne HO_5.out BK835.out (by decide)); have hn836_7 : ad822.block ≠ gb835 := Kd.own_blk (Kd.R_ne HO_5.out BK835.out (by decide)); have hn836_8 : ad822.block ≠ gb835 := Kd.own_blk (Kd.R_ne HO_5.out BK835.out (by decide)); have hn836_9 : ad822.block ≠ gb835 := Kd.own_blk (Kd.R_ne HO_5.out BK835.out (by decide)); replace hx836_0 := (cell_far (p := ⟨gb835, 0, none⟩) (by first | (rw [add_block]; exact hn836_0) | (show (Addr.add _ _).block ≠ _; rw [add_block]; exact hn836_0) | exact hn836_0) (.int .i64 t823)).trans hx836_0; replace hx836_0 := (cell_far (p := ⟨gb835, 1, none⟩) (by first | (rw [add_block]; exact hn836_1) | (show (Addr.add _ _).block ≠ _; rw [add_block]; exact hn836_1) | exact hn836_1) (.int .i64 t824)).trans hx836_0; replace hx836_0 := (cell_far (p := ⟨gb835, 2, none⟩) (by first | (rw [add_block]; exact hn836_2) | (show (Addr.add _ _).block ≠ _; rw [add_block]; exact hn836_2) | exact hn836_2) (.int .i64 t825)).trans hx836_0; replace hx836_0 := (cell_far (p := ⟨gb835, 3, none⟩) (by first | (rw [add_block]; exact hn836_3) | (show (Addr.add _ _).block ≠ _; rw [add_block]; exact hn836_3) | exact hn836_3) (.int .i64 t826)).trans hx836_0; replace hx836_0 := (cell_far (p := ⟨gb835, 4, none⟩) (by first | (rw [add_block]; exact hn836_4) | (show (Addr.add _ _).block ≠ _; rw [add_block]; exact hn836_4) | exact hn836_4) (.int .i64 t827)).trans hx836_0; replace hx836_0 := (cell_far (p := ⟨gb835, 5, none⟩) (by first | (rw [add_block]; exact hn836_5) | (show (Addr.add _ _).block ≠ _; rw [add_block]; exact hn836_5) | exact hn836_5) (.bool t828)).trans hx836_0; replace hx836_0 := (cell_far (p := ⟨gb835, 6, none⟩) (by first | (rw [add_block]; exact hn836_6) | (show (Addr.add _ _).block ≠ _; rw [add_block]; exact hn836_6) | exact hn836_6) (.bool t829)).trans hx836_0; replace hx836_0 := (cell_far (p := ⟨gb835, 7, none⟩) (by first | (rw [add_block]; exact hn836_7) | (show (Addr.add _ _).block ≠ _; rw [add_block]; exact hn836_7) | exact hn836_7) (.string t830)).trans hx836_0; replace hx836_0 := (cell_far (p := ⟨gb835, 8, none⟩) (by first | (rw [add_block]; exact hn836_8) | (show (Addr.add _ _).block ≠ _; rw [add_block]; exact hn836_8) | exact hn836_8) (.string t831)).trans hx836_0; replace hx836_0 := (cell_far (p := ⟨gb835, 9, none⟩) (by first | (rw [add_block]; exact hn836_9) | (show (Addr.add _ _).block ≠ _; rw [add_block]; exact hn836_9) | exact hn836_9) (.string t832)).trans hx836_0; clear hn836_0; clear hn836_1; clear hn836_2; clear hn836_3; clear hn836_4; clear hn836_5; clear hn836_6; clear hn836_7; clear hn836_8; clear hn836_9; replace p836 := eq_true p836; replace q836 := eq_true q836) | ((with_reducible refine gate_callee (f := 114) rfl ?_); refine goesL_ (some 77) rfl rfl Try.func114 (by kernel_rfl) rfl #[.string (rdOf ByteArray.empty t805 x11_3), .int .i64 a1] rfl (by (try simp only [List.map_toArray, List.map_cons, List.map_nil]); first | done | rfl | (simp only [List.length_drop, List.length_take]; rfl)) ?_; (with_reducible refine (frag_Cut.calls (rdOf ByteArray.empty t805 x11_3) a1 t837 t838 _ A24.out).mono ?_); rintro e w31 ⟨v839, rfl, ho0, hb⟩; refine ⟨_, rfl, ?_⟩; have n0_ := Aside0.mk (Kd.R_elder' (by (with_reducible repeat (first | apply Kd.R_alloc | apply Kd.R_drewN | apply Kd.R_drew)); exact (Kd.R_mono (Kd.R_far (p := ⟨gb835, 9, none⟩) (Kd.R_far (p := ⟨gb835, 8, none⟩) (Kd.R_far (p := ⟨gb835, 7, none⟩) (Kd.R_far (p := ⟨gb835, 6, none⟩) (Kd.R_far (p := ⟨gb835, 5, none⟩) (Kd.R_far (p := ⟨gb835, 4, none⟩) (Kd.R_far (p := ⟨gb835, 3, none⟩) (Kd.R_far (p := ⟨gb835, 2, none⟩) (Kd.R_far (p := ⟨gb835, 1, none⟩) (Kd.R_far (p := ⟨gb835, 0, none⟩) (Kd.R_types HO_5.out BK835.out (by decide)) (fun _ hk => hk.2) (.int .i64 t823)) (fun _ hk => hk.2) (.int .i64 t824)) (fun _ hk => hk.2) (.int .i64 t825)) (fun _ hk => hk.2) (.int .i64 t826)) (fun _ hk => hk.2) (.int .i64 t827)) (fun _ hk => hk.2) (.bool t828)) (fun _ hk => hk.2) (.bool t829)) (fun _ hk => hk.2) (.string t830)) (fun _ hk => hk.2) (.string t831)) (fun _ hk => hk.2) (.string t832)) (fun _ h_ => h_.1))) (Kd.R_base ho0) hb); have n1_ := Aside0.mk (Kd.R_lower (Kd.R_new' ho0 (Kd.R_lt (by (with_reducible repeat (first | apply Kd.R_alloc | apply Kd.R_drewN | apply Kd.R_drew)); exact (Kd.R_mono (Kd.R_far (p := ⟨gb835, 9, none⟩) (Kd.R_far (p := ⟨gb835, 8, none⟩) (Kd.R_far (p := ⟨gb835, 7, none⟩) (Kd.R_far (p := ⟨gb835, 6, none⟩) (Kd.R_far (p := ⟨gb835, 5, none⟩) (Kd.R_far (p := ⟨gb835, 4, none⟩) (Kd.R_far (p := ⟨gb835, 3, none⟩) (Kd.R_far (p := ⟨gb835, 2, none⟩) (Kd.R_far (p := ⟨gb835, 1, none⟩) (Kd.R_far (p := ⟨gb835, 0, none⟩) (Kd.R_types HO_5.out BK835.out (by decide)) (fun _ hk => hk.2) (.int .i64 t823)) (fun _ hk => hk.2) (.int .i64 t824)) (fun _ hk => hk.2) (.int .i64 t825)) (fun _ hk => hk.2) (.int .i64 t826)) (fun _ hk => hk.2) (.int .i64 t827)) (fun _ hk => hk.2) (.bool t828)) (fun _ hk => hk.2) (.bool t829)) (fun _ hk => hk.2) (.string t830)) (fun _ hk => hk.2) (.string t831)) (fun _ hk => hk.2) (.string t832)) (fun _ h_ => h_.1))))) (below_size (by repeat (first | (with_reducible first | exact HB.out | apply below_alloc | apply pw_below_drewN | apply below_drew1 | refine below_set ?_ GE821.out | refine below_set ?_ GE835.out) | exact HB.out)))); have n2_ := Aside0.mk (blk_below (g := gb821) (o := .cells #[.int .i64 t809, .int .i64 t810, .int .i64 t811, .int .i64 t812, .int .i64 t813, .bool t814, .bool t815, .string t816, .string t817, .string t818] 93 (0, 0)) (by (with_reducible repeat (first | refine blk_drewN ?_ _ | refine blk_drew ?_ | refine blk_alloc ?_ _)); refine blk_far ?_ NB821_835.out _; (with_reducible repeat (first | refine blk_drewN ?_ _ | refine blk_drew ?_ | refine blk_alloc ?_ _)); refine blk_far ?_ NB821_835.out _; (with_reducible repeat (first | refine blk_drewN ?_ _ | refine blk_drew ?_ | refine blk_alloc ?_ _)); refine blk_far ?_ NB821_835.out _; (with_reducible repeat (first | refine blk_drewN ?_ _ | refine blk_drew ?_ | refine blk_alloc ?_ _)); refine blk_far ?_ NB821_835.out _; (with_reducible repeat (first | refine blk_drewN ?_ _ | refine blk_drew ?_ | refine blk_alloc ?_ _)); refine blk_far ?_ NB821_835.out _; (with_reducible repeat (first | refine blk_drewN ?_ _ | refine blk_drew ?_ | refine blk_alloc ?_ _)); refine blk_far ?_ NB821_835.out _; (with_reducible repeat (first | refine blk_drewN ?_ _ | refine blk_drew ?_ | refine blk_alloc ?_ _)); refine blk_far ?_ NB821_835.out _; (with_reducible repeat (first | refine blk_drewN ?_ _ | refine blk_drew ?_ | refine blk_alloc ?_ _)); refine blk_far ?_ NB821_835.out _; (with_reducible repeat (first | refine blk_drewN ?_ _ | refine blk_drew ?_ | refine blk_alloc ?_ _)); refine blk_far ?_ NB821_835.out _; (with_reducible repeat (first | refine blk_drewN ?_ _ | refine blk_drew ?_ | refine blk_alloc ?_ _)); refine blk_far ?_ NB821_835.out _; (with_reducible repeat (first | refine blk_drewN ?_ _ | refine blk_drew ?_ | refine blk_alloc ?_ _)); exact BK821.out) hb); have n3_ := Aside0.mk (blk_below (g := gb835) (o := .cells #[.int .i64 t823, .int .i64 t824, .int .i64 t825, .int .i64 t826, .int .i64 t827, .bool t828, .bool t829, .string t830, .string t831, .string t832] 93 (0, 0)) (by (with_reducible repeat (first | refine blk_drewN ?_ _ | refine blk_drew ?_ | refine blk_alloc ?_ _)); refine blk_put (cs := #[.int .i64 t823, .int .i64 t824, .int .i64 t825, .int .i64 t826, .int .i64 t827, .bool t828, .bool t829, .string t830, .string t831, .string (⟨#[]⟩ : ByteArray)]) ?_ 9 _ rfl; (with_reducible repeat (first | refine blk_drewN ?_ _ | refine blk_drew ?_ | refine blk_alloc ?_ _)); refine blk_put (cs := #[.int .i64 t823, .int .i64 t824, .int .i64 t825, .int .i64 t826, .int .i64 t827, .bool t828, .bool t829, .string t830, .string (⟨#[]⟩ : ByteArray), .string (⟨#[]⟩ : ByteArray)]) ?_ 8 _ rfl; (with_reducible repeat (first | refine blk_drewN ?_ _ | refine blk_drew ?_ | refine blk_alloc ?_ _)); refine blk_put (cs := #[.int .i64 t823, .int .i64 t824, .int .i64 t825, .int .i64 t826, .int .i64 t827, .bool t828, .bool t829, .string (⟨#[]⟩ : ByteArray), .string (⟨#[]⟩ : ByteArray), .string (⟨#[]⟩ : ByteArray)]) ?_ 7 _ rfl; (with_reducible repeat (first | refine blk_drewN ?_ _ | refine blk_drew ?_ | refine blk_alloc ?_ _)); refine blk_put (cs := #[.int .i64 t823, .int .i64 t824, .int .i64 t825, .int .i64 t826, .int .i64 t827, .bool t828, .bool false, .string (⟨#[]⟩ : ByteArray), .string (⟨#[]⟩ : ByteArray), .string (⟨#[]⟩ : ByteArray)]) ?_ 6 _ rfl; (with_reducible repeat (first | refine blk_drewN ?_ _ | refine blk_drew ?_ | refine blk_alloc ?_ _)); refine blk_put (cs := #[.int .i64 t823, .int .i64 t824, .int .i64 t825, .int .i64 t826, .int .i64 t827, .bool false, .bool false, .string (⟨#[]⟩ : ByteArray), .string (⟨#[]⟩ : ByteArray), .string (⟨#[]⟩ : ByteArray)]) ?_ 5 _ rfl; (with_reducible repeat (first | refine blk_drewN ?_ _ | refine blk_drew ?_ | refine blk_alloc ?_ _)); refine blk_put (cs := #[.int .i64 t823, .int .i64 t824, .int .i64 t825, .int .i64 t826, .int .i64 0, .bool false, .bool false, .string (⟨#[]⟩ : ByteArray), .string (⟨#[]⟩ : ByteArray), .string (⟨#[]⟩ : ByteArray)]) ?_ 4 _ rfl; (with_reducible repeat (first | refine blk_drewN ?_ _ | refine blk_drew ?_ | refine blk_alloc ?_ _)); refine blk_put (cs := #[.int .i64 t823, .int .i64 t824, .int .i64 t825, .int .i64 0, .int .i64 0, .bool false, .bool false, .string (⟨#[]⟩ : ByteArray), .string (⟨#[]⟩ : ByteArray), .string (⟨#[]⟩ : ByteArray)]) ?_ 3 _ rfl; (with_reducible repeat (first | refine blk_drewN ?_ _ | refine blk_drew ?_ | refine blk_alloc ?_ _)); refine blk_put (cs := #[.int .i64 t823, .int .i64 t824, .int .i64 0, .int .i64 0, .int .i64 0, .bool false, .bool false, .string (⟨#[]⟩ : ByteArray), .string (⟨#[]⟩ : ByteArray), .string (⟨#[]⟩ : ByteArray)]) ?_ 2 _ rfl; (with_reducible repeat (first | refine blk_drewN ?_ _ | refine blk_drew ?_ | refine blk_alloc ?_ _)); refine blk_put (cs := #[.int .i64 t823, .int .i64 0, .int .i64 0, .int .i64 0, .int .i64 0, .bool false, .bool false, .string (⟨#[]⟩ : ByteArray), .string (⟨#[]⟩ : ByteArray), .string (⟨#[]⟩ : ByteArray)]) ?_ 1 _ rfl; (with_reducible repeat (first | refine blk_drewN ?_ _ | refine blk_drew ?_ | refine blk_alloc ?_ _)); refine blk_put (cs := #[.int .i64 0, .int .i64 0, .int .i64 0, .int .i64 0, .int .i64 0, .bool false, .bool false, .string (⟨#[]⟩ : ByteArray), .string (⟨#[]⟩ : ByteArray), .string (⟨#[]⟩ : ByteArray)]) ?_ 0 _ rfl; (with_reducible repeat (first | refine blk_drewN ?_ _ | refine blk_drew ?_ | refine blk_alloc ?_ _)); exact BK835.out) hb); have n4_ := Aside0.mk (below_step (by repeat (first | (with_reducible first | exact HB.out | apply below_alloc | apply pw_below_drewN | apply below_drew1 | refine below_set ?_ GE821.out | refine below_set ?_ GE835.out) | exact HB.out)) hb); clear HO_5; clear BK821; clear BK835; clear HB; have HO_5 := n0_; have HO840 := n1_; have BK821 := n2_; have BK835 := n3_; have HB := n4_; clear n0_ n1_ n2_ n3_ n4_; (try clear hb); (try clear hb2); (try clear hk); (try clear hi); (try clear ho0)))
                          (try simp only [Act.put, List.setIfInBounds_toArray, List.set_cons_zero, List.set_cons_succ])
                          go_cut [120] (fun v120 wc => ∃ (kq : Nat) (x120_24 : Bool), v120 = .bool x120_24 ∧ Aside0 (palanquinlaw15_FragWhole.j3 kq a1 t805 t819 x10_3 x11_3 t833 x120_24 t809 t810 t811 t812 t813 t814 t815 t816 t817 t818 t823 t824 t825 t826 t827 t828 t829 t830 t831 t832 = some r) ∧ Aside0 (kq ≤ k3) ∧ Aside0 (Kd.R Kd.string 9 wc w.heap.size (fun _ => True) (.slice (some ad822) t805.length co26) t805) ∧ Aside0 (wc.heap[gb821]? = some (.cells #[.int .i64 t809, .int .i64 t810, .int .i64 t811, .int .i64 t812, .int .i64 t813, .bool t814, .bool t815, .string t816, .string t817, .string t818] 93 (0, 0))) ∧ Aside0 (wc.heap[gb835]? = some (.cells #[.int .i64 t823, .int .i64 t824, .int .i64 t825, .int .i64 t826, .int .i64 t827, .bool t828, .bool t829, .string t830, .string t831, .string t832] 93 (0, 0))) ∧ Aside0 (Below w.heap.size w wc))
                          case first =>
                            have H := HC25.out
                            clear HC25
                            by_cases c32 : t834 = 0
                            · rw [if_pos c32] at H
                              have c32b0 : (t834 == 0) = true := beq_iff_eq.mpr c32
                              have c32b1 : (t834 != 0) = false := bne_eq_false_iff_eq.mpr c32
                              clear c32
                              (first | rw [c32b0] | (simp only [i64_w, i32_w]; rw [c32b0]) | skip)
                              by_cases c33 : ((rdOf ByteArray.empty t805 x11_3).size : Int) > a1
                              · rw [if_pos c33] at H
                                exact (palanquinlaw15_FragWhole.j3_no _ _ _ _ _ _ _ _ _ _ _ _ _ _ _ _ _ _ _ _ _ _ _ _ _ _ _ _ H hrt_).elim
                              · rw [if_neg c33] at H
                                have c33b0 : decide (a1 < ((rdOf ByteArray.empty t805 x11_3).size : Int)) = false := decide_eq_false c33
                                clear c33
                                by_cases c35 : t838 = 0
                                · rw [if_pos c35] at H
                                  have c35b0 : (t838 == 0) = true := beq_iff_eq.mpr c35
                                  have c35b1 : (t838 != 0) = false := bne_eq_false_iff_eq.mpr c35
                                  clear c35
                                  by_cases c36 : (t837.length : Int) = 1
                                  · rw [if_pos c36] at H
                                    have c36b0 : ((t837.length : Int) == 1) = true := beq_iff_eq.mpr c36
                                    have c36b1 : ((t837.length : Int) != 1) = false := bne_eq_false_iff_eq.mpr c36
                                    clear c36
                                    by_cases c37 : 0 < (t837.length : Int)
                                    · rw [if_pos c37] at H
                                      have c37b0 : decide (0 < (t837.length : Int)) = true := decide_eq_true c37
                                      have c37b1 : decide (0 < t837.length) = true := decide_eq_true (by omega)
                                      clear c37
                                      by_cases c38 : (rdOf ByteArray.empty t837 0).toList = (rdOf ByteArray.empty t805 x11_3).toList
                                      · rw [if_pos c38] at H
                                        have c38b0 : ((rdOf ByteArray.empty t837 0).toList == (rdOf ByteArray.empty t805 x11_3).toList) = true := beq_iff_eq.mpr c38
                                        have c38b1 : ((rdOf ByteArray.empty t837 0).toList != (rdOf ByteArray.empty t805 x11_3).toList) = false := bne_eq_false_iff_eq.mpr c38
                                        clear c38
                                        have H' := Aside0.mk H
                                        clear H
                                        try go_wp2
                                        have n0_ := Aside0.mk (Kd.R_drew HO_5.out)
                                        have n1_ := Aside0.mk (Kd.R_drew HO840.out)
                                        have n2_ := Aside0.mk (blk_drew BK821.out)
                                        have n3_ := Aside0.mk (blk_drew BK835.out)
                                        have n4_ := Aside0.mk (below_drew1 HB.out)
                                        clear HO_5
                                        clear HO840
                                        clear BK821
                                        clear BK835
                                        clear HB
                                        have HO_5 := n0_
                                        have HO840 := n1_
                                        have BK821 := n2_
                                        have BK835 := n3_
                                        have HB := n4_
                                        clear n0_ n1_ n2_ n3_ n4_
                                        have p841 : 0 ≤ (x11_3 : Int) := of_decide_eq_true (by first | (with_reducible assumption) | assumption)
                                        have q841 : x11_3 < (t805.length : Int) := of_decide_eq_true (by first | (with_reducible assumption) | assumption)
                                        obtain ⟨ad841, e841, hx841_0⟩ := Kd.at_string (Kd.R_reads' HO_5.out).2.2 x11_3 p841 q841
                                        obtain rfl : ad822 = ad841 := (by injection e841)
                                        replace p841 := eq_true p841
                                        replace q841 := eq_true q841
                                        obtain ⟨Ao40, co40, eo40⟩ := Kd.R_slice HO840.out
                                        (first | subst eo40 | (injection eo40 with f1_ f2_ f3_; have f4_ := f1_.symm; have f5_ := f3_.symm; clear f1_ f2_ f3_; subst f4_; subst f5_))
                                        have p842 : 0 ≤ (0 : Int) := (by omega)
                                        have q842 : 0 < (t837.length : Int) := of_decide_eq_true (by first | (with_reducible assumption) | assumption)
                                        obtain ⟨ad842, e842, hx842_0⟩ := Kd.at_string (Kd.R_reads' HO840.out).2.2 0 p842 q842
                                        cases e842
                                        have qi842 : (0 < t837.length) = True := eq_true (by omega)
                                        (try rw [show ((0 : Int)).toNat = 0 from rfl] at hx842_0)
                                        (try rw [Addr.add_zero'] at hx842_0)
                                        replace p842 := eq_true p842
                                        replace q842 := eq_true q842
                                        have p843 : 0 ≤ (x11_3 : Int) := of_decide_eq_true (by first | (with_reducible assumption) | assumption)
                                        have q843 : x11_3 < (t805.length : Int) := of_decide_eq_true (by first | (with_reducible assumption) | assumption)
                                        obtain ⟨ad843, e843, hx843_0⟩ := Kd.at_string (Kd.R_reads' HO_5.out).2.2 x11_3 p843 q843
                                        obtain rfl : ad822 = ad843 := (by injection e843)
                                        replace p843 := eq_true p843
                                        replace q843 := eq_true q843
                                        refine start_ (n := 41) (S := fun w' => w'.cell? ⟨gb835, 0, none⟩ = some (.int .i64 t823) ∧ w'.cell? ⟨gb835, 1, none⟩ = some (.int .i64 t824) ∧ w'.cell? ⟨gb835, 2, none⟩ = some (.int .i64 t825) ∧ w'.cell? ⟨gb835, 3, none⟩ = some (.int .i64 t826) ∧ w'.cell? ⟨gb835, 4, none⟩ = some (.int .i64 t827) ∧ w'.cell? ⟨gb835, 5, none⟩ = some (.bool t828) ∧ w'.cell? ⟨gb835, 6, none⟩ = some (.bool t829) ∧ w'.cell? ⟨gb835, 7, none⟩ = some (.string t830) ∧ w'.cell? ⟨gb835, 8, none⟩ = some (.string t831) ∧ w'.cell? ⟨gb835, 9, none⟩ = some (.string t832) ∧ w'.cell? ⟨gb821, 0, none⟩ = some (.int .i64 t809) ∧ w'.cell? ⟨gb821, 1, none⟩ = some (.int .i64 t810) ∧ w'.cell? ⟨gb821, 2, none⟩ = some (.int .i64 t811) ∧ w'.cell? ⟨gb821, 3, none⟩ = some (.int .i64 t812) ∧ w'.cell? ⟨gb821, 4, none⟩ = some (.int .i64 t813) ∧ w'.cell? ⟨gb821, 5, none⟩ = some (.bool t814) ∧ w'.cell? ⟨gb821, 6, none⟩ = some (.bool t815) ∧ w'.cell? ⟨gb821, 7, none⟩ = some (.string t816) ∧ w'.cell? ⟨gb821, 8, none⟩ = some (.string t817) ∧ w'.cell? ⟨gb821, 9, none⟩ = some (.string t818) ∧ w'.cell? (ad822.add (x11_3).toNat) = some (.string (rdOf ByteArray.empty t805 x11_3)) ∧ w'.cell? ad842 = some (.string (rdOf ByteArray.empty t837 0)) ∧ w'.cell? (ad822.add (x11_3).toNat) = some (.string (rdOf ByteArray.empty t805 x11_3))) (ds := []) #[false, false, false, false, false, false, false, false, false, false, false, false, false, false, false, false, false, false, false, false, false, false, false, false, false, false, false, false, false, false, false, false, false, false, false, false, false, false, false, false, false] (by kernel_rfl) rfl rfl ⟨(blk_cell BK835.out 0).trans rfl, (blk_cell BK835.out 1).trans rfl, (blk_cell BK835.out 2).trans rfl, (blk_cell BK835.out 3).trans rfl, (blk_cell BK835.out 4).trans rfl, (blk_cell BK835.out 5).trans rfl, (blk_cell BK835.out 6).trans rfl, (blk_cell BK835.out 7).trans rfl, (blk_cell BK835.out 8).trans rfl, (blk_cell BK835.out 9).trans rfl, (blk_cell BK821.out 0).trans rfl, (blk_cell BK821.out 1).trans rfl, (blk_cell BK821.out 2).trans rfl, (blk_cell BK821.out 3).trans rfl, (blk_cell BK821.out 4).trans rfl, (blk_cell BK821.out 5).trans rfl, (blk_cell BK821.out 6).trans rfl, (blk_cell BK821.out 7).trans rfl, (blk_cell BK821.out 8).trans rfl, (blk_cell BK821.out 9).trans rfl, hx841_0, hx842_0, hx843_0⟩ (fun hHeld => ?_); refine with_tabW palanquinlaw15_FragWhole.tab17 palanquinlaw15_FragWhole.bits17 (fun HT_ HW_ => ?_)
                                        generalize w31.drew = w39 at HO_5 HO840 BK821 BK835 HB hx841_0 hx842_0 hx843_0 hHeld ⊢
                                        refine pure_ (i := 0) (N := some 80) (v := ?_) (a' := ?_) #[true, false, false, false, false, false, false, false, false, false, false, false, false, false, false, false, false, false, false, false, false, false, false, false, false, false, false, false, false, false, false, false, false, false, false, false, false, false, false, false, false] rfl rfl (any_of HT_.out (by kernel_rfl)) (fun _ _ _ h => h) (Or.inl ⟨by rfl, ?_⟩) ?_ ?_
                                        rotate_left
                                        · intro w'
                                          go_simp
                                          with_reducible rfl
                                        rotate_left
                                        · simp only [Act.put, List.setIfInBounds_toArray, List.set_cons_zero, List.set_cons_succ, i64_w, i32_w]
                                          rfl
                                        refine pure_ (i := 1) (N := some 81) (v := ?_) (a' := ?_) #[true, true, false, false, false, false, false, false, false, false, false, false, false, false, false, false, false, false, false, false, false, false, false, false, false, false, false, false, false, false, false, false, false, false, false, false, false, false, false, false, false] rfl rfl (any_of HT_.out (by kernel_rfl)) (fun _ _ _ h => h) (Or.inl ⟨by rfl, ?_⟩) ?_ ?_
                                        rotate_left
                                        · intro w'
                                          go_simp
                                          with_reducible rfl
                                        rotate_left
                                        · simp only [Act.put, List.setIfInBounds_toArray, List.set_cons_zero, List.set_cons_succ, i64_w, i32_w]
                                          rfl
                                        refine pure_ (i := 2) (N := some 82) (v := ?_) (a' := ?_) #[true, true, true, false, false, false, false, false, false, false, false, false, false, false, false, false, false, false, false, false, false, false, false, false, false, false, false, false, false, false, false, false, false, false, false, false, false, false, false, false, false] rfl rfl (any_of HT_.out (by kernel_rfl)) (fun _ _ _ h => h) (Or.inl ⟨by rfl, ?_⟩) ?_ ?_
                                        rotate_left
                                        · intro w'
                                          go_simp
                                          with_reducible rfl
                                        rotate_left
                                        · simp only [Act.put, List.setIfInBounds_toArray, List.set_cons_zero, List.set_cons_succ, i64_w, i32_w]
                                          rfl
                                        refine pure_ (i := 3) (N := some 83) (v := ?_) (a' := ?_) #[true, true, true, true, false, false, false, false, false, false, false, false, false, false, false, false, false, false, false, false, false, false, false, false, false, false, false, false, false, false, false, false, false, false, false, false, false, false, false, false, false] rfl rfl (any_of HT_.out (by kernel_rfl)) (fun _ _ _ h => h) (Or.inl ⟨by rfl, ?_⟩) ?_ ?_
                                        rotate_left
                                        · intro w'
                                          go_simp
                                          with_reducible rfl
                                        rotate_left
                                        · simp only [Act.put, List.setIfInBounds_toArray, List.set_cons_zero, List.set_cons_succ, i64_w, i32_w]
                                          rfl
                                        refine pure_ (i := 4) (N := some 84) (v := ?_) (a' := ?_) #[true, true, true, true, true, false, false, false, false, false, false, false, false, false, false, false, false, false, false, false, false, false, false, false, false, false, false, false, false, false, false, false, false, false, false, false, false, false, false, false, false] rfl rfl (any_of HT_.out (by kernel_rfl)) (fun _ _ _ h => h) (Or.inl ⟨by rfl, ?_⟩) ?_ ?_
                                        rotate_left
                                        · intro w'
                                          go_simp
                                          with_reducible rfl
                                        rotate_left
                                        · simp only [Act.put, List.setIfInBounds_toArray, List.set_cons_zero, List.set_cons_succ, i64_w, i32_w]
                                          rfl
                                        refine pure_ (i := 5) (N := some 85) (v := ?_) (a' := ?_) #[true, true, true, true, true, true, false, false, false, false, false, false, false, false, false, false, false, false, false, false, false, false, false, false, false, false, false, false, false, false, false, false, false, false, false, false, false, false, false, false, false] rfl rfl (any_of HT_.out (by kernel_rfl)) (fun _ _ _ h => h) (Or.inl ⟨by rfl, ?_⟩) ?_ ?_
                                        rotate_left
                                        · intro w'
                                          go_simp
                                          with_reducible rfl
                                        rotate_left
                                        · simp only [Act.put, List.setIfInBounds_toArray, List.set_cons_zero, List.set_cons_succ, i64_w, i32_w]
                                          rfl
                                        refine pure_ (i := 8) (N := some 88) (v := ?_) (a' := ?_) #[true, true, true, true, true, true, false, false, true, false, false, false, false, false, false, false, false, false, false, false, false, false, false, false, false, false, false, false, false, false, false, false, false, false, false, false, false, false, false, false, false] rfl rfl (any_of HT_.out (by kernel_rfl)) (fun _ _ _ h => h) (Or.inl ⟨by rfl, ?_⟩) ?_ ?_
                                        rotate_left
                                        · intro w'
                                          go_simp
                                          with_reducible rfl
                                        rotate_left
                                        · simp only [Act.put, List.setIfInBounds_toArray, List.set_cons_zero, List.set_cons_succ, i64_w, i32_w]
                                          rfl
                                        refine take_ (i := 6) (N := some 86) (v := ?_) (a' := ?_) #[true, true, true, true, true, true, true, false, true, false, false, false, false, false, false, false, false, false, false, false, false, false, false, false, false, false, false, false, false, false, false, false, false, false, false, false, false, false, false, false, false] rfl rfl (take_ofW HT_.out HW_.out (by kernel_rfl)) (fun _ _ _ h => h) (Or.inl ⟨by rfl, ?_⟩) hHeld ?_ ?_
                                        rotate_left
                                        · rintro w' ⟨s0, s1, s2, s3, s4, s5, s6, s7, s8, s9, s10, s11, s12, s13, s14, s15, s16, s17, s18, s19, s20, s21, s22⟩
                                          go_simp
                                          with_reducible rfl
                                        rotate_left
                                        · simp only [Act.put, List.setIfInBounds_toArray, List.set_cons_zero, List.set_cons_succ, i64_w, i32_w]
                                          rfl
                                        refine pure_ (i := 7) (N := some 87) (v := ?_) (a' := ?_) #[true, true, true, true, true, true, true, true, true, false, false, false, false, false, false, false, false, false, false, false, false, false, false, false, false, false, false, false, false, false, false, false, false, false, false, false, false, false, false, false, false] rfl rfl (any_of HT_.out (by kernel_rfl)) (fun _ _ _ h => h) (Or.inl ⟨by rfl, ?_⟩) ?_ ?_
                                        rotate_left
                                        · intro w'
                                          go_simp
                                          with_reducible rfl
                                        rotate_left
                                        · simp only [Act.put, List.setIfInBounds_toArray, List.set_cons_zero, List.set_cons_succ, i64_w, i32_w]
                                          rfl
                                        refine pure_ (i := 9) (N := some 89) (v := ?_) (a' := ?_) #[true, true, true, true, true, true, true, true, true, true, false, false, false, false, false, false, false, false, false, false, false, false, false, false, false, false, false, false, false, false, false, false, false, false, false, false, false, false, false, false, false] rfl rfl (any_of HT_.out (by kernel_rfl)) (fun _ _ _ h => h) (Or.inl ⟨by rfl, ?_⟩) ?_ ?_
                                        rotate_left
                                        · intro w'
                                          go_simp
                                          with_reducible rfl
                                        rotate_left
                                        · simp only [Act.put, List.setIfInBounds_toArray, List.set_cons_zero, List.set_cons_succ, i64_w, i32_w]
                                          rfl
                                        refine pure_ (i := 10) (N := some 90) (v := ?_) (a' := ?_) #[true, true, true, true, true, true, true, true, true, true, true, false, false, false, false, false, false, false, false, false, false, false, false, false, false, false, false, false, false, false, false, false, false, false, false, false, false, false, false, false, false] rfl rfl (any_of HT_.out (by kernel_rfl)) (fun _ _ _ h => h) (Or.inl ⟨by rfl, ?_⟩) ?_ ?_
                                        rotate_left
                                        · intro w'
                                          go_simp
                                          with_reducible rfl
                                        rotate_left
                                        · simp only [Act.put, List.setIfInBounds_toArray, List.set_cons_zero, List.set_cons_succ, i64_w, i32_w]
                                          rfl
                                        refine pure_ (i := 11) (N := some 91) (v := ?_) (a' := ?_) #[true, true, true, true, true, true, true, true, true, true, true, true, false, false, false, false, false, false, false, false, false, false, false, false, false, false, false, false, false, false, false, false, false, false, false, false, false, false, false, false, false] rfl rfl (any_of HT_.out (by kernel_rfl)) (fun _ _ _ h => h) (Or.inl ⟨by rfl, ?_⟩) ?_ ?_
                                        rotate_left
                                        · intro w'
                                          go_simp
                                          with_reducible rfl
                                        rotate_left
                                        · simp only [Act.put, List.setIfInBounds_toArray, List.set_cons_zero, List.set_cons_succ, i64_w, i32_w]
                                          rfl
                                        refine pure_ (i := 12) (N := some 92) (v := ?_) (a' := ?_) #[true, true, true, true, true, true, true, true, true, true, true, true, true, false, false, false, false, false, false, false, false, false, false, false, false, false, false, false, false, false, false, false, false, false, false, false, false, false, false, false, false] rfl rfl (any_of HT_.out (by kernel_rfl)) (fun _ _ _ h => h) (Or.inl ⟨by rfl, ?_⟩) ?_ ?_
                                        rotate_left
                                        · intro w'
                                          go_simp
                                          with_reducible rfl
                                        rotate_left
                                        · simp only [Act.put, List.setIfInBounds_toArray, List.set_cons_zero, List.set_cons_succ, i64_w, i32_w]
                                          rfl
                                        refine pure_ (i := 13) (N := some 93) (v := ?_) (a' := ?_) #[true, true, true, true, true, true, true, true, true, true, true, true, true, true, false, false, false, false, false, false, false, false, false, false, false, false, false, false, false, false, false, false, false, false, false, false, false, false, false, false, false] rfl rfl (any_of HT_.out (by kernel_rfl)) (fun _ _ _ h => h) (Or.inl ⟨by rfl, ?_⟩) ?_ ?_
                                        rotate_left
                                        · intro w'
                                          go_simp
                                          with_reducible rfl
                                        rotate_left
                                        · simp only [Act.put, List.setIfInBounds_toArray, List.set_cons_zero, List.set_cons_succ, i64_w, i32_w]
                                          rfl
                                        refine pure_ (i := 14) (N := some 94) (v := ?_) (a' := ?_) #[true, true, true, true, true, true, true, true, true, true, true, true, true, true, true, false, false, false, false, false, false, false, false, false, false, false, false, false, false, false, false, false, false, false, false, false, false, false, false, false, false] rfl rfl (any_of HT_.out (by kernel_rfl)) (fun _ _ _ h => h) (Or.inl ⟨by rfl, ?_⟩) ?_ ?_
                                        rotate_left
                                        · intro w'
                                          go_simp
                                          with_reducible rfl
                                        rotate_left
                                        · simp only [Act.put, List.setIfInBounds_toArray, List.set_cons_zero, List.set_cons_succ, i64_w, i32_w]
                                          rfl
                                        refine pure_ (i := 15) (N := some 95) (v := ?_) (a' := ?_) #[true, true, true, true, true, true, true, true, true, true, true, true, true, true, true, true, false, false, false, false, false, false, false, false, false, false, false, false, false, false, false, false, false, false, false, false, false, false, false, false, false] rfl rfl (any_of HT_.out (by kernel_rfl)) (fun _ _ _ h => h) (Or.inl ⟨by rfl, ?_⟩) ?_ ?_
                                        rotate_left
                                        · intro w'
                                          go_simp
                                          with_reducible rfl
                                        rotate_left
                                        · simp only [Act.put, List.setIfInBounds_toArray, List.set_cons_zero, List.set_cons_succ, i64_w, i32_w]
                                          rfl
                                        refine pure_ (i := 16) (N := some 96) (v := ?_) (a' := ?_) #[true, true, true, true, true, true, true, true, true, true, true, true, true, true, true, true, true, false, false, false, false, false, false, false, false, false, false, false, false, false, false, false, false, false, false, false, false, false, false, false, false] rfl rfl (any_of HT_.out (by kernel_rfl)) (fun _ _ _ h => h) (Or.inl ⟨by rfl, ?_⟩) ?_ ?_
                                        rotate_left
                                        · intro w'
                                          go_simp
                                          with_reducible rfl
                                        rotate_left
                                        · simp only [Act.put, List.setIfInBounds_toArray, List.set_cons_zero, List.set_cons_succ, i64_w, i32_w]
                                          rfl
                                        refine pure_ (i := 17) (N := some 97) (v := ?_) (a' := ?_) #[true, true, true, true, true, true, true, true, true, true, true, true, true, true, true, true, true, true, false, false, false, false, false, false, false, false, false, false, false, false, false, false, false, false, false, false, false, false, false, false, false] rfl rfl (any_of HT_.out (by kernel_rfl)) (fun _ _ _ h => h) (Or.inl ⟨by rfl, ?_⟩) ?_ ?_
                                        rotate_left
                                        · intro w'
                                          go_simp
                                          with_reducible rfl
                                        rotate_left
                                        · simp only [Act.put, List.setIfInBounds_toArray, List.set_cons_zero, List.set_cons_succ, i64_w, i32_w]
                                          rfl
                                        refine pure_ (i := 18) (N := some 98) (v := ?_) (a' := ?_) #[true, true, true, true, true, true, true, true, true, true, true, true, true, true, true, true, true, true, true, false, false, false, false, false, false, false, false, false, false, false, false, false, false, false, false, false, false, false, false, false, false] rfl rfl (any_of HT_.out (by kernel_rfl)) (fun _ _ _ h => h) (Or.inl ⟨by rfl, ?_⟩) ?_ ?_
                                        rotate_left
                                        · intro w'
                                          go_simp
                                          with_reducible rfl
                                        rotate_left
                                        · simp only [Act.put, List.setIfInBounds_toArray, List.set_cons_zero, List.set_cons_succ, i64_w, i32_w]
                                          rfl
                                        refine pure_ (i := 19) (N := some 99) (v := ?_) (a' := ?_) #[true, true, true, true, true, true, true, true, true, true, true, true, true, true, true, true, true, true, true, true, false, false, false, false, false, false, false, false, false, false, false, false, false, false, false, false, false, false, false, false, false] rfl rfl (any_of HT_.out (by kernel_rfl)) (fun _ _ _ h => h) (Or.inl ⟨by rfl, ?_⟩) ?_ ?_
                                        rotate_left
                                        · intro w'
                                          go_simp
                                          with_reducible rfl
                                        rotate_left
                                        · simp only [Act.put, List.setIfInBounds_toArray, List.set_cons_zero, List.set_cons_succ, i64_w, i32_w]
                                          rfl
                                        refine pure_ (i := 20) (N := some 100) (v := ?_) (a' := ?_) #[true, true, true, true, true, true, true, true, true, true, true, true, true, true, true, true, true, true, true, true, true, false, false, false, false, false, false, false, false, false, false, false, false, false, false, false, false, false, false, false, false] rfl rfl (any_of HT_.out (by kernel_rfl)) (fun _ _ _ h => h) (Or.inl ⟨by rfl, ?_⟩) ?_ ?_
                                        rotate_left
                                        · intro w'
                                          go_simp
                                          with_reducible rfl
                                        rotate_left
                                        · simp only [Act.put, List.setIfInBounds_toArray, List.set_cons_zero, List.set_cons_succ, i64_w, i32_w]
                                          rfl
                                        refine pure_ (i := 21) (N := some 101) (v := ?_) (a' := ?_) #[true, true, true, true, true, true, true, true, true, true, true, true, true, true, true, true, true, true, true, true, true, true, false, false, false, false, false, false, false, false, false, false, false, false, false, false, false, false, false, false, false] rfl rfl (any_of HT_.out (by kernel_rfl)) (fun _ _ _ h => h) (Or.inl ⟨by rfl, ?_⟩) ?_ ?_
                                        rotate_left
                                        · intro w'
                                          go_simp
                                          with_reducible rfl
                                        rotate_left
                                        · simp only [Act.put, List.setIfInBounds_toArray, List.set_cons_zero, List.set_cons_succ, i64_w, i32_w]
                                          rfl
                                        refine pure_ (i := 22) (N := some 102) (v := ?_) (a' := ?_) #[true, true, true, true, true, true, true, true, true, true, true, true, true, true, true, true, true, true, true, true, true, true, true, false, false, false, false, false, false, false, false, false, false, false, false, false, false, false, false, false, false] rfl rfl (any_of HT_.out (by kernel_rfl)) (fun _ _ _ h => h) (Or.inl ⟨by rfl, ?_⟩) ?_ ?_
                                        rotate_left
                                        · intro w'
                                          go_simp
                                          with_reducible rfl
                                        rotate_left
                                        · simp only [Act.put, List.setIfInBounds_toArray, List.set_cons_zero, List.set_cons_succ, i64_w, i32_w]
                                          rfl
                                        refine pure_ (i := 24) (N := some 104) (v := ?_) (a' := ?_) #[true, true, true, true, true, true, true, true, true, true, true, true, true, true, true, true, true, true, true, true, true, true, true, false, true, false, false, false, false, false, false, false, false, false, false, false, false, false, false, false, false] rfl rfl (any_of HT_.out (by kernel_rfl)) (fun _ _ _ h => h) (Or.inl ⟨by rfl, ?_⟩) ?_ ?_
                                        rotate_left
                                        · intro w'
                                          go_simp
                                          with_reducible rfl
                                        rotate_left
                                        · simp only [Act.put, List.setIfInBounds_toArray, List.set_cons_zero, List.set_cons_succ, i64_w, i32_w]
                                          rfl
                                        refine pure_ (i := 25) (N := some 105) (v := ?_) (a' := ?_) #[true, true, true, true, true, true, true, true, true, true, true, true, true, true, true, true, true, true, true, true, true, true, true, false, true, true, false, false, false, false, false, false, false, false, false, false, false, false, false, false, false] rfl rfl (any_of HT_.out (by kernel_rfl)) (fun _ _ _ h => h) (Or.inl ⟨by rfl, ?_⟩) ?_ ?_
                                        rotate_left
                                        · intro w'
                                          go_simp
                                          with_reducible rfl
                                        rotate_left
                                        · simp only [Act.put, List.setIfInBounds_toArray, List.set_cons_zero, List.set_cons_succ, i64_w, i32_w]
                                          rfl
                                        refine pure_ (i := 26) (N := some 106) (v := ?_) (a' := ?_) #[true, true, true, true, true, true, true, true, true, true, true, true, true, true, true, true, true, true, true, true, true, true, true, false, true, true, true, false, false, false, false, false, false, false, false, false, false, false, false, false, false] rfl rfl (any_of HT_.out (by kernel_rfl)) (fun _ _ _ h => h) (Or.inl ⟨by rfl, ?_⟩) ?_ ?_
                                        rotate_left
                                        · intro w'
                                          go_simp
                                          with_reducible rfl
                                        rotate_left
                                        · simp only [Act.put, List.setIfInBounds_toArray, List.set_cons_zero, List.set_cons_succ, i64_w, i32_w]
                                          rfl
                                        refine take_ (i := 23) (N := some 103) (v := ?_) (a' := ?_) #[true, true, true, true, true, true, true, true, true, true, true, true, true, true, true, true, true, true, true, true, true, true, true, true, true, true, true, false, false, false, false, false, false, false, false, false, false, false, false, false, false] rfl rfl (take_ofW HT_.out HW_.out (by kernel_rfl)) (fun _ _ _ h => h) (Or.inl ⟨by rfl, ?_⟩) hHeld ?_ ?_
                                        rotate_left
                                        · rintro w' ⟨s0, s1, s2, s3, s4, s5, s6, s7, s8, s9, s10, s11, s12, s13, s14, s15, s16, s17, s18, s19, s20, s21, s22⟩
                                          go_simp
                                          with_reducible rfl
                                        rotate_left
                                        · simp only [Act.put, List.setIfInBounds_toArray, List.set_cons_zero, List.set_cons_succ, i64_w, i32_w]
                                          rfl
                                        refine take_ (i := 27) (N := some 107) (v := ?_) (a' := ?_) #[true, true, true, true, true, true, true, true, true, true, true, true, true, true, true, true, true, true, true, true, true, true, true, true, true, true, true, true, false, false, false, false, false, false, false, false, false, false, false, false, false] rfl rfl (take_ofW HT_.out HW_.out (by kernel_rfl)) (fun _ _ _ h => h) (Or.inl ⟨by rfl, ?_⟩) hHeld ?_ ?_
                                        rotate_left
                                        · rintro w' ⟨s0, s1, s2, s3, s4, s5, s6, s7, s8, s9, s10, s11, s12, s13, s14, s15, s16, s17, s18, s19, s20, s21, s22⟩
                                          go_simp
                                          with_reducible rfl
                                        rotate_left
                                        · simp only [Act.put, List.setIfInBounds_toArray, List.set_cons_zero, List.set_cons_succ, i64_w, i32_w]
                                          rfl
                                        refine pure_ (i := 28) (N := some 108) (v := ?_) (a' := ?_) #[true, true, true, true, true, true, true, true, true, true, true, true, true, true, true, true, true, true, true, true, true, true, true, true, true, true, true, true, true, false, false, false, false, false, false, false, false, false, false, false, false] rfl rfl (any_of HT_.out (by kernel_rfl)) (fun _ _ _ h => h) (Or.inl ⟨by rfl, ?_⟩) ?_ ?_
                                        rotate_left
                                        · intro w'
                                          go_simp
                                          with_reducible rfl
                                        rotate_left
                                        · simp only [Act.put, List.setIfInBounds_toArray, List.set_cons_zero, List.set_cons_succ, i64_w, i32_w]
                                          rfl
                                        refine pure_ (i := 29) (N := some 109) (v := ?_) (a' := ?_) #[true, true, true, true, true, true, true, true, true, true, true, true, true, true, true, true, true, true, true, true, true, true, true, true, true, true, true, true, true, true, false, false, false, false, false, false, false, false, false, false, false] rfl rfl (any_of HT_.out (by kernel_rfl)) (fun _ _ _ h => h) (Or.inl ⟨by rfl, ?_⟩) ?_ ?_
                                        rotate_left
                                        · intro w'
                                          go_simp
                                          with_reducible rfl
                                        rotate_left
                                        · simp only [Act.put, List.setIfInBounds_toArray, List.set_cons_zero, List.set_cons_succ, i64_w, i32_w]
                                          rfl
                                        refine pure_ (i := 30) (N := some 110) (v := ?_) (a' := ?_) #[true, true, true, true, true, true, true, true, true, true, true, true, true, true, true, true, true, true, true, true, true, true, true, true, true, true, true, true, true, true, true, false, false, false, false, false, false, false, false, false, false] rfl rfl (any_of HT_.out (by kernel_rfl)) (fun _ _ _ h => h) (Or.inl ⟨by rfl, ?_⟩) ?_ ?_
                                        rotate_left
                                        · intro w'
                                          go_simp
                                          with_reducible rfl
                                        rotate_left
                                        · simp only [Act.put, List.setIfInBounds_toArray, List.set_cons_zero, List.set_cons_succ, i64_w, i32_w]
                                          rfl
                                        refine pure_ (i := 31) (N := some 111) (v := ?_) (a' := ?_) #[true, true, true, true, true, true, true, true, true, true, true, true, true, true, true, true, true, true, true, true, true, true, true, true, true, true, true, true, true, true, true, true, false, false, false, false, false, false, false, false, false] rfl rfl (any_of HT_.out (by kernel_rfl)) (fun _ _ _ h => h) (Or.inl ⟨by rfl, ?_⟩) ?_ ?_
                                        rotate_left
                                        · intro w'
                                          go_simp
                                          with_reducible rfl
                                        rotate_left
                                        · simp only [Act.put, List.setIfInBounds_toArray, List.set_cons_zero, List.set_cons_succ, i64_w, i32_w]
                                          rfl
                                        refine pure_ (i := 33) (N := some 113) (v := ?_) (a' := ?_) #[true, true, true, true, true, true, true, true, true, true, true, true, true, true, true, true, true, true, true, true, true, true, true, true, true, true, true, true, true, true, true, true, false, true, false, false, false, false, false, false, false] rfl rfl (any_of HT_.out (by kernel_rfl)) (fun _ _ _ h => h) (Or.inl ⟨by rfl, ?_⟩) ?_ ?_
                                        rotate_left
                                        · intro w'
                                          go_simp
                                          with_reducible rfl
                                        rotate_left
                                        · simp only [Act.put, List.setIfInBounds_toArray, List.set_cons_zero, List.set_cons_succ, i64_w, i32_w]
                                          rfl
                                        refine pure_ (i := 35) (N := some 115) (v := ?_) (a' := ?_) #[true, true, true, true, true, true, true, true, true, true, true, true, true, true, true, true, true, true, true, true, true, true, true, true, true, true, true, true, true, true, true, true, false, true, false, true, false, false, false, false, false] rfl rfl (any_of HT_.out (by kernel_rfl)) (fun _ _ _ h => h) (Or.inl ⟨by rfl, ?_⟩) ?_ ?_
                                        rotate_left
                                        · intro w'
                                          go_simp
                                          with_reducible rfl
                                        rotate_left
                                        · simp only [Act.put, List.setIfInBounds_toArray, List.set_cons_zero, List.set_cons_succ, i64_w, i32_w]
                                          rfl
                                        refine pure_ (i := 36) (N := some 116) (v := ?_) (a' := ?_) #[true, true, true, true, true, true, true, true, true, true, true, true, true, true, true, true, true, true, true, true, true, true, true, true, true, true, true, true, true, true, true, true, false, true, false, true, true, false, false, false, false] rfl rfl (any_of HT_.out (by kernel_rfl)) (fun _ _ _ h => h) (Or.inl ⟨by rfl, ?_⟩) ?_ ?_
                                        rotate_left
                                        · intro w'
                                          go_simp
                                          with_reducible rfl
                                        rotate_left
                                        · simp only [Act.put, List.setIfInBounds_toArray, List.set_cons_zero, List.set_cons_succ, i64_w, i32_w]
                                          rfl
                                        refine pure_ (i := 37) (N := some 117) (v := ?_) (a' := ?_) #[true, true, true, true, true, true, true, true, true, true, true, true, true, true, true, true, true, true, true, true, true, true, true, true, true, true, true, true, true, true, true, true, false, true, false, true, true, true, false, false, false] rfl rfl (any_of HT_.out (by kernel_rfl)) (fun _ _ _ h => h) (Or.inl ⟨by rfl, ?_⟩) ?_ ?_
                                        rotate_left
                                        · intro w'
                                          go_simp
                                          with_reducible rfl
                                        rotate_left
                                        · simp only [Act.put, List.setIfInBounds_toArray, List.set_cons_zero, List.set_cons_succ, i64_w, i32_w]
                                          rfl
                                        refine take_ (i := 32) (N := some 112) (v := ?_) (a' := ?_) #[true, true, true, true, true, true, true, true, true, true, true, true, true, true, true, true, true, true, true, true, true, true, true, true, true, true, true, true, true, true, true, true, true, true, false, true, true, true, false, false, false] rfl rfl (take_ofW HT_.out HW_.out (by kernel_rfl)) (fun _ _ _ h => h) (Or.inl ⟨by rfl, ?_⟩) hHeld ?_ ?_
                                        rotate_left
                                        · rintro w' ⟨s0, s1, s2, s3, s4, s5, s6, s7, s8, s9, s10, s11, s12, s13, s14, s15, s16, s17, s18, s19, s20, s21, s22⟩
                                          go_simp
                                          with_reducible rfl
                                        rotate_left
                                        · simp only [Act.put, List.setIfInBounds_toArray, List.set_cons_zero, List.set_cons_succ, i64_w, i32_w]
                                          rfl
                                        refine take_ (i := 34) (N := some 114) (v := ?_) (a' := ?_) #[true, true, true, true, true, true, true, true, true, true, true, true, true, true, true, true, true, true, true, true, true, true, true, true, true, true, true, true, true, true, true, true, true, true, true, true, true, true, false, false, false] rfl rfl (take_ofW HT_.out HW_.out (by kernel_rfl)) (fun _ _ _ h => h) (Or.inl ⟨by rfl, ?_⟩) hHeld ?_ ?_
                                        rotate_left
                                        · rintro w' ⟨s0, s1, s2, s3, s4, s5, s6, s7, s8, s9, s10, s11, s12, s13, s14, s15, s16, s17, s18, s19, s20, s21, s22⟩
                                          go_simp
                                          with_reducible rfl
                                        rotate_left
                                        · simp only [Act.put, List.setIfInBounds_toArray, List.set_cons_zero, List.set_cons_succ, i64_w, i32_w]
                                          rfl
                                        refine pure_ (i := 38) (N := some 118) (v := ?_) (a' := ?_) #[true, true, true, true, true, true, true, true, true, true, true, true, true, true, true, true, true, true, true, true, true, true, true, true, true, true, true, true, true, true, true, true, true, true, true, true, true, true, true, false, false] rfl rfl (any_of HT_.out (by kernel_rfl)) (fun _ _ _ h => h) (Or.inl ⟨by rfl, ?_⟩) ?_ ?_
                                        rotate_left
                                        · intro w'
                                          go_simp
                                          with_reducible rfl
                                        rotate_left
                                        · simp only [Act.put, List.setIfInBounds_toArray, List.set_cons_zero, List.set_cons_succ, i64_w, i32_w]
                                          rfl
                                        refine pure_ (i := 39) (N := some 119) (v := ?_) (a' := ?_) #[true, true, true, true, true, true, true, true, true, true, true, true, true, true, true, true, true, true, true, true, true, true, true, true, true, true, true, true, true, true, true, true, true, true, true, true, true, true, true, true, false] rfl rfl (any_of HT_.out (by kernel_rfl)) (fun _ _ _ h => h) (Or.inl ⟨by rfl, ?_⟩) ?_ ?_
                                        rotate_left
                                        · intro w'
                                          go_simp
                                          with_reducible rfl
                                        rotate_left
                                        · simp only [Act.put, List.setIfInBounds_toArray, List.set_cons_zero, List.set_cons_succ, i64_w, i32_w]
                                          rfl
                                        refine pure_ (i := 40) (N := some 120) (v := ?_) (a' := ?_) #[true, true, true, true, true, true, true, true, true, true, true, true, true, true, true, true, true, true, true, true, true, true, true, true, true, true, true, true, true, true, true, true, true, true, true, true, true, true, true, true, true] rfl rfl (any_of HT_.out (by kernel_rfl)) (fun _ _ _ h => h) (Or.inl ⟨by rfl, ?_⟩) ?_ ?_
                                        rotate_left
                                        · intro w'
                                          go_simp
                                          with_reducible rfl
                                        rotate_left
                                        · simp only [Act.put, List.setIfInBounds_toArray, List.set_cons_zero, List.set_cons_succ, i64_w, i32_w]
                                          rfl
                                        refine done_ (done_of HT_.out (by kernel_rfl)) ?_
                                        try go_wp2
                                        (refine Met.intro ?_; go_step; (repeat apply Exists.intro); (first | refine ⟨?rel, rfl⟩ | (refine ⟨?rel, ?fr⟩; (case fr => (simp only [c49b0]; exact rfl)))))
                                        case rel => exact ⟨_, ((t825 != (wrap64 (t811 + (wrap64 ((x10_3.size : Int) / 8)))))), (by first | rfl | (simp; done) | (simp [*]; done)), H', ⟨by have := HJ4.out; have := HJ12.out; have := HK3.out; first | omega | exact Nat.le_refl _⟩, ⟨by (with_reducible repeat (first | apply Kd.R_alloc | apply Kd.R_drewN | apply Kd.R_drew)); exact Kd.R_mono HO_5.out (fun _ hk => trivial)⟩, ⟨by (with_reducible repeat (first | refine blk_drewN ?_ _ | refine blk_drew ?_ | refine blk_alloc ?_ _)); exact BK821.out⟩, ⟨by (with_reducible repeat (first | refine blk_drewN ?_ _ | refine blk_drew ?_ | refine blk_alloc ?_ _)); exact BK835.out⟩, ⟨by repeat (first | (with_reducible first | exact HB.out | apply below_alloc | apply pw_below_drewN | apply below_drew1 | refine below_set ?_ GE821.out | refine below_set ?_ GE835.out) | exact HB.out)⟩⟩
                                      · rw [if_neg c38] at H
                                        exact (palanquinlaw15_FragWhole.j3_no _ _ _ _ _ _ _ _ _ _ _ _ _ _ _ _ _ _ _ _ _ _ _ _ _ _ _ _ H hrt_).elim
                                    · rw [if_neg c37] at H
                                      exact absurd H (by simp)
                                  · rw [if_neg c36] at H
                                    exact (palanquinlaw15_FragWhole.j3_no _ _ _ _ _ _ _ _ _ _ _ _ _ _ _ _ _ _ _ _ _ _ _ _ _ _ _ _ H hrt_).elim
                                · rw [if_neg c35] at H
                                  exact (palanquinlaw15_FragWhole.j3_no _ _ _ _ _ _ _ _ _ _ _ _ _ _ _ _ _ _ _ _ _ _ _ _ _ _ _ _ H hrt_).elim
                            · rw [if_neg c32] at H
                              exact (palanquinlaw15_FragWhole.j3_no _ _ _ _ _ _ _ _ _ _ _ _ _ _ _ _ _ _ _ _ _ _ _ _ _ _ _ _ H hrt_).elim
                          case rest =>
                            clear HC25
                            try clear p2
                            try clear c3
                            try clear p8
                            try clear q8
                            try clear hx8
                            try clear c32
                            try clear c32b0
                            try clear c32b1
                            try clear c35
                            try clear c35b0
                            try clear c35b1
                            try clear hx841_0
                            try clear p841
                            try clear q841
                            obtain ⟨kq, x120_24, rfl, HA, HJ24, HO_5, BK821, BK835, HB⟩ := hcut
                            cases kq with
                            | zero => exact absurd HA.out (by simp [palanquinlaw15_FragWhole.j3])
                            | succ kj24 =>
                              have H := HA.out
                              clear HA
                              simp only [palanquinlaw15_FragWhole.j3] at H
                              by_cases c47 : x120_24 = true
                              · subst c47
                                have H1 : (some false) = some r := by rw [if_pos rfl] at H; exact H
                                exact absurd ((Option.some.inj H1).trans hrt_.out) (by decide)
                              · replace c47 := Bool.eq_false_iff.mpr c47
                                subst c47
                                have H1 : (if (x11_3 = (wrap64 ((t805.length : Int) - 1))) then (if t815 = true then (palanquinlaw15_FragWhole.j4 kj24 a1 t805 t819 x10_3 x11_3 t833 (t829 != true) t809 t810 t811 t812 t813 t814 t815 t816 t817 t818 t823 t824 t825 t826 t827 t828 t829 t830 t831 t832) else (palanquinlaw15_FragWhole.j4 kj24 a1 t805 t819 x10_3 x11_3 t833 (t829 != (!(x11_3 == (wrap64 ((t805.length : Int) - 1))))) t809 t810 t811 t812 t813 t814 t815 t816 t817 t818 t823 t824 t825 t826 t827 t828 t829 t830 t831 t832)) else (if ((t833.size : Int) % 8) = 0 then (if (t833.size : Int) = 0 then (palanquinlaw15_FragWhole.j4 kj24 a1 t805 t819 x10_3 x11_3 t833 true t809 t810 t811 t812 t813 t814 t815 t816 t817 t818 t823 t824 t825 t826 t827 t828 t829 t830 t831 t832) else (if t815 = true then (palanquinlaw15_FragWhole.j4 kj24 a1 t805 t819 x10_3 x11_3 t833 (t829 != true) t809 t810 t811 t812 t813 t814 t815 t816 t817 t818 t823 t824 t825 t826 t827 t828 t829 t830 t831 t832) else (palanquinlaw15_FragWhole.j4 kj24 a1 t805 t819 x10_3 x11_3 t833 (t829 != (!(x11_3 == (wrap64 ((t805.length : Int) - 1))))) t809 t810 t811 t812 t813 t814 t815 t816 t817 t818 t823 t824 t825 t826 t827 t828 t829 t830 t831 t832))) else (palanquinlaw15_FragWhole.j4 kj24 a1 t805 t819 x10_3 x11_3 t833 true t809 t810 t811 t812 t813 t814 t815 t816 t817 t818 t823 t824 t825 t826 t827 t828 t829 t830 t831 t832))) = some r := by rw [if_neg (show ¬ (false = true) by decide)] at H; exact H
                                clear H
                                have H := H1
                                clear H1
                                have HC48 := Aside0.mk H
                                clear H
                                go_upto_region 20 with (fail)
                                go_cut [149] (fun v149 wc => ∃ (kq : Nat) (x149_47 : Bool), v149 = .bool x149_47 ∧ Aside0 (palanquinlaw15_FragWhole.j4 kq a1 t805 t819 x10_3 x11_3 t833 x149_47 t809 t810 t811 t812 t813 t814 t815 t816 t817 t818 t823 t824 t825 t826 t827 t828 t829 t830 t831 t832 = some r) ∧ Aside0 (kq ≤ kj24) ∧ Aside0 (Kd.R Kd.string 9 wc w.heap.size (fun _ => True) (.slice (some ad822) t805.length co26) t805) ∧ Aside0 (wc.heap[gb821]? = some (.cells #[.int .i64 t809, .int .i64 t810, .int .i64 t811, .int .i64 t812, .int .i64 t813, .bool t814, .bool t815, .string t816, .string t817, .string t818] 93 (0, 0))) ∧ Aside0 (wc.heap[gb835]? = some (.cells #[.int .i64 t823, .int .i64 t824, .int .i64 t825, .int .i64 t826, .int .i64 t827, .bool t828, .bool t829, .string t830, .string t831, .string t832] 93 (0, 0))) ∧ Aside0 (Below w.heap.size w wc))
                                case first =>
                                  have H := HC48.out
                                  clear HC48
                                  by_cases c49 : (x11_3 = (wrap64 ((t805.length : Int) - 1)))
                                  · rw [if_pos c49] at H
                                    have c49b0 : (x11_3 == (wrap64 ((t805.length : Int) - 1))) = true := beq_iff_eq.mpr c49
                                    have c49b1 : (x11_3 != (wrap64 ((t805.length : Int) - 1))) = false := bne_eq_false_iff_eq.mpr c49
                                    clear c49
                                    (first | rw [c49b0] | (simp only [i64_w, i32_w]; rw [c49b0]) | skip)
                                    by_cases c50 : t815 = true
                                    · subst c50
                                      have H1 : (palanquinlaw15_FragWhole.j4 kj24 a1 t805 t819 x10_3 x11_3 t833 (t829 != true) t809 t810 t811 t812 t813 t814 true t816 t817 t818 t823 t824 t825 t826 t827 t828 t829 t830 t831 t832) = some r := by rw [if_pos rfl] at H; exact H
                                      clear H
                                      have H := H1
                                      clear H1
                                      have H' := Aside0.mk H
                                      clear H
                                      have hnb51 := NB835_821.out
                                      have hnc51 := NB821_835.out
                                      have hcz52_0 : wc.cell? ⟨gb835, 0, none⟩ = some (.int .i64 t823) := (blk_cell BK835.out 0).trans rfl
                                      have hcz52_1 : wc.cell? ⟨gb835, 1, none⟩ = some (.int .i64 t824) := (blk_cell BK835.out 1).trans rfl
                                      have hcz52_2 : wc.cell? ⟨gb835, 2, none⟩ = some (.int .i64 t825) := (blk_cell BK835.out 2).trans rfl
                                      have hcz52_3 : wc.cell? ⟨gb835, 3, none⟩ = some (.int .i64 t826) := (blk_cell BK835.out 3).trans rfl
                                      have hcz52_4 : wc.cell? ⟨gb835, 4, none⟩ = some (.int .i64 t827) := (blk_cell BK835.out 4).trans rfl
                                      have hcz52_5 : wc.cell? ⟨gb835, 5, none⟩ = some (.bool t828) := (blk_cell BK835.out 5).trans rfl
                                      have hcz52_6 : wc.cell? ⟨gb835, 6, none⟩ = some (.bool t829) := (blk_cell BK835.out 6).trans rfl
                                      have hcz52_7 : wc.cell? ⟨gb835, 7, none⟩ = some (.string t830) := (blk_cell BK835.out 7).trans rfl
                                      have hcz52_8 : wc.cell? ⟨gb835, 8, none⟩ = some (.string t831) := (blk_cell BK835.out 8).trans rfl
                                      have hcz52_9 : wc.cell? ⟨gb835, 9, none⟩ = some (.string t832) := (blk_cell BK835.out 9).trans rfl
                                      have hfz52_0 := blk_frozen BK835.out 0
                                      have hfz52_1 := blk_frozen BK835.out 1
                                      have hfz52_2 := blk_frozen BK835.out 2
                                      have hfz52_3 := blk_frozen BK835.out 3
                                      have hfz52_4 := blk_frozen BK835.out 4
                                      have hfz52_5 := blk_frozen BK835.out 5
                                      have hfz52_6 := blk_frozen BK835.out 6
                                      have hfz52_7 := blk_frozen BK835.out 7
                                      have hfz52_8 := blk_frozen BK835.out 8
                                      have hfz52_9 := blk_frozen BK835.out 9
                                      have hcz53_0 : wc.cell? ⟨gb821, 0, none⟩ = some (.int .i64 t809) := (blk_cell BK821.out 0).trans rfl
                                      have hcz53_1 : wc.cell? ⟨gb821, 1, none⟩ = some (.int .i64 t810) := (blk_cell BK821.out 1).trans rfl
                                      have hcz53_2 : wc.cell? ⟨gb821, 2, none⟩ = some (.int .i64 t811) := (blk_cell BK821.out 2).trans rfl
                                      have hcz53_3 : wc.cell? ⟨gb821, 3, none⟩ = some (.int .i64 t812) := (blk_cell BK821.out 3).trans rfl
                                      have hcz53_4 : wc.cell? ⟨gb821, 4, none⟩ = some (.int .i64 t813) := (blk_cell BK821.out 4).trans rfl
                                      have hcz53_5 : wc.cell? ⟨gb821, 5, none⟩ = some (.bool t814) := (blk_cell BK821.out 5).trans rfl
                                      have hcz53_6 : wc.cell? ⟨gb821, 6, none⟩ = some (.bool true) := (blk_cell BK821.out 6).trans rfl
                                      have hcz53_7 : wc.cell? ⟨gb821, 7, none⟩ = some (.string t816) := (blk_cell BK821.out 7).trans rfl
                                      have hcz53_8 : wc.cell? ⟨gb821, 8, none⟩ = some (.string t817) := (blk_cell BK821.out 8).trans rfl
                                      have hcz53_9 : wc.cell? ⟨gb821, 9, none⟩ = some (.string t818) := (blk_cell BK821.out 9).trans rfl
                                      have hfz53_0 := blk_frozen BK821.out 0
                                      have hfz53_1 := blk_frozen BK821.out 1
                                      have hfz53_2 := blk_frozen BK821.out 2
                                      have hfz53_3 := blk_frozen BK821.out 3
                                      have hfz53_4 := blk_frozen BK821.out 4
                                      have hfz53_5 := blk_frozen BK821.out 5
                                      have hfz53_6 := blk_frozen BK821.out 6
                                      have hfz53_7 := blk_frozen BK821.out 7
                                      have hfz53_8 := blk_frozen BK821.out 8
                                      have hfz53_9 := blk_frozen BK821.out 9
                                      go_wp2
                                      (refine Met.intro ?_; go_step; (repeat apply Exists.intro); (first | refine ⟨?rel, rfl⟩ | (refine ⟨?rel, ?fr⟩; (case fr => (simp only [c49b0]; exact rfl)))))
                                      case rel => exact ⟨_, ((t829 != true)), (by first | rfl | (simp; done) | (simp [*]; done)), H', ⟨by have := HJ4.out; have := HJ12.out; have := HK3.out; have := HJ24.out; first | omega | exact Nat.le_refl _⟩, ⟨by (with_reducible repeat (first | apply Kd.R_alloc | apply Kd.R_drewN | apply Kd.R_drew)); exact HO_5.out⟩, ⟨by (with_reducible repeat (first | refine blk_drewN ?_ _ | refine blk_drew ?_ | refine blk_alloc ?_ _)); exact BK821.out⟩, ⟨by (with_reducible repeat (first | refine blk_drewN ?_ _ | refine blk_drew ?_ | refine blk_alloc ?_ _)); exact BK835.out⟩, ⟨by repeat (first | (with_reducible first | exact HB.out | apply below_alloc | apply pw_below_drewN | apply below_drew1 | refine below_set ?_ GE821.out | refine below_set ?_ GE835.out) | exact HB.out)⟩⟩
                                    · replace c50 := Bool.eq_false_iff.mpr c50
                                      subst c50
                                      have H1 : (palanquinlaw15_FragWhole.j4 kj24 a1 t805 t819 x10_3 x11_3 t833 (t829 != (!(x11_3 == (wrap64 ((t805.length : Int) - 1))))) t809 t810 t811 t812 t813 t814 false t816 t817 t818 t823 t824 t825 t826 t827 t828 t829 t830 t831 t832) = some r := by rw [if_neg (show ¬ (false = true) by decide)] at H; exact H
                                      clear H
                                      have H := H1
                                      clear H1
                                      have H' := Aside0.mk H
                                      clear H
                                      have hnb54 := NB835_821.out
                                      have hnc54 := NB821_835.out
                                      have hcz55_0 : wc.cell? ⟨gb835, 0, none⟩ = some (.int .i64 t823) := (blk_cell BK835.out 0).trans rfl
                                      have hcz55_1 : wc.cell? ⟨gb835, 1, none⟩ = some (.int .i64 t824) := (blk_cell BK835.out 1).trans rfl
                                      have hcz55_2 : wc.cell? ⟨gb835, 2, none⟩ = some (.int .i64 t825) := (blk_cell BK835.out 2).trans rfl
                                      have hcz55_3 : wc.cell? ⟨gb835, 3, none⟩ = some (.int .i64 t826) := (blk_cell BK835.out 3).trans rfl
                                      have hcz55_4 : wc.cell? ⟨gb835, 4, none⟩ = some (.int .i64 t827) := (blk_cell BK835.out 4).trans rfl
                                      have hcz55_5 : wc.cell? ⟨gb835, 5, none⟩ = some (.bool t828) := (blk_cell BK835.out 5).trans rfl
                                      have hcz55_6 : wc.cell? ⟨gb835, 6, none⟩ = some (.bool t829) := (blk_cell BK835.out 6).trans rfl
                                      have hcz55_7 : wc.cell? ⟨gb835, 7, none⟩ = some (.string t830) := (blk_cell BK835.out 7).trans rfl
                                      have hcz55_8 : wc.cell? ⟨gb835, 8, none⟩ = some (.string t831) := (blk_cell BK835.out 8).trans rfl
                                      have hcz55_9 : wc.cell? ⟨gb835, 9, none⟩ = some (.string t832) := (blk_cell BK835.out 9).trans rfl
                                      have hfz55_0 := blk_frozen BK835.out 0
                                      have hfz55_1 := blk_frozen BK835.out 1
                                      have hfz55_2 := blk_frozen BK835.out 2
                                      have hfz55_3 := blk_frozen BK835.out 3
                                      have hfz55_4 := blk_frozen BK835.out 4
                                      have hfz55_5 := blk_frozen BK835.out 5
                                      have hfz55_6 := blk_frozen BK835.out 6
                                      have hfz55_7 := blk_frozen BK835.out 7
                                      have hfz55_8 := blk_frozen BK835.out 8
                                      have hfz55_9 := blk_frozen BK835.out 9
                                      have hcz56_0 : wc.cell? ⟨gb821, 0, none⟩ = some (.int .i64 t809) := (blk_cell BK821.out 0).trans rfl
                                      have hcz56_1 : wc.cell? ⟨gb821, 1, none⟩ = some (.int .i64 t810) := (blk_cell BK821.out 1).trans rfl
                                      have hcz56_2 : wc.cell? ⟨gb821, 2, none⟩ = some (.int .i64 t811) := (blk_cell BK821.out 2).trans rfl
                                      have hcz56_3 : wc.cell? ⟨gb821, 3, none⟩ = some (.int .i64 t812) := (blk_cell BK821.out 3).trans rfl
                                      have hcz56_4 : wc.cell? ⟨gb821, 4, none⟩ = some (.int .i64 t813) := (blk_cell BK821.out 4).trans rfl
                                      have hcz56_5 : wc.cell? ⟨gb821, 5, none⟩ = some (.bool t814) := (blk_cell BK821.out 5).trans rfl
                                      have hcz56_6 : wc.cell? ⟨gb821, 6, none⟩ = some (.bool false) := (blk_cell BK821.out 6).trans rfl
                                      have hcz56_7 : wc.cell? ⟨gb821, 7, none⟩ = some (.string t816) := (blk_cell BK821.out 7).trans rfl
                                      have hcz56_8 : wc.cell? ⟨gb821, 8, none⟩ = some (.string t817) := (blk_cell BK821.out 8).trans rfl
                                      have hcz56_9 : wc.cell? ⟨gb821, 9, none⟩ = some (.string t818) := (blk_cell BK821.out 9).trans rfl
                                      have hfz56_0 := blk_frozen BK821.out 0
                                      have hfz56_1 := blk_frozen BK821.out 1
                                      have hfz56_2 := blk_frozen BK821.out 2
                                      have hfz56_3 := blk_frozen BK821.out 3
                                      have hfz56_4 := blk_frozen BK821.out 4
                                      have hfz56_5 := blk_frozen BK821.out 5
                                      have hfz56_6 := blk_frozen BK821.out 6
                                      have hfz56_7 := blk_frozen BK821.out 7
                                      have hfz56_8 := blk_frozen BK821.out 8
                                      have hfz56_9 := blk_frozen BK821.out 9
                                      go_wp2
                                      (refine Met.intro ?_; go_step; (repeat apply Exists.intro); (first | refine ⟨?rel, rfl⟩ | (refine ⟨?rel, ?fr⟩; (case fr => (simp only [c49b0]; exact rfl)))))
                                      case rel => exact ⟨_, ((t829 != (!(x11_3 == (wrap64 ((t805.length : Int) - 1)))))), (by first | rfl | (simp; done) | (simp [*]; done)), H', ⟨by have := HJ4.out; have := HJ12.out; have := HK3.out; have := HJ24.out; first | omega | exact Nat.le_refl _⟩, ⟨by (with_reducible repeat (first | apply Kd.R_alloc | apply Kd.R_drewN | apply Kd.R_drew)); exact HO_5.out⟩, ⟨by (with_reducible repeat (first | refine blk_drewN ?_ _ | refine blk_drew ?_ | refine blk_alloc ?_ _)); exact BK821.out⟩, ⟨by (with_reducible repeat (first | refine blk_drewN ?_ _ | refine blk_drew ?_ | refine blk_alloc ?_ _)); exact BK835.out⟩, ⟨by repeat (first | (with_reducible first | exact HB.out | apply below_alloc | apply pw_below_drewN | apply below_drew1 | refine below_set ?_ GE821.out | refine below_set ?_ GE835.out) | exact HB.out)⟩⟩
                                  · rw [if_neg c49] at H
                                    have c49b0 : (x11_3 == (wrap64 ((t805.length : Int) - 1))) = false := beq_eq_false_iff_ne.mpr c49
                                    have c49b1 : (x11_3 != (wrap64 ((t805.length : Int) - 1))) = true := bne_iff_ne.mpr c49
                                    (first | rw [c49b0] | (simp only [i64_w, i32_w]; rw [c49b0]) | skip)
                                    by_cases c57 : ((t833.size : Int) % 8) = 0
                                    · rw [if_pos c57] at H
                                      have c57b0 : (((t833.size : Int) % 8) == 0) = true := beq_iff_eq.mpr c57
                                      have c57b1 : (((t833.size : Int) % 8) != 0) = false := bne_eq_false_iff_eq.mpr c57
                                      clear c57
                                      by_cases c58 : (t833.size : Int) = 0
                                      · rw [if_pos c58] at H
                                        exact (palanquinlaw15_FragWhole.j4_no _ _ _ _ _ _ _ _ _ _ _ _ _ _ _ _ _ _ _ _ _ _ _ _ _ _ _ _ H hrt_).elim
                                      · rw [if_neg c58] at H
                                        have c58b0 : ((t833.size : Int) == 0) = false := beq_eq_false_iff_ne.mpr c58
                                        have c58b1 : ((t833.size : Int) != 0) = true := bne_iff_ne.mpr c58
                                        by_cases c59 : t815 = true
                                        · subst c59
                                          have H1 : (palanquinlaw15_FragWhole.j4 kj24 a1 t805 t819 x10_3 x11_3 t833 (t829 != true) t809 t810 t811 t812 t813 t814 true t816 t817 t818 t823 t824 t825 t826 t827 t828 t829 t830 t831 t832) = some r := by rw [if_pos rfl] at H; exact H
                                          clear H
                                          have H := H1
                                          clear H1
                                          have H' := Aside0.mk H
                                          clear H
                                          have hnb60 := NB835_821.out
                                          have hnc60 := NB821_835.out
                                          have hcz61_0 : wc.cell? ⟨gb835, 0, none⟩ = some (.int .i64 t823) := (blk_cell BK835.out 0).trans rfl
                                          have hcz61_1 : wc.cell? ⟨gb835, 1, none⟩ = some (.int .i64 t824) := (blk_cell BK835.out 1).trans rfl
                                          have hcz61_2 : wc.cell? ⟨gb835, 2, none⟩ = some (.int .i64 t825) := (blk_cell BK835.out 2).trans rfl
                                          have hcz61_3 : wc.cell? ⟨gb835, 3, none⟩ = some (.int .i64 t826) := (blk_cell BK835.out 3).trans rfl
                                          have hcz61_4 : wc.cell? ⟨gb835, 4, none⟩ = some (.int .i64 t827) := (blk_cell BK835.out 4).trans rfl
                                          have hcz61_5 : wc.cell? ⟨gb835, 5, none⟩ = some (.bool t828) := (blk_cell BK835.out 5).trans rfl
                                          have hcz61_6 : wc.cell? ⟨gb835, 6, none⟩ = some (.bool t829) := (blk_cell BK835.out 6).trans rfl
                                          have hcz61_7 : wc.cell? ⟨gb835, 7, none⟩ = some (.string t830) := (blk_cell BK835.out 7).trans rfl
                                          have hcz61_8 : wc.cell? ⟨gb835, 8, none⟩ = some (.string t831) := (blk_cell BK835.out 8).trans rfl
                                          have hcz61_9 : wc.cell? ⟨gb835, 9, none⟩ = some (.string t832) := (blk_cell BK835.out 9).trans rfl
                                          have hfz61_0 := blk_frozen BK835.out 0
                                          have hfz61_1 := blk_frozen BK835.out 1
                                          have hfz61_2 := blk_frozen BK835.out 2
                                          have hfz61_3 := blk_frozen BK835.out 3
                                          have hfz61_4 := blk_frozen BK835.out 4
                                          have hfz61_5 := blk_frozen BK835.out 5
                                          have hfz61_6 := blk_frozen BK835.out 6
                                          have hfz61_7 := blk_frozen BK835.out 7
                                          have hfz61_8 := blk_frozen BK835.out 8
                                          have hfz61_9 := blk_frozen BK835.out 9
                                          have hcz62_0 : wc.cell? ⟨gb821, 0, none⟩ = some (.int .i64 t809) := (blk_cell BK821.out 0).trans rfl
                                          have hcz62_1 : wc.cell? ⟨gb821, 1, none⟩ = some (.int .i64 t810) := (blk_cell BK821.out 1).trans rfl
                                          have hcz62_2 : wc.cell? ⟨gb821, 2, none⟩ = some (.int .i64 t811) := (blk_cell BK821.out 2).trans rfl
                                          have hcz62_3 : wc.cell? ⟨gb821, 3, none⟩ = some (.int .i64 t812) := (blk_cell BK821.out 3).trans rfl
                                          have hcz62_4 : wc.cell? ⟨gb821, 4, none⟩ = some (.int .i64 t813) := (blk_cell BK821.out 4).trans rfl
                                          have hcz62_5 : wc.cell? ⟨gb821, 5, none⟩ = some (.bool t814) := (blk_cell BK821.out 5).trans rfl
                                          have hcz62_6 : wc.cell? ⟨gb821, 6, none⟩ = some (.bool true) := (blk_cell BK821.out 6).trans rfl
                                          have hcz62_7 : wc.cell? ⟨gb821, 7, none⟩ = some (.string t816) := (blk_cell BK821.out 7).trans rfl
                                          have hcz62_8 : wc.cell? ⟨gb821, 8, none⟩ = some (.string t817) := (blk_cell BK821.out 8).trans rfl
                                          have hcz62_9 : wc.cell? ⟨gb821, 9, none⟩ = some (.string t818) := (blk_cell BK821.out 9).trans rfl
                                          have hfz62_0 := blk_frozen BK821.out 0
                                          have hfz62_1 := blk_frozen BK821.out 1
                                          have hfz62_2 := blk_frozen BK821.out 2
                                          have hfz62_3 := blk_frozen BK821.out 3
                                          have hfz62_4 := blk_frozen BK821.out 4
                                          have hfz62_5 := blk_frozen BK821.out 5
                                          have hfz62_6 := blk_frozen BK821.out 6
                                          have hfz62_7 := blk_frozen BK821.out 7
                                          have hfz62_8 := blk_frozen BK821.out 8
                                          have hfz62_9 := blk_frozen BK821.out 9
                                          go_wp2
                                          (refine Met.intro ?_; go_step; (repeat apply Exists.intro); (first | refine ⟨?rel, rfl⟩ | (refine ⟨?rel, ?fr⟩; (case fr => (simp only [c49b0]; exact rfl)))))
                                          case rel => exact ⟨_, ((t829 != true)), (by first | rfl | (simp; done) | (simp [*]; done)), H', ⟨by have := HJ4.out; have := HJ12.out; have := HK3.out; have := HJ24.out; first | omega | exact Nat.le_refl _⟩, ⟨by (with_reducible repeat (first | apply Kd.R_alloc | apply Kd.R_drewN | apply Kd.R_drew)); exact HO_5.out⟩, ⟨by (with_reducible repeat (first | refine blk_drewN ?_ _ | refine blk_drew ?_ | refine blk_alloc ?_ _)); exact BK821.out⟩, ⟨by (with_reducible repeat (first | refine blk_drewN ?_ _ | refine blk_drew ?_ | refine blk_alloc ?_ _)); exact BK835.out⟩, ⟨by repeat (first | (with_reducible first | exact HB.out | apply below_alloc | apply pw_below_drewN | apply below_drew1 | refine below_set ?_ GE821.out | refine below_set ?_ GE835.out) | exact HB.out)⟩⟩
                                        · replace c59 := Bool.eq_false_iff.mpr c59
                                          subst c59
                                          have H1 : (palanquinlaw15_FragWhole.j4 kj24 a1 t805 t819 x10_3 x11_3 t833 (t829 != (!(x11_3 == (wrap64 ((t805.length : Int) - 1))))) t809 t810 t811 t812 t813 t814 false t816 t817 t818 t823 t824 t825 t826 t827 t828 t829 t830 t831 t832) = some r := by rw [if_neg (show ¬ (false = true) by decide)] at H; exact H
                                          clear H
                                          have H := H1
                                          clear H1
                                          have H' := Aside0.mk H
                                          clear H
                                          have hnb63 := NB835_821.out
                                          have hnc63 := NB821_835.out
                                          have hcz64_0 : wc.cell? ⟨gb835, 0, none⟩ = some (.int .i64 t823) := (blk_cell BK835.out 0).trans rfl
                                          have hcz64_1 : wc.cell? ⟨gb835, 1, none⟩ = some (.int .i64 t824) := (blk_cell BK835.out 1).trans rfl
                                          have hcz64_2 : wc.cell? ⟨gb835, 2, none⟩ = some (.int .i64 t825) := (blk_cell BK835.out 2).trans rfl
                                          have hcz64_3 : wc.cell? ⟨gb835, 3, none⟩ = some (.int .i64 t826) := (blk_cell BK835.out 3).trans rfl
                                          have hcz64_4 : wc.cell? ⟨gb835, 4, none⟩ = some (.int .i64 t827) := (blk_cell BK835.out 4).trans rfl
                                          have hcz64_5 : wc.cell? ⟨gb835, 5, none⟩ = some (.bool t828) := (blk_cell BK835.out 5).trans rfl
                                          have hcz64_6 : wc.cell? ⟨gb835, 6, none⟩ = some (.bool t829) := (blk_cell BK835.out 6).trans rfl
                                          have hcz64_7 : wc.cell? ⟨gb835, 7, none⟩ = some (.string t830) := (blk_cell BK835.out 7).trans rfl
                                          have hcz64_8 : wc.cell? ⟨gb835, 8, none⟩ = some (.string t831) := (blk_cell BK835.out 8).trans rfl
                                          have hcz64_9 : wc.cell? ⟨gb835, 9, none⟩ = some (.string t832) := (blk_cell BK835.out 9).trans rfl
                                          have hfz64_0 := blk_frozen BK835.out 0
                                          have hfz64_1 := blk_frozen BK835.out 1
                                          have hfz64_2 := blk_frozen BK835.out 2
                                          have hfz64_3 := blk_frozen BK835.out 3
                                          have hfz64_4 := blk_frozen BK835.out 4
                                          have hfz64_5 := blk_frozen BK835.out 5
                                          have hfz64_6 := blk_frozen BK835.out 6
                                          have hfz64_7 := blk_frozen BK835.out 7
                                          have hfz64_8 := blk_frozen BK835.out 8
                                          have hfz64_9 := blk_frozen BK835.out 9
                                          have hcz65_0 : wc.cell? ⟨gb821, 0, none⟩ = some (.int .i64 t809) := (blk_cell BK821.out 0).trans rfl
                                          have hcz65_1 : wc.cell? ⟨gb821, 1, none⟩ = some (.int .i64 t810) := (blk_cell BK821.out 1).trans rfl
                                          have hcz65_2 : wc.cell? ⟨gb821, 2, none⟩ = some (.int .i64 t811) := (blk_cell BK821.out 2).trans rfl
                                          have hcz65_3 : wc.cell? ⟨gb821, 3, none⟩ = some (.int .i64 t812) := (blk_cell BK821.out 3).trans rfl
                                          have hcz65_4 : wc.cell? ⟨gb821, 4, none⟩ = some (.int .i64 t813) := (blk_cell BK821.out 4).trans rfl
                                          have hcz65_5 : wc.cell? ⟨gb821, 5, none⟩ = some (.bool t814) := (blk_cell BK821.out 5).trans rfl
                                          have hcz65_6 : wc.cell? ⟨gb821, 6, none⟩ = some (.bool false) := (blk_cell BK821.out 6).trans rfl
                                          have hcz65_7 : wc.cell? ⟨gb821, 7, none⟩ = some (.string t816) := (blk_cell BK821.out 7).trans rfl
                                          have hcz65_8 : wc.cell? ⟨gb821, 8, none⟩ = some (.string t817) := (blk_cell BK821.out 8).trans rfl
                                          have hcz65_9 : wc.cell? ⟨gb821, 9, none⟩ = some (.string t818) := (blk_cell BK821.out 9).trans rfl
                                          have hfz65_0 := blk_frozen BK821.out 0
                                          have hfz65_1 := blk_frozen BK821.out 1
                                          have hfz65_2 := blk_frozen BK821.out 2
                                          have hfz65_3 := blk_frozen BK821.out 3
                                          have hfz65_4 := blk_frozen BK821.out 4
                                          have hfz65_5 := blk_frozen BK821.out 5
                                          have hfz65_6 := blk_frozen BK821.out 6
                                          have hfz65_7 := blk_frozen BK821.out 7
                                          have hfz65_8 := blk_frozen BK821.out 8
                                          have hfz65_9 := blk_frozen BK821.out 9
                                          go_wp2
                                          (refine Met.intro ?_; go_step; (repeat apply Exists.intro); (first | refine ⟨?rel, rfl⟩ | (refine ⟨?rel, ?fr⟩; (case fr => (simp only [c49b0]; exact rfl)))))
                                          case rel => exact ⟨_, ((t829 != (!(x11_3 == (wrap64 ((t805.length : Int) - 1)))))), (by first | rfl | (simp; done) | (simp [*]; done)), H', ⟨by have := HJ4.out; have := HJ12.out; have := HK3.out; have := HJ24.out; first | omega | exact Nat.le_refl _⟩, ⟨by (with_reducible repeat (first | apply Kd.R_alloc | apply Kd.R_drewN | apply Kd.R_drew)); exact HO_5.out⟩, ⟨by (with_reducible repeat (first | refine blk_drewN ?_ _ | refine blk_drew ?_ | refine blk_alloc ?_ _)); exact BK821.out⟩, ⟨by (with_reducible repeat (first | refine blk_drewN ?_ _ | refine blk_drew ?_ | refine blk_alloc ?_ _)); exact BK835.out⟩, ⟨by repeat (first | (with_reducible first | exact HB.out | apply below_alloc | apply pw_below_drewN | apply below_drew1 | refine below_set ?_ GE821.out | refine below_set ?_ GE835.out) | exact HB.out)⟩⟩
                                    · rw [if_neg c57] at H
                                      exact (palanquinlaw15_FragWhole.j4_no _ _ _ _ _ _ _ _ _ _ _ _ _ _ _ _ _ _ _ _ _ _ _ _ _ _ _ _ H hrt_).elim
                                case rest =>
                                  clear HC48
                                  try clear p2
                                  try clear c3
                                  try clear c4
                                  try clear c5
                                  try clear c6
                                  try clear p6
                                  try clear p8
                                  try clear q8
                                  try clear hx8
                                  try clear c32
                                  try clear c32b0
                                  try clear c32b1
                                  try clear c35
                                  try clear c35b0
                                  try clear c35b1
                                  try clear c47
                                  try clear c49
                                  try clear c49b0
                                  try clear c49b1
                                  try clear c50
                                  try clear c51
                                  try clear c54
                                  try clear c57
                                  try clear c57b0
                                  try clear c57b1
                                  try clear c58
                                  try clear c58b0
                                  try clear c58b1
                                  try clear c59
                                  try clear c60
                                  try clear c63
                                  try clear p64
                                  try clear hcz52_0
                                  try clear hcz52_1
                                  try clear hcz52_2
                                  try clear hcz52_3
                                  try clear hcz52_4
                                  try clear hcz52_5
                                  try clear hcz52_6
                                  try clear hcz52_7
                                  try clear hcz52_8
                                  try clear hcz52_9
                                  try clear hcz53_0
                                  try clear hcz53_1
                                  try clear hcz53_2
                                  try clear hcz53_3
                                  try clear hcz53_4
                                  try clear hcz53_5
                                  try clear hcz53_6
                                  try clear hcz53_7
                                  try clear hcz53_8
                                  try clear hcz53_9
                                  try clear hcz55_0
                                  try clear hcz55_1
                                  try clear hcz55_2
                                  try clear hcz55_3
                                  try clear hcz55_4
                                  try clear hcz55_5
                                  try clear hcz55_6
                                  try clear hcz55_7
                                  try clear hcz55_8
                                  try clear hcz55_9
                                  try clear hcz56_0
                                  try clear hcz56_1
                                  try clear hcz56_2
                                  try clear hcz56_3
                                  try clear hcz56_4
                                  try clear hcz56_5
                                  try clear hcz56_6
                                  try clear hcz56_7
                                  try clear hcz56_8
                                  try clear hcz56_9
                                  try clear hcz61_0
                                  try clear hcz61_1
                                  try clear hcz61_2
                                  try clear hcz61_3
                                  try clear hcz61_4
                                  try clear hcz61_5
                                  try clear hcz61_6
                                  try clear hcz61_7
                                  try clear hcz61_8
                                  try clear hcz61_9
                                  try clear hcz62_0
                                  try clear hcz62_1
                                  try clear hcz62_2
                                  try clear hcz62_3
                                  try clear hcz62_4
                                  try clear hcz62_5
                                  try clear hcz62_6
                                  try clear hcz62_7
                                  try clear hcz62_8
                                  try clear hcz62_9
                                  try clear hcz64_0
                                  try clear hcz64_1
                                  try clear hcz64_2
                                  try clear hcz64_3
                                  try clear hcz64_4
                                  try clear hcz64_5
                                  try clear hcz64_6
                                  try clear hcz64_7
                                  try clear hcz64_8
                                  try clear hcz64_9
                                  try clear hcz65_0
                                  try clear hcz65_1
                                  try clear hcz65_2
                                  try clear hcz65_3
                                  try clear hcz65_4
                                  try clear hcz65_5
                                  try clear hcz65_6
                                  try clear hcz65_7
                                  try clear hcz65_8
                                  try clear hcz65_9
                                  try clear hfz52_0
                                  try clear hfz52_1
                                  try clear hfz52_2
                                  try clear hfz52_3
                                  try clear hfz52_4
                                  try clear hfz52_5
                                  try clear hfz52_6
                                  try clear hfz52_7
                                  try clear hfz52_8
                                  try clear hfz52_9
                                  try clear hfz53_0
                                  try clear hfz53_1
                                  try clear hfz53_2
                                  try clear hfz53_3
                                  try clear hfz53_4
                                  try clear hfz53_5
                                  try clear hfz53_6
                                  try clear hfz53_7
                                  try clear hfz53_8
                                  try clear hfz53_9
                                  try clear hfz55_0
                                  try clear hfz55_1
                                  try clear hfz55_2
                                  try clear hfz55_3
                                  try clear hfz55_4
                                  try clear hfz55_5
                                  try clear hfz55_6
                                  try clear hfz55_7
                                  try clear hfz55_8
                                  try clear hfz55_9
                                  try clear hfz56_0
                                  try clear hfz56_1
                                  try clear hfz56_2
                                  try clear hfz56_3
                                  try clear hfz56_4
                                  try clear hfz56_5
                                  try clear hfz56_6
                                  try clear hfz56_7
                                  try clear hfz56_8
                                  try clear hfz56_9
                                  try clear hfz61_0
                                  try clear hfz61_1
                                  try clear hfz61_2
                                  try clear hfz61_3
                                  try clear hfz61_4
                                  try clear hfz61_5
                                  try clear hfz61_6
                                  try clear hfz61_7
                                  try clear hfz61_8
                                  try clear hfz61_9
                                  try clear hfz62_0
                                  try clear hfz62_1
                                  try clear hfz62_2
                                  try clear hfz62_3
                                  try clear hfz62_4
                                  try clear hfz62_5
                                  try clear hfz62_6
                                  try clear hfz62_7
                                  try clear hfz62_8
                                  try clear hfz62_9
                                  try clear hfz64_0
                                  try clear hfz64_1
                                  try clear hfz64_2
                                  try clear hfz64_3
                                  try clear hfz64_4
                                  try clear hfz64_5
                                  try clear hfz64_6
                                  try clear hfz64_7
                                  try clear hfz64_8
                                  try clear hfz64_9
                                  try clear hfz65_0
                                  try clear hfz65_1
                                  try clear hfz65_2
                                  try clear hfz65_3
                                  try clear hfz65_4
                                  try clear hfz65_5
                                  try clear hfz65_6
                                  try clear hfz65_7
                                  try clear hfz65_8
                                  try clear hfz65_9
                                  try clear hx841_0
                                  try clear p2
                                  try clear p8
                                  try clear p841
                                  try clear q8
                                  try clear q841
                                  obtain ⟨kq, x149_47, rfl, HA, HJ47, HO_5, BK821, BK835, HB⟩ := hcut
                                  cases kq with
                                  | zero => exact absurd HA.out (by simp [palanquinlaw15_FragWhole.j4])
                                  | succ kj47 =>
                                    have H := HA.out
                                    clear HA
                                    simp only [palanquinlaw15_FragWhole.j4] at H
                                    by_cases c66 : x149_47 = true
                                    · subst c66
                                      have H1 : (some false) = some r := by rw [if_pos rfl] at H; exact H
                                      exact absurd ((Option.some.inj H1).trans hrt_.out) (by decide)
                                    · replace c66 := Bool.eq_false_iff.mpr c66
                                      subst c66
                                      have H1 : (if x10_3.size + t833.size ≤ 9223372036854775807 then (if (!(t823 == t809) || (!(t824 == t810) || (!(t826 == t812) || (!(t827 == t813) || (!(t828 == t814) || (!(t830.toList == t816.toList) || (!(t831.toList == t817.toList) || (!(t832.toList == t818.toList))))))))) = true then (some false) else (palanquinlaw15_FragWhole.l0 kj47 a1 t805 t819 (x10_3 ++ t833) (wrap64 (x11_3 + 1)) t809 t810 t811 t812 t813 t814 t815 t816 t817 t818)) else (none)) = some r := by rw [if_neg (show ¬ (false = true) by decide)] at H; exact H
                                      clear H
                                      have H := H1
                                      clear H1
                                      by_cases c67 : x10_3.size + t833.size ≤ 9223372036854775807
                                      · rw [if_pos c67] at H
                                        have c67b0 := eq_true c67
                                        have c67b1 : decide (x10_3.size + t833.size ≤ 9223372036854775807) = true := decide_eq_true c67
                                        try have c67b2 : (9223372036854775807 < x10_3.size + t833.size) = False := eq_false (Nat.not_lt.2 c67)
                                        by_cases c68 : (!(t823 == t809) || (!(t824 == t810) || (!(t826 == t812) || (!(t827 == t813) || (!(t828 == t814) || (!(t830.toList == t816.toList) || (!(t831.toList == t817.toList) || (!(t832.toList == t818.toList))))))))) = true
                                        · rw [if_pos c68] at H
                                          exact absurd ((Option.some.inj H).trans hrt_.out) (by decide)
                                        · rw [if_neg c68] at H
                                          have c68b0 : (!(t823 == t809) || (!(t824 == t810) || (!(t826 == t812) || (!(t827 == t813) || (!(t828 == t814) || (!(t830.toList == t816.toList) || (!(t831.toList == t817.toList) || (!(t832.toList == t818.toList))))))))) = false := by simpa using c68
                                          clear c68
                                          have H' := Aside0.mk H
                                          clear H
                                          try go_wp2
                                          have n0_ := Aside0.mk (Kd.R_drew HO_5.out)
                                          have n1_ := Aside0.mk (blk_drew BK821.out)
                                          have n2_ := Aside0.mk (blk_drew BK835.out)
                                          have n3_ := Aside0.mk (below_drew1 HB.out)
                                          clear HO_5
                                          clear BK821
                                          clear BK835
                                          clear HB
                                          have HO_5 := n0_
                                          have BK821 := n1_
                                          have BK835 := n2_
                                          have HB := n3_
                                          clear n0_ n1_ n2_ n3_
                                          refine start_ (n := 8) (S := fun w' => w'.cell? ⟨gb821, 0, none⟩ = some (.int .i64 t809) ∧ w'.cell? ⟨gb821, 1, none⟩ = some (.int .i64 t810) ∧ w'.cell? ⟨gb821, 2, none⟩ = some (.int .i64 t811) ∧ w'.cell? ⟨gb821, 3, none⟩ = some (.int .i64 t812) ∧ w'.cell? ⟨gb821, 4, none⟩ = some (.int .i64 t813) ∧ w'.cell? ⟨gb821, 5, none⟩ = some (.bool t814) ∧ w'.cell? ⟨gb821, 6, none⟩ = some (.bool t815) ∧ w'.cell? ⟨gb821, 7, none⟩ = some (.string t816) ∧ w'.cell? ⟨gb821, 8, none⟩ = some (.string t817) ∧ w'.cell? ⟨gb821, 9, none⟩ = some (.string t818)) (ds := []) #[false, false, false, false, false, false, false, false] (by kernel_rfl) rfl rfl ⟨(blk_cell BK821.out 0).trans rfl, (blk_cell BK821.out 1).trans rfl, (blk_cell BK821.out 2).trans rfl, (blk_cell BK821.out 3).trans rfl, (blk_cell BK821.out 4).trans rfl, (blk_cell BK821.out 5).trans rfl, (blk_cell BK821.out 6).trans rfl, (blk_cell BK821.out 7).trans rfl, (blk_cell BK821.out 8).trans rfl, (blk_cell BK821.out 9).trans rfl⟩ (fun hHeld => ?_); refine with_tabW palanquinlaw15_FragWhole.tab23 palanquinlaw15_FragWhole.bits23 (fun HT_ HW_ => ?_)
                                          generalize wc.drew = w75 at HO_5 BK821 BK835 HB hHeld ⊢
                                          refine pure_ (i := 0) (N := some 153) (v := ?_) (a' := ?_) #[true, false, false, false, false, false, false, false] rfl rfl (any_of HT_.out (by kernel_rfl)) (fun _ _ _ h => h) (Or.inl ⟨by rfl, ?_⟩) ?_ ?_
                                          rotate_left
                                          · intro w'
                                            go_simp
                                            with_reducible rfl
                                          rotate_left
                                          · simp only [Act.put, List.setIfInBounds_toArray, List.set_cons_zero, List.set_cons_succ, i64_w, i32_w]
                                            rfl
                                          refine pure_ (i := 2) (N := some 155) (v := ?_) (a' := ?_) #[true, false, true, false, false, false, false, false] rfl rfl (any_of HT_.out (by kernel_rfl)) (fun _ _ _ h => h) (Or.inl ⟨by rfl, ?_⟩) ?_ ?_
                                          rotate_left
                                          · intro w'
                                            go_simp
                                            with_reducible rfl
                                          rotate_left
                                          · simp only [Act.put, List.setIfInBounds_toArray, List.set_cons_zero, List.set_cons_succ, i64_w, i32_w]
                                            rfl
                                          refine take_ (i := 1) (N := some 154) (v := ?_) (a' := ?_) #[true, true, true, false, false, false, false, false] rfl rfl (take_ofW HT_.out HW_.out (by kernel_rfl)) (fun _ _ _ h => h) (Or.inl ⟨by rfl, ?_⟩) hHeld ?_ ?_
                                          rotate_left
                                          · rintro w' ⟨s0, s1, s2, s3, s4, s5, s6, s7, s8, s9⟩
                                            go_simp
                                            with_reducible rfl
                                          rotate_left
                                          · simp only [Act.put, List.setIfInBounds_toArray, List.set_cons_zero, List.set_cons_succ, i64_w, i32_w]
                                            rfl
                                          refine pure_ (i := 4) (N := some 157) (v := ?_) (a' := ?_) #[true, true, true, false, true, false, false, false] rfl rfl (any_of HT_.out (by kernel_rfl)) (fun _ _ _ h => h) (Or.inl ⟨by rfl, ?_⟩) ?_ ?_
                                          rotate_left
                                          · intro w'
                                            go_simp
                                            with_reducible rfl
                                          rotate_left
                                          · simp only [Act.put, List.setIfInBounds_toArray, List.set_cons_zero, List.set_cons_succ, i64_w, i32_w]
                                            rfl
                                          refine take_ (i := 3) (N := some 156) (v := ?_) (a' := ?_) #[true, true, true, true, true, false, false, false] rfl rfl (take_ofW HT_.out HW_.out (by kernel_rfl)) (fun _ _ _ h => h) (Or.inl ⟨by rfl, ?_⟩) hHeld ?_ ?_
                                          rotate_left
                                          · rintro w' ⟨s0, s1, s2, s3, s4, s5, s6, s7, s8, s9⟩
                                            go_simp
                                            with_reducible rfl
                                          rotate_left
                                          · simp only [Act.put, List.setIfInBounds_toArray, List.set_cons_zero, List.set_cons_succ, i64_w, i32_w]
                                            rfl
                                          refine one_ (i := 5) (N := none) #[true, true, true, true, true, true, false, false] rfl rfl (one_of HT_.out (by kernel_rfl)) (by decide) (fun K hK => ?_)
                                          have hs76 : w75.cell? ⟨gb835, 2, none⟩ = some (.int .i64 t825) := (blk_cell BK835.out 2).trans rfl
                                          have hfs76 := blk_frozen BK835.out 2
                                          have hns76_0 := NB821_835.out
                                          have hms76_0 := NB835_821.out
                                          refine skip_ (w1 := ?_) (by rfl) rfl ?_ ?_
                                          rotate_left
                                          · go_simp
                                            rfl
                                          refine hK.out _ _ ⟨((cell_far (p := ⟨gb835, _, none⟩) NB821_835.out _).trans (hHeld.1)), ((cell_far (p := ⟨gb835, _, none⟩) NB821_835.out _).trans (hHeld.2.1)), ((cell_far (p := ⟨gb835, _, none⟩) NB821_835.out _).trans (hHeld.2.2.1)), ((cell_far (p := ⟨gb835, _, none⟩) NB821_835.out _).trans (hHeld.2.2.2.1)), ((cell_far (p := ⟨gb835, _, none⟩) NB821_835.out _).trans (hHeld.2.2.2.2.1)), ((cell_far (p := ⟨gb835, _, none⟩) NB821_835.out _).trans (hHeld.2.2.2.2.2.1)), ((cell_far (p := ⟨gb835, _, none⟩) NB821_835.out _).trans (hHeld.2.2.2.2.2.2.1)), ((cell_far (p := ⟨gb835, _, none⟩) NB821_835.out _).trans (hHeld.2.2.2.2.2.2.2.1)), ((cell_far (p := ⟨gb835, _, none⟩) NB821_835.out _).trans (hHeld.2.2.2.2.2.2.2.2.1)), ((cell_far (p := ⟨gb835, _, none⟩) NB821_835.out _).trans (hHeld.2.2.2.2.2.2.2.2.2))⟩ (fun hHeld => ?_)
                                          clear hK K
                                          refine pure_ (i := 6) (N := some 158) (v := ?_) (a' := ?_) #[true, true, true, true, true, true, true, false] rfl rfl (any_of HT_.out (by kernel_rfl)) (fun _ _ _ h => h) (Or.inl ⟨by rfl, ?_⟩) ?_ ?_
                                          rotate_left
                                          · intro w'
                                            go_simp
                                            with_reducible rfl
                                          rotate_left
                                          · simp only [Act.put, List.setIfInBounds_toArray, List.set_cons_zero, List.set_cons_succ, i64_w, i32_w]
                                            rfl
                                          refine one_ (i := 7) (N := none) #[true, true, true, true, true, true, true, true] rfl rfl (one_of HT_.out (by kernel_rfl)) (by decide) (fun K hK => ?_)
                                          have hs77 : w75.cell? ⟨gb835, 6, none⟩ = some (.bool t829) := (blk_cell BK835.out 6).trans rfl
                                          have hfs77 := blk_frozen BK835.out 6
                                          have hns77_0 := NB821_835.out
                                          have hms77_0 := NB835_821.out
                                          refine skip_ (w1 := ?_) (by rfl) rfl ?_ ?_
                                          rotate_left
                                          · go_simp
                                            rfl
                                          refine hK.out _ _ ⟨((cell_far (p := ⟨gb835, _, none⟩) NB821_835.out _).trans (hHeld.1)), ((cell_far (p := ⟨gb835, _, none⟩) NB821_835.out _).trans (hHeld.2.1)), ((cell_far (p := ⟨gb835, _, none⟩) NB821_835.out _).trans (hHeld.2.2.1)), ((cell_far (p := ⟨gb835, _, none⟩) NB821_835.out _).trans (hHeld.2.2.2.1)), ((cell_far (p := ⟨gb835, _, none⟩) NB821_835.out _).trans (hHeld.2.2.2.2.1)), ((cell_far (p := ⟨gb835, _, none⟩) NB821_835.out _).trans (hHeld.2.2.2.2.2.1)), ((cell_far (p := ⟨gb835, _, none⟩) NB821_835.out _).trans (hHeld.2.2.2.2.2.2.1)), ((cell_far (p := ⟨gb835, _, none⟩) NB821_835.out _).trans (hHeld.2.2.2.2.2.2.2.1)), ((cell_far (p := ⟨gb835, _, none⟩) NB821_835.out _).trans (hHeld.2.2.2.2.2.2.2.2.1)), ((cell_far (p := ⟨gb835, _, none⟩) NB821_835.out _).trans (hHeld.2.2.2.2.2.2.2.2.2))⟩ (fun hHeld => ?_)
                                          clear hK K
                                          refine done_ (done_of HT_.out (by kernel_rfl)) ?_
                                          have hnb78 := NB835_821.out
                                          have hnc78 := NB821_835.out
                                          have hcz79_0 : w75.cell? ⟨gb835, 0, none⟩ = some (.int .i64 t823) := (blk_cell BK835.out 0).trans rfl
                                          have hcz79_1 : w75.cell? ⟨gb835, 1, none⟩ = some (.int .i64 t824) := (blk_cell BK835.out 1).trans rfl
                                          have hcz79_2 : w75.cell? ⟨gb835, 2, none⟩ = some (.int .i64 t825) := (blk_cell BK835.out 2).trans rfl
                                          have hcz79_3 : w75.cell? ⟨gb835, 3, none⟩ = some (.int .i64 t826) := (blk_cell BK835.out 3).trans rfl
                                          have hcz79_4 : w75.cell? ⟨gb835, 4, none⟩ = some (.int .i64 t827) := (blk_cell BK835.out 4).trans rfl
                                          have hcz79_5 : w75.cell? ⟨gb835, 5, none⟩ = some (.bool t828) := (blk_cell BK835.out 5).trans rfl
                                          have hcz79_6 : w75.cell? ⟨gb835, 6, none⟩ = some (.bool t829) := (blk_cell BK835.out 6).trans rfl
                                          have hcz79_7 : w75.cell? ⟨gb835, 7, none⟩ = some (.string t830) := (blk_cell BK835.out 7).trans rfl
                                          have hcz79_8 : w75.cell? ⟨gb835, 8, none⟩ = some (.string t831) := (blk_cell BK835.out 8).trans rfl
                                          have hcz79_9 : w75.cell? ⟨gb835, 9, none⟩ = some (.string t832) := (blk_cell BK835.out 9).trans rfl
                                          have hfz79_0 := blk_frozen BK835.out 0
                                          have hfz79_1 := blk_frozen BK835.out 1
                                          have hfz79_2 := blk_frozen BK835.out 2
                                          have hfz79_3 := blk_frozen BK835.out 3
                                          have hfz79_4 := blk_frozen BK835.out 4
                                          have hfz79_5 := blk_frozen BK835.out 5
                                          have hfz79_6 := blk_frozen BK835.out 6
                                          have hfz79_7 := blk_frozen BK835.out 7
                                          have hfz79_8 := blk_frozen BK835.out 8
                                          have hfz79_9 := blk_frozen BK835.out 9
                                          have hcz80_0 : w75.cell? ⟨gb821, 0, none⟩ = some (.int .i64 t809) := (blk_cell BK821.out 0).trans rfl
                                          have hcz80_1 : w75.cell? ⟨gb821, 1, none⟩ = some (.int .i64 t810) := (blk_cell BK821.out 1).trans rfl
                                          have hcz80_2 : w75.cell? ⟨gb821, 2, none⟩ = some (.int .i64 t811) := (blk_cell BK821.out 2).trans rfl
                                          have hcz80_3 : w75.cell? ⟨gb821, 3, none⟩ = some (.int .i64 t812) := (blk_cell BK821.out 3).trans rfl
                                          have hcz80_4 : w75.cell? ⟨gb821, 4, none⟩ = some (.int .i64 t813) := (blk_cell BK821.out 4).trans rfl
                                          have hcz80_5 : w75.cell? ⟨gb821, 5, none⟩ = some (.bool t814) := (blk_cell BK821.out 5).trans rfl
                                          have hcz80_6 : w75.cell? ⟨gb821, 6, none⟩ = some (.bool t815) := (blk_cell BK821.out 6).trans rfl
                                          have hcz80_7 : w75.cell? ⟨gb821, 7, none⟩ = some (.string t816) := (blk_cell BK821.out 7).trans rfl
                                          have hcz80_8 : w75.cell? ⟨gb821, 8, none⟩ = some (.string t817) := (blk_cell BK821.out 8).trans rfl
                                          have hcz80_9 : w75.cell? ⟨gb821, 9, none⟩ = some (.string t818) := (blk_cell BK821.out 9).trans rfl
                                          have hfz80_0 := blk_frozen BK821.out 0
                                          have hfz80_1 := blk_frozen BK821.out 1
                                          have hfz80_2 := blk_frozen BK821.out 2
                                          have hfz80_3 := blk_frozen BK821.out 3
                                          have hfz80_4 := blk_frozen BK821.out 4
                                          have hfz80_5 := blk_frozen BK821.out 5
                                          have hfz80_6 := blk_frozen BK821.out 6
                                          have hfz80_7 := blk_frozen BK821.out 7
                                          have hfz80_8 := blk_frozen BK821.out 8
                                          have hfz80_9 := blk_frozen BK821.out 9
                                          try go_wp2
                                          go_roundg kj47
                                          case measure => have := HJ4.out; have := HJ12.out; have := HK3.out; have := HJ24.out; have := HJ47.out; omega
                                          case rel => exact ⟨(x10_3 ++ t833), (wrap64 (x11_3 + 1)), (by first | rfl | (simp; done) | (simp [*]; done)), (by first | rfl | (simp; done) | (simp [*]; done)), H', ⟨by have := HJ4.out; have := HJ12.out; have := HK3.out; have := HJ24.out; have := HJ47.out; omega⟩, ⟨by (with_reducible repeat (first | apply Kd.R_alloc | apply Kd.R_drewN | apply Kd.R_drew)); exact Kd.R_mono (Kd.R_far (p := ⟨gb835, 6, none⟩) (Kd.R_far (p := ⟨gb835, 2, none⟩) (Kd.R_types HO_5.out BK835.out (by decide)) (fun _ hk => hk.2) (.int .i64 t811)) (fun _ hk => hk.2) (.bool t815)) (fun _ hk => trivial)⟩, ⟨by (with_reducible repeat (first | refine blk_drewN ?_ _ | refine blk_drew ?_ | refine blk_alloc ?_ _)); refine blk_far ?_ NB821_835.out _; (with_reducible repeat (first | refine blk_drewN ?_ _ | refine blk_drew ?_ | refine blk_alloc ?_ _)); refine blk_far ?_ NB821_835.out _; (with_reducible repeat (first | refine blk_drewN ?_ _ | refine blk_drew ?_ | refine blk_alloc ?_ _)); exact BK821.out⟩, ⟨by repeat (first | (with_reducible first | exact HB.out | apply below_alloc | apply pw_below_drewN | apply below_drew1 | refine below_set ?_ GE821.out | refine below_set ?_ GE835.out) | exact HB.out)⟩⟩
                                      · rw [if_neg c67] at H
                                        exact absurd H (by simp)
                        · rw [if_neg c22] at H
                          exact absurd H (by simp)
                      · rw [if_neg c21] at H
                        have c21b0 : decide (x11_3 < (t805.length : Int)) = false := decide_eq_false c21
                        clear c21
                        obtain rfl := Option.some.inj H
                        obtain ⟨Ao81, co81, eo81⟩ := Kd.R_slice HO_5.out
                        subst eo81
                        go_wp2
                        go_ret
                        exact ⟨by first | rfl | (simp [errW_none, errW_some] <;> rfl) | (simp [*, errW_none, errW_some] <;> rfl), by repeat (first | (with_reducible first | exact HB.out | apply below_alloc | apply pw_below_drewN | apply below_drew1 | refine below_set ?_ GE821.out) | exact HB.out)⟩
          · rw [if_neg c11] at H
            have c11b0 : (t806 == 0) = false := beq_eq_false_iff_ne.mpr c11
            have c11b1 : (t806 != 0) = true := bne_iff_ne.mpr c11
            obtain rfl := Option.some.inj H
            go_wp2_with (first | ((with_reducible refine gate_callee (f := 114) rfl ?_); refine goesL_ (some 35) rfl rfl Try.func114 (by kernel_rfl) rfl #[.string a0, .int .i64 a1] rfl (by (try simp only [List.map_toArray, List.map_cons, List.map_nil]); first | done | rfl | (simp only [List.length_drop, List.length_take]; rfl)) ?_; (with_reducible refine (frag_Cut.calls a0 a1 t805 t806 _ A10.out).mono ?_); rintro e w82 ⟨v807, rfl, ho0, hb⟩; refine ⟨_, rfl, ?_⟩; have n0_ := Aside0.mk (Kd.R_lower ho0 (below_size (by repeat (first | (with_reducible first | exact HB.out | apply below_alloc | apply pw_below_drewN | apply below_drew1) | exact HB.out)))); have n1_ := Aside0.mk (below_step (by repeat (first | (with_reducible first | exact HB.out | apply below_alloc | apply pw_below_drewN | apply below_drew1) | exact HB.out)) hb); clear HB; have HO808 := n0_; have HB := n1_; clear n0_ n1_; (try clear hb); (try clear hb2); (try clear hk); (try clear hi); (try clear ho0); obtain ⟨Ao83, co83, eo83⟩ := Kd.R_slice HO808.out; subst eo83))
            go_ret
            exact ⟨by first | rfl | (simp [errW_none, errW_some] <;> rfl) | (simp [*, errW_none, errW_some] <;> rfl), by repeat (first | (with_reducible first | exact HB.out | apply below_alloc | apply pw_below_drewN | apply below_drew1) | exact HB.out)⟩
  · replace c4 := Bool.eq_false_iff.mpr c4
    subst c4
    have H1 : (some false) = some r := by rw [if_neg (show ¬ (false = true) by decide)] at H; exact H
    exact absurd ((Option.some.inj H1).trans hrt_.out) (by decide)
/-- THE ONE PURE STATEMENT of palanquinlaw15_FragWhole: yours. -/
def palanquinlaw15_FragWhole.Pure : Prop := ∀ (a0 : ByteArray) (a1 : Int), a0.size ≤ 140737488351232 → (Lit.int .i64 a1).wf = true → ∃ k, palanquinlaw15_FragWhole.f k a0 a1 = some true
theorem palanquinlaw15_FragWhole.walk (P : palanquinlaw15_FragWhole.Pure) (a0 : ByteArray) (a1 : Int) (w : World) (w0 : a0.size ≤ 140737488351232) (w1 : (Lit.int .i64 a1).wf = true) :
    Calls Try.prog 32 #[.string a0, .int .i64 a1] w fun e w' => e = .returned (.bool true) ∧ Below w.heap.size w w' := by
  obtain ⟨k, h⟩ := P a0 a1 w0 w1
  refine (palanquinlaw15_FragWhole.calls k a0 a1 true w h ⟨rfl⟩).mono ?_
  rintro e w' ⟨rfl, hd⟩
  exact ⟨rfl, hd⟩

end Go.Proofs.Ytejmipoolbodgaa.G
end
