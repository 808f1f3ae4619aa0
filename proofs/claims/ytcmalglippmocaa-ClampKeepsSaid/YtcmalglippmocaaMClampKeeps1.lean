/- Texts of this session, joined: each is a section. -/
import Derived.Test.YtcmalglippmocaaMFlob1
import Derived.Test.YtcmalglippmocaaMFlob7
import Derived.Test.YtcmalglippmocaaMFlob8
import Derived.Test.YtcmalglippmocaaMFlob3
import Derived.Test.YtcmalglippmocaaMFlob4
set_option linter.unusedVariables false
set_option linter.unusedSimpArgs false
section
namespace Go.Proofs.Ytcmalglippmocaa.G
open Go.RowKit Go.Proofs.YtcmalglippmocaaW.PrintWords Go.Proofs.YtcmalglippmocaaW.PrintLast Go.Proofs.YtcmalglippmocaaW.PrintMore
attribute [local go_sem] max2_int min2_int max_two min_two max_three min_three max_four min_four   -- for this text's walks alone
set_option linter.unusedVariables false
set_option linter.unusedSimpArgs false

theorem eqA24 (d : Nat) (w : World) (x0 y0 : Int) (x1 y1 : ByteArray) (x2 y2 : ByteArray) (x3 y3 : Int) (x4 y4 : Int) :
  (Op.equalIn (d + 2) 24 (.agg #[.int .i64 x0, .string x1, .string x2, .int .i64 x3, .int .i64 x4]) (.agg #[.int .i64 y0, .string y1, .string y2, .int .i64 y3, .int .i64 y4])).run Try.prog w = .ok (x0 == y0 && (x1.toList == y1.toList && (x2.toList == y2.toList && (x3 == y3 && (x4 == y4))))) w := by
 refine eqA_of Try.underlying24 (by kernel_rfl) ?_
 refine eqf_cons (by rfl) (by go_simp; rfl) (by go_simp; rfl) (by go_simp) ?_
 refine eqf_cons (by rfl) (by go_simp; rfl) (by go_simp; rfl) (by go_simp) ?_
 refine eqf_cons (by rfl) (by go_simp; rfl) (by go_simp; rfl) (by go_simp) ?_
 refine eqf_cons (by rfl) (by go_simp; rfl) (by go_simp; rfl) (by go_simp) ?_
 exact eqf_last (by rfl) (by go_simp; rfl) (by go_simp; rfl) (by go_simp)
end Go.Proofs.Ytcmalglippmocaa.G
end

section
namespace Go.Proofs.Ytcmalglippmocaa.G
open Go.RowKit Go.Proofs.YtcmalglippmocaaW.PrintWords Go.Proofs.YtcmalglippmocaaW.PrintLast Go.Proofs.YtcmalglippmocaaW.PrintMore
attribute [local go_sem] max2_int min2_int max_two min_two max_three min_three max_four min_four   -- for this text's walks alone
set_option linter.unusedVariables false
set_option linter.unusedSimpArgs false

attribute [local go_sem high] eqA24
mutual
def palanquinlaw10_ClampKeeps.j0 : Nat → ByteArray → Int → ByteArray → Bool → Option (Bool)
 | 0, _, _, _, _ => none
 | k + 1, x0, x1, x7, x70 => if x70 = true then (some false) else ((clamp_MSS.f k x0).bind fun bt353 => ((clamp_MSS.f k x7).bind fun bt355 => (if (bt353.2 != bt355.2) = true then (palanquinlaw10_ClampKeeps.j1 k x0 x7 true) else (if bt353.2 = true then (palanquinlaw10_ClampKeeps.j1 k x0 x7 (bt355.1 != (mn bt353.1 (wrap64 (x1))))) else (if x7.toList = x0.toList then (palanquinlaw10_ClampKeeps.j1 k x0 x7 false) else (palanquinlaw10_ClampKeeps.j1 k x0 x7 true))))))
def palanquinlaw10_ClampKeeps.j1 : Nat → ByteArray → ByteArray → Bool → Option (Bool)
 | 0, _, _, _ => none
 | k + 1, x0, x7, x103 => if x103 = true then (some false) else (palanquinlaw10_ClampKeeps.l0 k x0 x7 0 0)
def palanquinlaw10_ClampKeeps.l0 : Nat → ByteArray → ByteArray → Int → Int → Option (Bool)
 | 0, _, _, _, _ => none
 | k + 1, x0, x7, x16, x17 => if x17 < (x0.size : Int) then (if 0 ≤ x17 then (if x17 < (x7.size : Int) then (if (bt x0 x17) = (bt x7 x17) then (palanquinlaw10_ClampKeeps.l0 k x0 x7 x16 (wrap64 (x17 + 1))) else (palanquinlaw10_ClampKeeps.l0 k x0 x7 (wrap64 (x16 + 1)) (wrap64 (x17 + 1)))) else (none)) else (none)) else (some (decide (x16 ≤ 4)))
end
def palanquinlaw10_ClampKeeps.f (k : Nat) (a0 : ByteArray) (a1 : Int) (a2 : Int) : Option (Bool) := (palanquinlaw10_awake.f k).bind fun t335 => (if t335 = true then (if (a0.size : Int) > 5000 then (some true) else ((clamp_Clamp.f a0 (wrap64 (a1))).bind fun t336 => ((flow_Get.f a0).bind fun bt337 => ((flow_Get.f t336).bind fun bt344 => (if (t336.size : Int) = (a0.size : Int) then (if (!(bt337.1 == bt344.1) || (!(bt337.2.1.toList == bt344.2.1.toList) || (!(bt337.2.2.1.toList == bt344.2.2.1.toList) || (!(bt337.2.2.2.1 == bt344.2.2.2.1) || (!(bt337.2.2.2.2.1 == bt344.2.2.2.2.1)))))) = true then (palanquinlaw10_ClampKeeps.j0 k a0 a1 t336 true) else (if bt337.2.2.2.2.2 = bt344.2.2.2.2.2 then ((clamp_Clamp.f t336 (wrap64 (a1))).bind fun t351 => (if t351.toList = t336.toList then ((clamp_Clamp.f t336 (mx (wrap64 (a1)) (wrap64 (a2)))).bind fun t352 => (palanquinlaw10_ClampKeeps.j0 k a0 a1 t336 (t352.toList != t336.toList))) else (palanquinlaw10_ClampKeeps.j0 k a0 a1 t336 true))) else (palanquinlaw10_ClampKeeps.j0 k a0 a1 t336 true))) else (palanquinlaw10_ClampKeeps.j0 k a0 a1 t336 true)))))) else (some false))
theorem palanquinlaw10_ClampKeeps.j0_no : ∀ k y0 y1 y2 r, palanquinlaw10_ClampKeeps.j0 k y0 y1 y2 true = some r → Aside0 (r = true) → False
 | 0, _, _, _, _ => fun h _ => by simp [palanquinlaw10_ClampKeeps.j0] at h
 | k + 1, _, _, _, _ => fun h hr => by rw [palanquinlaw10_ClampKeeps.j0, if_pos rfl] at h; exact absurd ((Option.some.inj h).trans hr.out) (by decide)
theorem palanquinlaw10_ClampKeeps.j1_no : ∀ k y0 y1 r, palanquinlaw10_ClampKeeps.j1 k y0 y1 true = some r → Aside0 (r = true) → False
 | 0, _, _, _ => fun h _ => by simp [palanquinlaw10_ClampKeeps.j1] at h
 | k + 1, _, _, _ => fun h hr => by rw [palanquinlaw10_ClampKeeps.j1, if_pos rfl] at h; exact absurd ((Option.some.inj h).trans hr.out) (by decide)
set_option maxHeartbeats 8000000 in
set_option maxRecDepth 100000 in
theorem palanquinlaw10_ClampKeeps.calls (k : Nat) (a0 : ByteArray) (a1 : Int) (a2 : Int) (r : Bool) (w : World) (h : palanquinlaw10_ClampKeeps.f k a0 a1 a2 = some r) (hrt_ : Aside0 (r = true)) :
  Calls Try.prog 5 #[.string a0, .int .u16 a1, .int .u16 a2] w fun e w' => e = .returned (.bool r) ∧ Below w.heap.size w w' := by
 have hu24 := Try.underlying24
 have HB := mA (Below.refl w.heap.size w)
 have H : ((palanquinlaw10_awake.f k).bind fun t335 => (if t335 = true then (if (a0.size : Int) > 5000 then (some true) else ((clamp_Clamp.f a0 (wrap64 (a1))).bind fun t336 => ((flow_Get.f a0).bind fun bt337 => ((flow_Get.f t336).bind fun bt344 => (if (t336.size : Int) = (a0.size : Int) then (if (!(bt337.1 == bt344.1) || (!(bt337.2.1.toList == bt344.2.1.toList) || (!(bt337.2.2.1.toList == bt344.2.2.1.toList) || (!(bt337.2.2.2.1 == bt344.2.2.2.1) || (!(bt337.2.2.2.2.1 == bt344.2.2.2.2.1)))))) = true then (palanquinlaw10_ClampKeeps.j0 k a0 a1 t336 true) else (if bt337.2.2.2.2.2 = bt344.2.2.2.2.2 then ((clamp_Clamp.f t336 (wrap64 (a1))).bind fun t351 => (if t351.toList = t336.toList then ((clamp_Clamp.f t336 (mx (wrap64 (a1)) (wrap64 (a2)))).bind fun t352 => (palanquinlaw10_ClampKeeps.j0 k a0 a1 t336 (t352.toList != t336.toList))) else (palanquinlaw10_ClampKeeps.j0 k a0 a1 t336 true))) else (palanquinlaw10_ClampKeeps.j0 k a0 a1 t336 true))) else (palanquinlaw10_ClampKeeps.j0 k a0 a1 t336 true)))))) else (some false))) = some r := h
 clear h
 replace H := Option.bind_eq_some_iff.mp H
 obtain ⟨t335, A40, H⟩ := H
 replace H : (if t335 = true then (if (a0.size : Int) > 5000 then (some true) else ((clamp_Clamp.f a0 (wrap64 (a1))).bind fun t336 => ((flow_Get.f a0).bind fun bt337 => ((flow_Get.f t336).bind fun bt344 => (if (t336.size : Int) = (a0.size : Int) then (if (!(bt337.1 == bt344.1) || (!(bt337.2.1.toList == bt344.2.1.toList) || (!(bt337.2.2.1.toList == bt344.2.2.1.toList) || (!(bt337.2.2.2.1 == bt344.2.2.2.1) || (!(bt337.2.2.2.2.1 == bt344.2.2.2.2.1)))))) = true then (palanquinlaw10_ClampKeeps.j0 k a0 a1 t336 true) else (if bt337.2.2.2.2.2 = bt344.2.2.2.2.2 then ((clamp_Clamp.f t336 (wrap64 (a1))).bind fun t351 => (if t351.toList = t336.toList then ((clamp_Clamp.f t336 (mx (wrap64 (a1)) (wrap64 (a2)))).bind fun t352 => (palanquinlaw10_ClampKeeps.j0 k a0 a1 t336 (t352.toList != t336.toList))) else (palanquinlaw10_ClampKeeps.j0 k a0 a1 t336 true))) else (palanquinlaw10_ClampKeeps.j0 k a0 a1 t336 true))) else (palanquinlaw10_ClampKeeps.j0 k a0 a1 t336 true)))))) else (some false)) = some r := H
 have A4 := mA A40
 clear A40
 by_cases c5 : t335 = true
 ·subst c5
  have H1 : (if (a0.size : Int) > 5000 then (some true) else ((clamp_Clamp.f a0 (wrap64 (a1))).bind fun t336 => ((flow_Get.f a0).bind fun bt337 => ((flow_Get.f t336).bind fun bt344 => (if (t336.size : Int) = (a0.size : Int) then (if (!(bt337.1 == bt344.1) || (!(bt337.2.1.toList == bt344.2.1.toList) || (!(bt337.2.2.1.toList == bt344.2.2.1.toList) || (!(bt337.2.2.2.1 == bt344.2.2.2.1) || (!(bt337.2.2.2.2.1 == bt344.2.2.2.2.1)))))) = true then (palanquinlaw10_ClampKeeps.j0 k a0 a1 t336 true) else (if bt337.2.2.2.2.2 = bt344.2.2.2.2.2 then ((clamp_Clamp.f t336 (wrap64 (a1))).bind fun t351 => (if t351.toList = t336.toList then ((clamp_Clamp.f t336 (mx (wrap64 (a1)) (wrap64 (a2)))).bind fun t352 => (palanquinlaw10_ClampKeeps.j0 k a0 a1 t336 (t352.toList != t336.toList))) else (palanquinlaw10_ClampKeeps.j0 k a0 a1 t336 true))) else (palanquinlaw10_ClampKeeps.j0 k a0 a1 t336 true))) else (palanquinlaw10_ClampKeeps.j0 k a0 a1 t336 true)))))) = some r := by rw [if_pos rfl] at H; exact H
  clear H
  have H := H1
  clear H1
  by_cases c6 : (a0.size : Int) > 5000
  ·rw [if_pos c6] at H
   have c6b0 : decide (5000 < (a0.size : Int)) = true := decide_eq_true c6
   have c6b1 : decide (5000 < a0.size) = true := decide_eq_true (by omega)
   clear c6
   obtain rfl := Option.some.inj H
   go_enter Try.func5, Try.ntmps5
   go_wp2_with (first | (go_at_call 13; (with_reducible refine (palanquinlaw10_awake.calls k  true _ A4.out).mono ?_); rintro e w7 ⟨rfl, hb⟩; have n0_ := mA (bP (by repeat (first | (with_reducible first | exact HB.out | apply bA | apply bN | apply bD) | exact HB.out)) hb); clear HB; have HB := n0_; clear n0_; (try clear hb); (try clear hb2); (try clear hk); (try clear hi)))
   repeat (go_quiet (first | (go_at_call 13; (with_reducible refine (palanquinlaw10_awake.calls k  true _ A4.out).mono ?_); rintro e w7 ⟨rfl, hb⟩; have n0_ := mA (bP (by repeat (first | (with_reducible first | exact HB.out | apply bA | apply bN | apply bD) | exact HB.out)) hb); clear HB; have HB := n0_; clear n0_; (try clear hb); (try clear hb2); (try clear hk); (try clear hi))); try go_wp2_with (first | (go_at_call 13; (with_reducible refine (palanquinlaw10_awake.calls k  true _ A4.out).mono ?_); rintro e w7 ⟨rfl, hb⟩; have n0_ := mA (bP (by repeat (first | (with_reducible first | exact HB.out | apply bA | apply bN | apply bD) | exact HB.out)) hb); clear HB; have HB := n0_; clear n0_; (try clear hb); (try clear hb2); (try clear hk); (try clear hi))))
   go_ret
   exact ⟨by first | rfl | (simp [errW_none, errW_some] <;> rfl) | (simp [*, errW_none, errW_some] <;> rfl), by repeat (first | (with_reducible first | exact HB.out | apply bA | apply bN | apply bD) | exact HB.out)⟩
  ·rw [if_neg c6] at H
   have c6b0 : decide (5000 < (a0.size : Int)) = false := decide_eq_false c6
   have c6b1 : decide (5000 < a0.size) = false := decide_eq_false (by omega)
   clear c6
   replace H := Option.bind_eq_some_iff.mp H
   obtain ⟨t336, A80, H⟩ := H
   replace H : ((flow_Get.f a0).bind fun bt337 => ((flow_Get.f t336).bind fun bt344 => (if (t336.size : Int) = (a0.size : Int) then (if (!(bt337.1 == bt344.1) || (!(bt337.2.1.toList == bt344.2.1.toList) || (!(bt337.2.2.1.toList == bt344.2.2.1.toList) || (!(bt337.2.2.2.1 == bt344.2.2.2.1) || (!(bt337.2.2.2.2.1 == bt344.2.2.2.2.1)))))) = true then (palanquinlaw10_ClampKeeps.j0 k a0 a1 t336 true) else (if bt337.2.2.2.2.2 = bt344.2.2.2.2.2 then ((clamp_Clamp.f t336 (wrap64 (a1))).bind fun t351 => (if t351.toList = t336.toList then ((clamp_Clamp.f t336 (mx (wrap64 (a1)) (wrap64 (a2)))).bind fun t352 => (palanquinlaw10_ClampKeeps.j0 k a0 a1 t336 (t352.toList != t336.toList))) else (palanquinlaw10_ClampKeeps.j0 k a0 a1 t336 true))) else (palanquinlaw10_ClampKeeps.j0 k a0 a1 t336 true))) else (palanquinlaw10_ClampKeeps.j0 k a0 a1 t336 true)))) = some r := H
   have A8 := mA A80
   clear A80
   replace H := Option.bind_eq_some_iff.mp H
   obtain ⟨⟨t337, t338, t339, t340, t341, t342⟩, A90, H⟩ := H
   replace H : ((flow_Get.f t336).bind fun bt344 => (if (t336.size : Int) = (a0.size : Int) then (if (!(t337 == bt344.1) || (!(t338.toList == bt344.2.1.toList) || (!(t339.toList == bt344.2.2.1.toList) || (!(t340 == bt344.2.2.2.1) || (!(t341 == bt344.2.2.2.2.1)))))) = true then (palanquinlaw10_ClampKeeps.j0 k a0 a1 t336 true) else (if t342 = bt344.2.2.2.2.2 then ((clamp_Clamp.f t336 (wrap64 (a1))).bind fun t351 => (if t351.toList = t336.toList then ((clamp_Clamp.f t336 (mx (wrap64 (a1)) (wrap64 (a2)))).bind fun t352 => (palanquinlaw10_ClampKeeps.j0 k a0 a1 t336 (t352.toList != t336.toList))) else (palanquinlaw10_ClampKeeps.j0 k a0 a1 t336 true))) else (palanquinlaw10_ClampKeeps.j0 k a0 a1 t336 true))) else (palanquinlaw10_ClampKeeps.j0 k a0 a1 t336 true))) = some r := H
   have A9 := mA A90
   clear A90
   replace H := Option.bind_eq_some_iff.mp H
   obtain ⟨⟨t344, t345, t346, t347, t348, t349⟩, A100, H⟩ := H
   replace H : (if (t336.size : Int) = (a0.size : Int) then (if (!(t337 == t344) || (!(t338.toList == t345.toList) || (!(t339.toList == t346.toList) || (!(t340 == t347) || (!(t341 == t348)))))) = true then (palanquinlaw10_ClampKeeps.j0 k a0 a1 t336 true) else (if t342 = t349 then ((clamp_Clamp.f t336 (wrap64 (a1))).bind fun t351 => (if t351.toList = t336.toList then ((clamp_Clamp.f t336 (mx (wrap64 (a1)) (wrap64 (a2)))).bind fun t352 => (palanquinlaw10_ClampKeeps.j0 k a0 a1 t336 (t352.toList != t336.toList))) else (palanquinlaw10_ClampKeeps.j0 k a0 a1 t336 true))) else (palanquinlaw10_ClampKeeps.j0 k a0 a1 t336 true))) else (palanquinlaw10_ClampKeeps.j0 k a0 a1 t336 true)) = some r := H
   have A10 := mA A100
   clear A100
   have HC11 := mA H
   clear H
   go_enter Try.func5, Try.ntmps5
   go_upto_region 8 with (first | (go_at_call 13; (with_reducible refine (palanquinlaw10_awake.calls k  true _ A4.out).mono ?_); rintro e w12 ⟨rfl, hb⟩; have n0_ := mA (bP (by repeat (first | (with_reducible first | exact HB.out | apply bA | apply bN | apply bD) | exact HB.out)) hb); clear HB; have HB := n0_; clear n0_; (try clear hb); (try clear hb2); (try clear hk); (try clear hi)) | (go_at_call 14; (with_reducible refine (clamp_Clamp.calls a0 (wrap64 (a1)) t336 _ A8.out).mono ?_); rintro e w13 ⟨rfl, hb⟩; have n0_ := mA (bP (by repeat (first | (with_reducible first | exact HB.out | apply bA | apply bN | apply bD) | exact HB.out)) hb); clear HB; have HB := n0_; clear n0_; (try clear hb); (try clear hb2); (try clear hk); (try clear hi)) | (go_at_call 11; (with_reducible refine (flow_Get.calls a0 t337 t338 t339 t340 t341 t342 _ A9.out).mono ?_); rintro e w14 ⟨rfl, hb⟩; have n0_ := mA (bP (by repeat (first | (with_reducible first | exact HB.out | apply bA | apply bN | apply bD) | exact HB.out)) hb); clear HB; have HB := n0_; clear n0_; (try clear hb); (try clear hb2); (try clear hk); (try clear hi)) | ((with_reducible refine gate_dst (N := 8) rfl ?_); (try (refine gate_guard (by rfl) ?_; dsimp only)); refine box_event ?hg (N := 8) ?hd (cs := #[.int .i64 0, .string (⟨#[]⟩ : ByteArray), .string (⟨#[]⟩ : ByteArray), .int .i64 0, .int .i64 0]) (t := 24) ?hr ?_; (case hd => rfl); (case hg => rfl); (case hr => first | (go_simp; done) | (go_simp; rfl)); intro gb343 hg w15 hbox hb; obtain ⟨n0_, nq_⟩ := bpr (by repeat (first | (with_reducible first | exact HB.out | apply bA | apply bN | apply bD) | exact HB.out)) hb; have n1_ := mA (hbox); have n2_ := mA ((by rw [hg]; exact nq_ : w.heap.size ≤ gb343)); have n3_ := mA ((by rw [hg]; exact nq_ : w.heap.size ≤ gb343)); clear HB; have HB := n0_; have BK343 := n1_; have GW343 := n2_; have GE343 := n3_; clear nq_; clear n0_ n1_ n2_ n3_; clear hb hbox hg; obtain ⟨hcz16_0, hcz16_1, hcz16_2, hcz16_3, hcz16_4⟩ := bc5 BK343.out; obtain ⟨hfz16_0, hfz16_1, hfz16_2, hfz16_3, hfz16_4⟩ := bf5 BK343.out) | (go_at_call 11; (with_reducible refine (flow_Get.calls t336 t344 t345 t346 t347 t348 t349 _ A10.out).mono ?_); rintro e w17 ⟨rfl, hb⟩; have n0_ := mA (blk_below (g := gb343) (o := .cells #[.int .i64 t337, .string t338, .string t339, .int .i64 t340, .int .i64 t341] 24 (0, 0)) (by (with_reducible repeat (first | apply kN | apply kD | apply kA)); refine blk_put (cs := #[.int .i64 t337, .string t338, .string t339, .int .i64 t340, .int .i64 0]) ?_ 4 _ (by first | rfl | (simp [*]; done)); (with_reducible repeat (first | apply kN | apply kD | apply kA)); refine blk_put (cs := #[.int .i64 t337, .string t338, .string t339, .int .i64 0, .int .i64 0]) ?_ 3 _ (by first | rfl | (simp [*]; done)); (with_reducible repeat (first | apply kN | apply kD | apply kA)); refine blk_put (cs := #[.int .i64 t337, .string t338, .string (⟨#[]⟩ : ByteArray), .int .i64 0, .int .i64 0]) ?_ 2 _ (by first | rfl | (simp [*]; done)); (with_reducible repeat (first | apply kN | apply kD | apply kA)); refine blk_put (cs := #[.int .i64 t337, .string (⟨#[]⟩ : ByteArray), .string (⟨#[]⟩ : ByteArray), .int .i64 0, .int .i64 0]) ?_ 1 _ (by first | rfl | (simp [*]; done)); (with_reducible repeat (first | apply kN | apply kD | apply kA)); refine blk_put (cs := #[.int .i64 0, .string (⟨#[]⟩ : ByteArray), .string (⟨#[]⟩ : ByteArray), .int .i64 0, .int .i64 0]) ?_ 0 _ (by first | rfl | (simp [*]; done)); (with_reducible repeat (first | apply kN | apply kD | apply kA)); exact BK343.out) hb); have n1_ := mA (bP (by repeat (first | (with_reducible first | exact HB.out | apply bA | apply bN | apply bD | refine bS ?_ GE343.out) | exact HB.out)) hb); clear BK343; clear HB; have BK343 := n0_; have HB := n1_; clear n0_ n1_; (try clear hb); (try clear hb2); (try clear hk); (try clear hi)) | ((with_reducible refine gate_dst (N := 10) rfl ?_); (try (refine gate_guard (by rfl) ?_; dsimp only)); refine box_event ?hg (N := 10) ?hd (cs := #[.int .i64 0, .string (⟨#[]⟩ : ByteArray), .string (⟨#[]⟩ : ByteArray), .int .i64 0, .int .i64 0]) (t := 24) ?hr ?_; (case hd => rfl); (case hg => rfl); (case hr => first | (go_simp; done) | (go_simp; rfl)); intro gb350 hg w18 hbox hb; obtain ⟨n0_, nl343_⟩ := bt3 (g := gb343) (o := .cells #[.int .i64 t337, .string t338, .string t339, .int .i64 t340, .int .i64 t341] 24 (0, 0)) (by (with_reducible repeat (first | apply kN | apply kD | apply kA)); exact BK343.out) hb; obtain ⟨n1_, nq_⟩ := bpr (by repeat (first | (with_reducible first | exact HB.out | apply bA | apply bN | apply bD | refine bS ?_ GE343.out) | exact HB.out)) hb; have n2_ := mA (hbox); have n3_ := mA ((by rw [hg]; exact nq_ : w.heap.size ≤ gb350)); have n4_ := mA ((by rw [hg]; exact nq_ : w.heap.size ≤ gb350)); have n5_ := mA ((by rw [hg]; exact Nat.ne_of_lt nl343_ : gb343 ≠ gb350)); have n6_ := mA ((by rw [hg]; exact Nat.ne_of_gt nl343_ : gb350 ≠ gb343)); clear BK343; clear HB; have BK343 := n0_; have HB := n1_; have BK350 := n2_; have GW350 := n3_; have GE350 := n4_; have NB343_350 := n5_; have NB350_343 := n6_; clear nl343_; clear nq_; clear n0_ n1_ n2_ n3_ n4_ n5_ n6_; clear hb hbox hg; have hnb19 := NB350_343.out; have hnc19 := NB343_350.out; obtain ⟨hcz20_0, hcz20_1, hcz20_2, hcz20_3, hcz20_4⟩ := bc5 BK350.out; obtain ⟨hfz20_0, hfz20_1, hfz20_2, hfz20_3, hfz20_4⟩ := bf5 BK350.out))
   try obtain ⟨hcz16_0, hcz16_1, hcz16_2, hcz16_3, hcz16_4⟩ := bc5 BK343.out
   try obtain ⟨hfz16_0, hfz16_1, hfz16_2, hfz16_3, hfz16_4⟩ := bf5 BK343.out
   try obtain ⟨hcz20_0, hcz20_1, hcz20_2, hcz20_3, hcz20_4⟩ := bc5 BK350.out
   try obtain ⟨hfz20_0, hfz20_1, hfz20_2, hfz20_3, hfz20_4⟩ := bf5 BK350.out
   repeat (go_quiet (first | (go_at_call 13; (with_reducible refine (palanquinlaw10_awake.calls k  true _ A4.out).mono ?_); rintro e w12 ⟨rfl, hb⟩; have n0_ := mA (bP (by repeat (first | (with_reducible first | exact HB.out | apply bA | apply bN | apply bD) | exact HB.out)) hb); clear HB; have HB := n0_; clear n0_; (try clear hb); (try clear hb2); (try clear hk); (try clear hi)) | (go_at_call 14; (with_reducible refine (clamp_Clamp.calls a0 (wrap64 (a1)) t336 _ A8.out).mono ?_); rintro e w13 ⟨rfl, hb⟩; have n0_ := mA (bP (by repeat (first | (with_reducible first | exact HB.out | apply bA | apply bN | apply bD) | exact HB.out)) hb); clear HB; have HB := n0_; clear n0_; (try clear hb); (try clear hb2); (try clear hk); (try clear hi)) | (go_at_call 11; (with_reducible refine (flow_Get.calls a0 t337 t338 t339 t340 t341 t342 _ A9.out).mono ?_); rintro e w14 ⟨rfl, hb⟩; have n0_ := mA (bP (by repeat (first | (with_reducible first | exact HB.out | apply bA | apply bN | apply bD) | exact HB.out)) hb); clear HB; have HB := n0_; clear n0_; (try clear hb); (try clear hb2); (try clear hk); (try clear hi)) | ((with_reducible refine gate_dst (N := 8) rfl ?_); (try (refine gate_guard (by rfl) ?_; dsimp only)); refine box_event ?hg (N := 8) ?hd (cs := #[.int .i64 0, .string (⟨#[]⟩ : ByteArray), .string (⟨#[]⟩ : ByteArray), .int .i64 0, .int .i64 0]) (t := 24) ?hr ?_; (case hd => rfl); (case hg => rfl); (case hr => first | (go_simp; done) | (go_simp; rfl)); intro gb343 hg w15 hbox hb; obtain ⟨n0_, nq_⟩ := bpr (by repeat (first | (with_reducible first | exact HB.out | apply bA | apply bN | apply bD) | exact HB.out)) hb; have n1_ := mA (hbox); have n2_ := mA ((by rw [hg]; exact nq_ : w.heap.size ≤ gb343)); have n3_ := mA ((by rw [hg]; exact nq_ : w.heap.size ≤ gb343)); clear HB; have HB := n0_; have BK343 := n1_; have GW343 := n2_; have GE343 := n3_; clear nq_; clear n0_ n1_ n2_ n3_; clear hb hbox hg; try obtain ⟨hcz16_0, hcz16_1, hcz16_2, hcz16_3, hcz16_4⟩ := bc5 BK343.out; try obtain ⟨hfz16_0, hfz16_1, hfz16_2, hfz16_3, hfz16_4⟩ := bf5 BK343.out) | (go_at_call 11; (with_reducible refine (flow_Get.calls t336 t344 t345 t346 t347 t348 t349 _ A10.out).mono ?_); rintro e w17 ⟨rfl, hb⟩; have n0_ := mA (blk_below (g := gb343) (o := .cells #[.int .i64 t337, .string t338, .string t339, .int .i64 t340, .int .i64 t341] 24 (0, 0)) (by (with_reducible repeat (first | apply kN | apply kD | apply kA)); refine blk_put (cs := #[.int .i64 t337, .string t338, .string t339, .int .i64 t340, .int .i64 0]) ?_ 4 _ (by first | rfl | (simp [*]; done)); (with_reducible repeat (first | apply kN | apply kD | apply kA)); refine blk_put (cs := #[.int .i64 t337, .string t338, .string t339, .int .i64 0, .int .i64 0]) ?_ 3 _ (by first | rfl | (simp [*]; done)); (with_reducible repeat (first | apply kN | apply kD | apply kA)); refine blk_put (cs := #[.int .i64 t337, .string t338, .string (⟨#[]⟩ : ByteArray), .int .i64 0, .int .i64 0]) ?_ 2 _ (by first | rfl | (simp [*]; done)); (with_reducible repeat (first | apply kN | apply kD | apply kA)); refine blk_put (cs := #[.int .i64 t337, .string (⟨#[]⟩ : ByteArray), .string (⟨#[]⟩ : ByteArray), .int .i64 0, .int .i64 0]) ?_ 1 _ (by first | rfl | (simp [*]; done)); (with_reducible repeat (first | apply kN | apply kD | apply kA)); refine blk_put (cs := #[.int .i64 0, .string (⟨#[]⟩ : ByteArray), .string (⟨#[]⟩ : ByteArray), .int .i64 0, .int .i64 0]) ?_ 0 _ (by first | rfl | (simp [*]; done)); (with_reducible repeat (first | apply kN | apply kD | apply kA)); exact BK343.out) hb); have n1_ := mA (bP (by repeat (first | (with_reducible first | exact HB.out | apply bA | apply bN | apply bD | refine bS ?_ GE343.out) | exact HB.out)) hb); clear BK343; clear HB; have BK343 := n0_; have HB := n1_; clear n0_ n1_; (try clear hb); (try clear hb2); (try clear hk); (try clear hi)) | ((with_reducible refine gate_dst (N := 10) rfl ?_); (try (refine gate_guard (by rfl) ?_; dsimp only)); refine box_event ?hg (N := 10) ?hd (cs := #[.int .i64 0, .string (⟨#[]⟩ : ByteArray), .string (⟨#[]⟩ : ByteArray), .int .i64 0, .int .i64 0]) (t := 24) ?hr ?_; (case hd => rfl); (case hg => rfl); (case hr => first | (go_simp; done) | (go_simp; rfl)); intro gb350 hg w18 hbox hb; obtain ⟨n0_, nl343_⟩ := bt3 (g := gb343) (o := .cells #[.int .i64 t337, .string t338, .string t339, .int .i64 t340, .int .i64 t341] 24 (0, 0)) (by (with_reducible repeat (first | apply kN | apply kD | apply kA)); exact BK343.out) hb; obtain ⟨n1_, nq_⟩ := bpr (by repeat (first | (with_reducible first | exact HB.out | apply bA | apply bN | apply bD | refine bS ?_ GE343.out) | exact HB.out)) hb; have n2_ := mA (hbox); have n3_ := mA ((by rw [hg]; exact nq_ : w.heap.size ≤ gb350)); have n4_ := mA ((by rw [hg]; exact nq_ : w.heap.size ≤ gb350)); have n5_ := mA ((by rw [hg]; exact Nat.ne_of_lt nl343_ : gb343 ≠ gb350)); have n6_ := mA ((by rw [hg]; exact Nat.ne_of_gt nl343_ : gb350 ≠ gb343)); clear BK343; clear HB; have BK343 := n0_; have HB := n1_; have BK350 := n2_; have GW350 := n3_; have GE350 := n4_; have NB343_350 := n5_; have NB350_343 := n6_; clear nl343_; clear nq_; clear n0_ n1_ n2_ n3_ n4_ n5_ n6_; clear hb hbox hg; have hnb19 := NB350_343.out; have hnc19 := NB343_350.out; try obtain ⟨hcz20_0, hcz20_1, hcz20_2, hcz20_3, hcz20_4⟩ := bc5 BK350.out; try obtain ⟨hfz20_0, hfz20_1, hfz20_2, hfz20_3, hfz20_4⟩ := bf5 BK350.out)); go_upto_region 8 with (first | (go_at_call 13; (with_reducible refine (palanquinlaw10_awake.calls k  true _ A4.out).mono ?_); rintro e w12 ⟨rfl, hb⟩; have n0_ := mA (bP (by repeat (first | (with_reducible first | exact HB.out | apply bA | apply bN | apply bD) | exact HB.out)) hb); clear HB; have HB := n0_; clear n0_; (try clear hb); (try clear hb2); (try clear hk); (try clear hi)) | (go_at_call 14; (with_reducible refine (clamp_Clamp.calls a0 (wrap64 (a1)) t336 _ A8.out).mono ?_); rintro e w13 ⟨rfl, hb⟩; have n0_ := mA (bP (by repeat (first | (with_reducible first | exact HB.out | apply bA | apply bN | apply bD) | exact HB.out)) hb); clear HB; have HB := n0_; clear n0_; (try clear hb); (try clear hb2); (try clear hk); (try clear hi)) | (go_at_call 11; (with_reducible refine (flow_Get.calls a0 t337 t338 t339 t340 t341 t342 _ A9.out).mono ?_); rintro e w14 ⟨rfl, hb⟩; have n0_ := mA (bP (by repeat (first | (with_reducible first | exact HB.out | apply bA | apply bN | apply bD) | exact HB.out)) hb); clear HB; have HB := n0_; clear n0_; (try clear hb); (try clear hb2); (try clear hk); (try clear hi)) | ((with_reducible refine gate_dst (N := 8) rfl ?_); (try (refine gate_guard (by rfl) ?_; dsimp only)); refine box_event ?hg (N := 8) ?hd (cs := #[.int .i64 0, .string (⟨#[]⟩ : ByteArray), .string (⟨#[]⟩ : ByteArray), .int .i64 0, .int .i64 0]) (t := 24) ?hr ?_; (case hd => rfl); (case hg => rfl); (case hr => first | (go_simp; done) | (go_simp; rfl)); intro gb343 hg w15 hbox hb; obtain ⟨n0_, nq_⟩ := bpr (by repeat (first | (with_reducible first | exact HB.out | apply bA | apply bN | apply bD) | exact HB.out)) hb; have n1_ := mA (hbox); have n2_ := mA ((by rw [hg]; exact nq_ : w.heap.size ≤ gb343)); have n3_ := mA ((by rw [hg]; exact nq_ : w.heap.size ≤ gb343)); clear HB; have HB := n0_; have BK343 := n1_; have GW343 := n2_; have GE343 := n3_; clear nq_; clear n0_ n1_ n2_ n3_; clear hb hbox hg; try obtain ⟨hcz16_0, hcz16_1, hcz16_2, hcz16_3, hcz16_4⟩ := bc5 BK343.out; try obtain ⟨hfz16_0, hfz16_1, hfz16_2, hfz16_3, hfz16_4⟩ := bf5 BK343.out) | (go_at_call 11; (with_reducible refine (flow_Get.calls t336 t344 t345 t346 t347 t348 t349 _ A10.out).mono ?_); rintro e w17 ⟨rfl, hb⟩; have n0_ := mA (blk_below (g := gb343) (o := .cells #[.int .i64 t337, .string t338, .string t339, .int .i64 t340, .int .i64 t341] 24 (0, 0)) (by (with_reducible repeat (first | apply kN | apply kD | apply kA)); refine blk_put (cs := #[.int .i64 t337, .string t338, .string t339, .int .i64 t340, .int .i64 0]) ?_ 4 _ (by first | rfl | (simp [*]; done)); (with_reducible repeat (first | apply kN | apply kD | apply kA)); refine blk_put (cs := #[.int .i64 t337, .string t338, .string t339, .int .i64 0, .int .i64 0]) ?_ 3 _ (by first | rfl | (simp [*]; done)); (with_reducible repeat (first | apply kN | apply kD | apply kA)); refine blk_put (cs := #[.int .i64 t337, .string t338, .string (⟨#[]⟩ : ByteArray), .int .i64 0, .int .i64 0]) ?_ 2 _ (by first | rfl | (simp [*]; done)); (with_reducible repeat (first | apply kN | apply kD | apply kA)); refine blk_put (cs := #[.int .i64 t337, .string (⟨#[]⟩ : ByteArray), .string (⟨#[]⟩ : ByteArray), .int .i64 0, .int .i64 0]) ?_ 1 _ (by first | rfl | (simp [*]; done)); (with_reducible repeat (first | apply kN | apply kD | apply kA)); refine blk_put (cs := #[.int .i64 0, .string (⟨#[]⟩ : ByteArray), .string (⟨#[]⟩ : ByteArray), .int .i64 0, .int .i64 0]) ?_ 0 _ (by first | rfl | (simp [*]; done)); (with_reducible repeat (first | apply kN | apply kD | apply kA)); exact BK343.out) hb); have n1_ := mA (bP (by repeat (first | (with_reducible first | exact HB.out | apply bA | apply bN | apply bD | refine bS ?_ GE343.out) | exact HB.out)) hb); clear BK343; clear HB; have BK343 := n0_; have HB := n1_; clear n0_ n1_; (try clear hb); (try clear hb2); (try clear hk); (try clear hi)) | ((with_reducible refine gate_dst (N := 10) rfl ?_); (try (refine gate_guard (by rfl) ?_; dsimp only)); refine box_event ?hg (N := 10) ?hd (cs := #[.int .i64 0, .string (⟨#[]⟩ : ByteArray), .string (⟨#[]⟩ : ByteArray), .int .i64 0, .int .i64 0]) (t := 24) ?hr ?_; (case hd => rfl); (case hg => rfl); (case hr => first | (go_simp; done) | (go_simp; rfl)); intro gb350 hg w18 hbox hb; obtain ⟨n0_, nl343_⟩ := bt3 (g := gb343) (o := .cells #[.int .i64 t337, .string t338, .string t339, .int .i64 t340, .int .i64 t341] 24 (0, 0)) (by (with_reducible repeat (first | apply kN | apply kD | apply kA)); exact BK343.out) hb; obtain ⟨n1_, nq_⟩ := bpr (by repeat (first | (with_reducible first | exact HB.out | apply bA | apply bN | apply bD | refine bS ?_ GE343.out) | exact HB.out)) hb; have n2_ := mA (hbox); have n3_ := mA ((by rw [hg]; exact nq_ : w.heap.size ≤ gb350)); have n4_ := mA ((by rw [hg]; exact nq_ : w.heap.size ≤ gb350)); have n5_ := mA ((by rw [hg]; exact Nat.ne_of_lt nl343_ : gb343 ≠ gb350)); have n6_ := mA ((by rw [hg]; exact Nat.ne_of_gt nl343_ : gb350 ≠ gb343)); clear BK343; clear HB; have BK343 := n0_; have HB := n1_; have BK350 := n2_; have GW350 := n3_; have GE350 := n4_; have NB343_350 := n5_; have NB350_343 := n6_; clear nl343_; clear nq_; clear n0_ n1_ n2_ n3_ n4_ n5_ n6_; clear hb hbox hg; have hnb19 := NB350_343.out; have hnc19 := NB343_350.out; try obtain ⟨hcz20_0, hcz20_1, hcz20_2, hcz20_3, hcz20_4⟩ := bc5 BK350.out; try obtain ⟨hfz20_0, hfz20_1, hfz20_2, hfz20_3, hfz20_4⟩ := bf5 BK350.out)))
   (try simp only [Act.put, List.setIfInBounds_toArray, List.set_cons_zero, List.set_cons_succ])
   go_cut [70] (fun v70 wc => ∃ (kq : Nat) (x70_10 : Bool), v70 = .bool x70_10 ∧ Aside0 (palanquinlaw10_ClampKeeps.j0 kq a0 a1 t336 x70_10 = some r) ∧ Aside0 (kq ≤ k) ∧ Aside0 (wc.heap[gb343]? = some (.cells #[.int .i64 t337, .string t338, .string t339, .int .i64 t340, .int .i64 t341] 24 (0, 0))) ∧ Aside0 (wc.heap[gb350]? = some (.cells #[.int .i64 t344, .string t345, .string t346, .int .i64 t347, .int .i64 t348] 24 (0, 0))) ∧ Aside0 (Below w.heap.size w wc))
   case first =>
    have H := HC11.out
    clear HC11
    by_cases c21 : (t336.size : Int) = (a0.size : Int)
    ·rw [if_pos c21] at H
     have c21b0 : ((t336.size : Int) == (a0.size : Int)) = true := beq_iff_eq.mpr c21
     have c21b1 : ((t336.size : Int) != (a0.size : Int)) = false := bne_eq_false_iff_eq.mpr c21
     have c21b2 : (t336.size == a0.size) = true := by first | simpa using c21 | (simp at c21 ⊢; omega)
     clear c21
     (first | rw [c21b0] | (simp only [i64_w, i32_w]; rw [c21b0]) | skip)
     by_cases c22 : (!(t337 == t344) || (!(t338.toList == t345.toList) || (!(t339.toList == t346.toList) || (!(t340 == t347) || (!(t341 == t348)))))) = true
     ·rw [if_pos c22] at H
      exact (palanquinlaw10_ClampKeeps.j0_no _ _ _ _ _ H hrt_).elim
     ·rw [if_neg c22] at H
      have c22b0 : (!(t337 == t344) || (!(t338.toList == t345.toList) || (!(t339.toList == t346.toList) || (!(t340 == t347) || (!(t341 == t348)))))) = false := by simpa using c22
      clear c22
      by_cases c26 : t342 = t349
      ·rw [if_pos c26] at H
       have c26b0 : (t342 == t349) = true := beq_iff_eq.mpr c26
       have c26b1 : (t342 != t349) = false := bne_eq_false_iff_eq.mpr c26
       clear c26
       replace H := Option.bind_eq_some_iff.mp H
       obtain ⟨t351, A270, H⟩ := H
       replace H : (if t351.toList = t336.toList then ((clamp_Clamp.f t336 (mx (wrap64 (a1)) (wrap64 (a2)))).bind fun t352 => (palanquinlaw10_ClampKeeps.j0 k a0 a1 t336 (t352.toList != t336.toList))) else (palanquinlaw10_ClampKeeps.j0 k a0 a1 t336 true)) = some r := H
       have A27 := mA A270
       clear A270
       by_cases c28 : t351.toList = t336.toList
       ·rw [if_pos c28] at H
        have c28b0 : (t351.toList == t336.toList) = true := beq_iff_eq.mpr c28
        have c28b1 : (t351.toList != t336.toList) = false := bne_eq_false_iff_eq.mpr c28
        clear c28
        obtain ⟨ji29, hji29⟩ : ∃ j_ : Int, (mx (wrap64 (a1)) (wrap64 (a2))) = j_ := ⟨_, rfl⟩
        replace H : ((clamp_Clamp.f t336 (ji29)).bind fun t352 => (palanquinlaw10_ClampKeeps.j0 k a0 a1 t336 (t352.toList != t336.toList))) = some r := by first | (rw [hji29] at H; exact H) | (simp only [hji29] at H ⊢; exact H)
        (try rw [hji29] at A27)
        have hji29_ : (if (wrap64 (a1)) < (wrap64 (a2)) then (wrap64 (a2)) else (wrap64 (a1))) = ji29 := hji29
        replace H := Option.bind_eq_some_iff.mp H
        obtain ⟨t352, A300, H⟩ := H
        replace H : (palanquinlaw10_ClampKeeps.j0 k a0 a1 t336 (t352.toList != t336.toList)) = some r := H
        have A30 := mA A300
        clear A300
        have H' := mA H
        clear H
        have hnb31 := NB343_350.out
        have hnc31 := NB350_343.out
        obtain ⟨hcz32_0, hcz32_1, hcz32_2, hcz32_3, hcz32_4⟩ := bc5 BK343.out
        obtain ⟨hfz32_0, hfz32_1, hfz32_2, hfz32_3, hfz32_4⟩ := bf5 BK343.out
        obtain ⟨hcz33_0, hcz33_1, hcz33_2, hcz33_3, hcz33_4⟩ := bc5 BK350.out
        obtain ⟨hfz33_0, hfz33_1, hfz33_2, hfz33_3, hfz33_4⟩ := bf5 BK350.out
        go_wp2_with (first | (go_at_call 14; (with_reducible refine (clamp_Clamp.calls t336 (wrap64 (a1)) t351 _ A27.out).mono ?_); rintro e w34 ⟨rfl, hb⟩; have n0_ := mA (blk_below (g := gb343) (o := .cells #[.int .i64 t337, .string t338, .string t339, .int .i64 t340, .int .i64 t341] 24 (0, 0)) (by (with_reducible repeat (first | apply kN | apply kD | apply kA)); refine blk_far ?_ NB343_350.out _; (with_reducible repeat (first | apply kN | apply kD | apply kA)); refine blk_far ?_ NB343_350.out _; (with_reducible repeat (first | apply kN | apply kD | apply kA)); refine blk_far ?_ NB343_350.out _; (with_reducible repeat (first | apply kN | apply kD | apply kA)); refine blk_far ?_ NB343_350.out _; (with_reducible repeat (first | apply kN | apply kD | apply kA)); refine blk_far ?_ NB343_350.out _; (with_reducible repeat (first | apply kN | apply kD | apply kA)); exact BK343.out) hb); have n1_ := mA (blk_below (g := gb350) (o := .cells #[.int .i64 t344, .string t345, .string t346, .int .i64 t347, .int .i64 t348] 24 (0, 0)) (by (with_reducible repeat (first | apply kN | apply kD | apply kA)); refine blk_put (cs := #[.int .i64 t344, .string t345, .string t346, .int .i64 t347, .int .i64 0]) ?_ 4 _ (by first | rfl | (simp [*]; done)); (with_reducible repeat (first | apply kN | apply kD | apply kA)); refine blk_put (cs := #[.int .i64 t344, .string t345, .string t346, .int .i64 0, .int .i64 0]) ?_ 3 _ (by first | rfl | (simp [*]; done)); (with_reducible repeat (first | apply kN | apply kD | apply kA)); refine blk_put (cs := #[.int .i64 t344, .string t345, .string (⟨#[]⟩ : ByteArray), .int .i64 0, .int .i64 0]) ?_ 2 _ (by first | rfl | (simp [*]; done)); (with_reducible repeat (first | apply kN | apply kD | apply kA)); refine blk_put (cs := #[.int .i64 t344, .string (⟨#[]⟩ : ByteArray), .string (⟨#[]⟩ : ByteArray), .int .i64 0, .int .i64 0]) ?_ 1 _ (by first | rfl | (simp [*]; done)); (with_reducible repeat (first | apply kN | apply kD | apply kA)); refine blk_put (cs := #[.int .i64 0, .string (⟨#[]⟩ : ByteArray), .string (⟨#[]⟩ : ByteArray), .int .i64 0, .int .i64 0]) ?_ 0 _ (by first | rfl | (simp [*]; done)); (with_reducible repeat (first | apply kN | apply kD | apply kA)); exact BK350.out) hb); have n2_ := mA (bP (by repeat (first | (with_reducible first | exact HB.out | apply bA | apply bN | apply bD | refine bS ?_ GE343.out | refine bS ?_ GE350.out) | exact HB.out)) hb); clear BK343; clear BK350; clear HB; have BK343 := n0_; have BK350 := n1_; have HB := n2_; clear n0_ n1_ n2_; (try clear hb); (try clear hb2); (try clear hk); (try clear hi)) | (go_at_call 14; (with_reducible refine (clamp_Clamp.calls t336 ji29 t352 _ A30.out).mono ?_); rintro e w35 ⟨rfl, hb⟩; have n0_ := mA (blk_below (g := gb343) (o := .cells #[.int .i64 t337, .string t338, .string t339, .int .i64 t340, .int .i64 t341] 24 (0, 0)) (by (with_reducible repeat (first | apply kN | apply kD | apply kA)); exact BK343.out) hb); have n1_ := mA (blk_below (g := gb350) (o := .cells #[.int .i64 t344, .string t345, .string t346, .int .i64 t347, .int .i64 t348] 24 (0, 0)) (by (with_reducible repeat (first | apply kN | apply kD | apply kA)); exact BK350.out) hb); have n2_ := mA (bP (by repeat (first | (with_reducible first | exact HB.out | apply bA | apply bN | apply bD | refine bS ?_ GE343.out | refine bS ?_ GE350.out) | exact HB.out)) hb); clear BK343; clear BK350; clear HB; have BK343 := n0_; have BK350 := n1_; have HB := n2_; clear n0_ n1_ n2_; (try clear hb); (try clear hb2); (try clear hk); (try clear hi)))
        repeat (go_quiet (first | (go_at_call 14; (with_reducible refine (clamp_Clamp.calls t336 (wrap64 (a1)) t351 _ A27.out).mono ?_); rintro e w34 ⟨rfl, hb⟩; have n0_ := mA (blk_below (g := gb343) (o := .cells #[.int .i64 t337, .string t338, .string t339, .int .i64 t340, .int .i64 t341] 24 (0, 0)) (by (with_reducible repeat (first | apply kN | apply kD | apply kA)); refine blk_far ?_ NB343_350.out _; (with_reducible repeat (first | apply kN | apply kD | apply kA)); refine blk_far ?_ NB343_350.out _; (with_reducible repeat (first | apply kN | apply kD | apply kA)); refine blk_far ?_ NB343_350.out _; (with_reducible repeat (first | apply kN | apply kD | apply kA)); refine blk_far ?_ NB343_350.out _; (with_reducible repeat (first | apply kN | apply kD | apply kA)); refine blk_far ?_ NB343_350.out _; (with_reducible repeat (first | apply kN | apply kD | apply kA)); exact BK343.out) hb); have n1_ := mA (blk_below (g := gb350) (o := .cells #[.int .i64 t344, .string t345, .string t346, .int .i64 t347, .int .i64 t348] 24 (0, 0)) (by (with_reducible repeat (first | apply kN | apply kD | apply kA)); refine blk_put (cs := #[.int .i64 t344, .string t345, .string t346, .int .i64 t347, .int .i64 0]) ?_ 4 _ (by first | rfl | (simp [*]; done)); (with_reducible repeat (first | apply kN | apply kD | apply kA)); refine blk_put (cs := #[.int .i64 t344, .string t345, .string t346, .int .i64 0, .int .i64 0]) ?_ 3 _ (by first | rfl | (simp [*]; done)); (with_reducible repeat (first | apply kN | apply kD | apply kA)); refine blk_put (cs := #[.int .i64 t344, .string t345, .string (⟨#[]⟩ : ByteArray), .int .i64 0, .int .i64 0]) ?_ 2 _ (by first | rfl | (simp [*]; done)); (with_reducible repeat (first | apply kN | apply kD | apply kA)); refine blk_put (cs := #[.int .i64 t344, .string (⟨#[]⟩ : ByteArray), .string (⟨#[]⟩ : ByteArray), .int .i64 0, .int .i64 0]) ?_ 1 _ (by first | rfl | (simp [*]; done)); (with_reducible repeat (first | apply kN | apply kD | apply kA)); refine blk_put (cs := #[.int .i64 0, .string (⟨#[]⟩ : ByteArray), .string (⟨#[]⟩ : ByteArray), .int .i64 0, .int .i64 0]) ?_ 0 _ (by first | rfl | (simp [*]; done)); (with_reducible repeat (first | apply kN | apply kD | apply kA)); exact BK350.out) hb); have n2_ := mA (bP (by repeat (first | (with_reducible first | exact HB.out | apply bA | apply bN | apply bD | refine bS ?_ GE343.out | refine bS ?_ GE350.out) | exact HB.out)) hb); clear BK343; clear BK350; clear HB; have BK343 := n0_; have BK350 := n1_; have HB := n2_; clear n0_ n1_ n2_; (try clear hb); (try clear hb2); (try clear hk); (try clear hi)) | (go_at_call 14; (with_reducible refine (clamp_Clamp.calls t336 ji29 t352 _ A30.out).mono ?_); rintro e w35 ⟨rfl, hb⟩; have n0_ := mA (blk_below (g := gb343) (o := .cells #[.int .i64 t337, .string t338, .string t339, .int .i64 t340, .int .i64 t341] 24 (0, 0)) (by (with_reducible repeat (first | apply kN | apply kD | apply kA)); exact BK343.out) hb); have n1_ := mA (blk_below (g := gb350) (o := .cells #[.int .i64 t344, .string t345, .string t346, .int .i64 t347, .int .i64 t348] 24 (0, 0)) (by (with_reducible repeat (first | apply kN | apply kD | apply kA)); exact BK350.out) hb); have n2_ := mA (bP (by repeat (first | (with_reducible first | exact HB.out | apply bA | apply bN | apply bD | refine bS ?_ GE343.out | refine bS ?_ GE350.out) | exact HB.out)) hb); clear BK343; clear BK350; clear HB; have BK343 := n0_; have BK350 := n1_; have HB := n2_; clear n0_ n1_ n2_; (try clear hb); (try clear hb2); (try clear hk); (try clear hi))); try go_wp2_with (first | (go_at_call 14; (with_reducible refine (clamp_Clamp.calls t336 (wrap64 (a1)) t351 _ A27.out).mono ?_); rintro e w34 ⟨rfl, hb⟩; have n0_ := mA (blk_below (g := gb343) (o := .cells #[.int .i64 t337, .string t338, .string t339, .int .i64 t340, .int .i64 t341] 24 (0, 0)) (by (with_reducible repeat (first | apply kN | apply kD | apply kA)); refine blk_far ?_ NB343_350.out _; (with_reducible repeat (first | apply kN | apply kD | apply kA)); refine blk_far ?_ NB343_350.out _; (with_reducible repeat (first | apply kN | apply kD | apply kA)); refine blk_far ?_ NB343_350.out _; (with_reducible repeat (first | apply kN | apply kD | apply kA)); refine blk_far ?_ NB343_350.out _; (with_reducible repeat (first | apply kN | apply kD | apply kA)); refine blk_far ?_ NB343_350.out _; (with_reducible repeat (first | apply kN | apply kD | apply kA)); exact BK343.out) hb); have n1_ := mA (blk_below (g := gb350) (o := .cells #[.int .i64 t344, .string t345, .string t346, .int .i64 t347, .int .i64 t348] 24 (0, 0)) (by (with_reducible repeat (first | apply kN | apply kD | apply kA)); refine blk_put (cs := #[.int .i64 t344, .string t345, .string t346, .int .i64 t347, .int .i64 0]) ?_ 4 _ (by first | rfl | (simp [*]; done)); (with_reducible repeat (first | apply kN | apply kD | apply kA)); refine blk_put (cs := #[.int .i64 t344, .string t345, .string t346, .int .i64 0, .int .i64 0]) ?_ 3 _ (by first | rfl | (simp [*]; done)); (with_reducible repeat (first | apply kN | apply kD | apply kA)); refine blk_put (cs := #[.int .i64 t344, .string t345, .string (⟨#[]⟩ : ByteArray), .int .i64 0, .int .i64 0]) ?_ 2 _ (by first | rfl | (simp [*]; done)); (with_reducible repeat (first | apply kN | apply kD | apply kA)); refine blk_put (cs := #[.int .i64 t344, .string (⟨#[]⟩ : ByteArray), .string (⟨#[]⟩ : ByteArray), .int .i64 0, .int .i64 0]) ?_ 1 _ (by first | rfl | (simp [*]; done)); (with_reducible repeat (first | apply kN | apply kD | apply kA)); refine blk_put (cs := #[.int .i64 0, .string (⟨#[]⟩ : ByteArray), .string (⟨#[]⟩ : ByteArray), .int .i64 0, .int .i64 0]) ?_ 0 _ (by first | rfl | (simp [*]; done)); (with_reducible repeat (first | apply kN | apply kD | apply kA)); exact BK350.out) hb); have n2_ := mA (bP (by repeat (first | (with_reducible first | exact HB.out | apply bA | apply bN | apply bD | refine bS ?_ GE343.out | refine bS ?_ GE350.out) | exact HB.out)) hb); clear BK343; clear BK350; clear HB; have BK343 := n0_; have BK350 := n1_; have HB := n2_; clear n0_ n1_ n2_; (try clear hb); (try clear hb2); (try clear hk); (try clear hi)) | (go_at_call 14; (with_reducible refine (clamp_Clamp.calls t336 ji29 t352 _ A30.out).mono ?_); rintro e w35 ⟨rfl, hb⟩; have n0_ := mA (blk_below (g := gb343) (o := .cells #[.int .i64 t337, .string t338, .string t339, .int .i64 t340, .int .i64 t341] 24 (0, 0)) (by (with_reducible repeat (first | apply kN | apply kD | apply kA)); exact BK343.out) hb); have n1_ := mA (blk_below (g := gb350) (o := .cells #[.int .i64 t344, .string t345, .string t346, .int .i64 t347, .int .i64 t348] 24 (0, 0)) (by (with_reducible repeat (first | apply kN | apply kD | apply kA)); exact BK350.out) hb); have n2_ := mA (bP (by repeat (first | (with_reducible first | exact HB.out | apply bA | apply bN | apply bD | refine bS ?_ GE343.out | refine bS ?_ GE350.out) | exact HB.out)) hb); clear BK343; clear BK350; clear HB; have BK343 := n0_; have BK350 := n1_; have HB := n2_; clear n0_ n1_ n2_; (try clear hb); (try clear hb2); (try clear hk); (try clear hi))))
        go_meet
        case rel => exact ⟨_, ((t352.toList != t336.toList)), (by first | rfl | (simp; done) | (simp [*]; done)), H', ⟨by first | omega | exact Nat.le_refl _⟩, ⟨by (with_reducible repeat (first | apply kN | apply kD | apply kA)); exact BK343.out⟩, ⟨by (with_reducible repeat (first | apply kN | apply kD | apply kA)); exact BK350.out⟩, ⟨by repeat (first | (with_reducible first | exact HB.out | apply bA | apply bN | apply bD | refine bS ?_ GE343.out | refine bS ?_ GE350.out) | exact HB.out)⟩⟩
       ·rw [if_neg c28] at H
        exact (palanquinlaw10_ClampKeeps.j0_no _ _ _ _ _ H hrt_).elim
      ·rw [if_neg c26] at H
       exact (palanquinlaw10_ClampKeeps.j0_no _ _ _ _ _ H hrt_).elim
    ·rw [if_neg c21] at H
     exact (palanquinlaw10_ClampKeeps.j0_no _ _ _ _ _ H hrt_).elim
   case rest =>
    clear HC11
    try clear c1
    try clear c2
    try clear p2
    try clear c3
    try clear c4
    try clear c5
    try clear c6
    try clear c6b0
    try clear c6b1
    try clear p6
    try clear c19
    try clear c21
    try clear c21b0
    try clear c21b1
    try clear c21b2
    try clear c22
    try clear c22b0
    try clear c23
    try clear c26
    try clear c26b0
    try clear c26b1
    try clear c28
    try clear c28b0
    try clear c28b1
    try clear c31
    try clear c36
    try clear c40
    try clear hcz16_0 hcz16_1 hcz16_2 hcz16_3 hcz16_4
    try clear hcz20_0 hcz20_1 hcz20_2 hcz20_3 hcz20_4
    try clear hcz24_0 hcz24_1 hcz24_2 hcz24_3 hcz24_4
    try clear hcz25_0 hcz25_1 hcz25_2 hcz25_3 hcz25_4
    try clear hcz32_0 hcz32_1 hcz32_2 hcz32_3 hcz32_4
    try clear hcz33_0 hcz33_1 hcz33_2 hcz33_3 hcz33_4
    try clear hcz37_0 hcz37_1 hcz37_2 hcz37_3 hcz37_4
    try clear hcz38_0 hcz38_1 hcz38_2 hcz38_3 hcz38_4
    try clear hcz41_0 hcz41_1 hcz41_2 hcz41_3 hcz41_4
    try clear hcz42_0 hcz42_1 hcz42_2 hcz42_3 hcz42_4
    try clear hfz16_0 hfz16_1 hfz16_2 hfz16_3 hfz16_4
    try clear hfz20_0 hfz20_1 hfz20_2 hfz20_3 hfz20_4
    try clear hfz24_0 hfz24_1 hfz24_2 hfz24_3 hfz24_4
    try clear hfz25_0 hfz25_1 hfz25_2 hfz25_3 hfz25_4
    try clear hfz32_0 hfz32_1 hfz32_2 hfz32_3 hfz32_4
    try clear hfz33_0 hfz33_1 hfz33_2 hfz33_3 hfz33_4
    try clear hfz37_0 hfz37_1 hfz37_2 hfz37_3 hfz37_4
    try clear hfz38_0 hfz38_1 hfz38_2 hfz38_3 hfz38_4
    try clear hfz41_0 hfz41_1 hfz41_2 hfz41_3 hfz41_4
    try clear hfz42_0 hfz42_1 hfz42_2 hfz42_3 hfz42_4
    obtain ⟨kq, x70_10, rfl, HA, HJ10, BK343, BK350, HB⟩ := hcut
    cases kq with
    | zero => exact absurd HA.out (by simp [palanquinlaw10_ClampKeeps.j0])
    | succ kj10 =>
     have H := HA.out
     clear HA
     simp only [palanquinlaw10_ClampKeeps.j0] at H
     by_cases c43 : x70_10 = true
     ·subst c43
      have H1 : (some false) = some r := by rw [if_pos rfl] at H; exact H
      exact absurd ((Option.some.inj H1).trans hrt_.out) (by decide)
     ·replace c43 := Bool.eq_false_iff.mpr c43
      subst c43
      have H1 : ((clamp_MSS.f kj10 a0).bind fun bt353 => ((clamp_MSS.f kj10 t336).bind fun bt355 => (if (bt353.2 != bt355.2) = true then (palanquinlaw10_ClampKeeps.j1 kj10 a0 t336 true) else (if bt353.2 = true then (palanquinlaw10_ClampKeeps.j1 kj10 a0 t336 (bt355.1 != (mn bt353.1 (wrap64 (a1))))) else (if t336.toList = a0.toList then (palanquinlaw10_ClampKeeps.j1 kj10 a0 t336 false) else (palanquinlaw10_ClampKeeps.j1 kj10 a0 t336 true)))))) = some r := by rw [if_neg (show ¬ (false = true) by decide)] at H; exact H
      clear H
      have H := H1
      clear H1
      replace H := Option.bind_eq_some_iff.mp H
      obtain ⟨⟨t353, t354⟩, A440, H⟩ := H
      replace H : ((clamp_MSS.f kj10 t336).bind fun bt355 => (if (t354 != bt355.2) = true then (palanquinlaw10_ClampKeeps.j1 kj10 a0 t336 true) else (if t354 = true then (palanquinlaw10_ClampKeeps.j1 kj10 a0 t336 (bt355.1 != (mn t353 (wrap64 (a1))))) else (if t336.toList = a0.toList then (palanquinlaw10_ClampKeeps.j1 kj10 a0 t336 false) else (palanquinlaw10_ClampKeeps.j1 kj10 a0 t336 true))))) = some r := H
      have A44 := mA A440
      clear A440
      replace H := Option.bind_eq_some_iff.mp H
      obtain ⟨⟨t355, t356⟩, A450, H⟩ := H
      replace H : (if (t354 != t356) = true then (palanquinlaw10_ClampKeeps.j1 kj10 a0 t336 true) else (if t354 = true then (palanquinlaw10_ClampKeeps.j1 kj10 a0 t336 (t355 != (mn t353 (wrap64 (a1))))) else (if t336.toList = a0.toList then (palanquinlaw10_ClampKeeps.j1 kj10 a0 t336 false) else (palanquinlaw10_ClampKeeps.j1 kj10 a0 t336 true)))) = some r := H
      have A45 := mA A450
      clear A450
      have HC46 := mA H
      clear H
      go_upto_region 12 with (first | (go_at_call 15; (with_reducible refine (clamp_MSS.calls kj10 a0 t353 t354 _ A44.out).mono ?_); rintro e w47 ⟨rfl, hb⟩; have n0_ := mA (blk_below (g := gb343) (o := .cells #[.int .i64 t337, .string t338, .string t339, .int .i64 t340, .int .i64 t341] 24 (0, 0)) (by (with_reducible repeat (first | apply kN | apply kD | apply kA)); exact BK343.out) hb); have n1_ := mA (blk_below (g := gb350) (o := .cells #[.int .i64 t344, .string t345, .string t346, .int .i64 t347, .int .i64 t348] 24 (0, 0)) (by (with_reducible repeat (first | apply kN | apply kD | apply kA)); exact BK350.out) hb); have n2_ := mA (bP (by repeat (first | (with_reducible first | exact HB.out | apply bA | apply bN | apply bD | refine bS ?_ GE343.out | refine bS ?_ GE350.out) | exact HB.out)) hb); clear BK343; clear BK350; clear HB; have BK343 := n0_; have BK350 := n1_; have HB := n2_; clear n0_ n1_ n2_; (try clear hb); (try clear hb2); (try clear hk); (try clear hi)) | (go_at_call 15; (with_reducible refine (clamp_MSS.calls kj10 t336 t355 t356 _ A45.out).mono ?_); rintro e w48 ⟨rfl, hb⟩; have n0_ := mA (blk_below (g := gb343) (o := .cells #[.int .i64 t337, .string t338, .string t339, .int .i64 t340, .int .i64 t341] 24 (0, 0)) (by (with_reducible repeat (first | apply kN | apply kD | apply kA)); exact BK343.out) hb); have n1_ := mA (blk_below (g := gb350) (o := .cells #[.int .i64 t344, .string t345, .string t346, .int .i64 t347, .int .i64 t348] 24 (0, 0)) (by (with_reducible repeat (first | apply kN | apply kD | apply kA)); exact BK350.out) hb); have n2_ := mA (bP (by repeat (first | (with_reducible first | exact HB.out | apply bA | apply bN | apply bD | refine bS ?_ GE343.out | refine bS ?_ GE350.out) | exact HB.out)) hb); clear BK343; clear BK350; clear HB; have BK343 := n0_; have BK350 := n1_; have HB := n2_; clear n0_ n1_ n2_; (try clear hb); (try clear hb2); (try clear hk); (try clear hi)))
      repeat (go_quiet (first | (go_at_call 15; (with_reducible refine (clamp_MSS.calls kj10 a0 t353 t354 _ A44.out).mono ?_); rintro e w47 ⟨rfl, hb⟩; have n0_ := mA (blk_below (g := gb343) (o := .cells #[.int .i64 t337, .string t338, .string t339, .int .i64 t340, .int .i64 t341] 24 (0, 0)) (by (with_reducible repeat (first | apply kN | apply kD | apply kA)); exact BK343.out) hb); have n1_ := mA (blk_below (g := gb350) (o := .cells #[.int .i64 t344, .string t345, .string t346, .int .i64 t347, .int .i64 t348] 24 (0, 0)) (by (with_reducible repeat (first | apply kN | apply kD | apply kA)); exact BK350.out) hb); have n2_ := mA (bP (by repeat (first | (with_reducible first | exact HB.out | apply bA | apply bN | apply bD | refine bS ?_ GE343.out | refine bS ?_ GE350.out) | exact HB.out)) hb); clear BK343; clear BK350; clear HB; have BK343 := n0_; have BK350 := n1_; have HB := n2_; clear n0_ n1_ n2_; (try clear hb); (try clear hb2); (try clear hk); (try clear hi)) | (go_at_call 15; (with_reducible refine (clamp_MSS.calls kj10 t336 t355 t356 _ A45.out).mono ?_); rintro e w48 ⟨rfl, hb⟩; have n0_ := mA (blk_below (g := gb343) (o := .cells #[.int .i64 t337, .string t338, .string t339, .int .i64 t340, .int .i64 t341] 24 (0, 0)) (by (with_reducible repeat (first | apply kN | apply kD | apply kA)); exact BK343.out) hb); have n1_ := mA (blk_below (g := gb350) (o := .cells #[.int .i64 t344, .string t345, .string t346, .int .i64 t347, .int .i64 t348] 24 (0, 0)) (by (with_reducible repeat (first | apply kN | apply kD | apply kA)); exact BK350.out) hb); have n2_ := mA (bP (by repeat (first | (with_reducible first | exact HB.out | apply bA | apply bN | apply bD | refine bS ?_ GE343.out | refine bS ?_ GE350.out) | exact HB.out)) hb); clear BK343; clear BK350; clear HB; have BK343 := n0_; have BK350 := n1_; have HB := n2_; clear n0_ n1_ n2_; (try clear hb); (try clear hb2); (try clear hk); (try clear hi))); go_upto_region 12 with (first | (go_at_call 15; (with_reducible refine (clamp_MSS.calls kj10 a0 t353 t354 _ A44.out).mono ?_); rintro e w47 ⟨rfl, hb⟩; have n0_ := mA (blk_below (g := gb343) (o := .cells #[.int .i64 t337, .string t338, .string t339, .int .i64 t340, .int .i64 t341] 24 (0, 0)) (by (with_reducible repeat (first | apply kN | apply kD | apply kA)); exact BK343.out) hb); have n1_ := mA (blk_below (g := gb350) (o := .cells #[.int .i64 t344, .string t345, .string t346, .int .i64 t347, .int .i64 t348] 24 (0, 0)) (by (with_reducible repeat (first | apply kN | apply kD | apply kA)); exact BK350.out) hb); have n2_ := mA (bP (by repeat (first | (with_reducible first | exact HB.out | apply bA | apply bN | apply bD | refine bS ?_ GE343.out | refine bS ?_ GE350.out) | exact HB.out)) hb); clear BK343; clear BK350; clear HB; have BK343 := n0_; have BK350 := n1_; have HB := n2_; clear n0_ n1_ n2_; (try clear hb); (try clear hb2); (try clear hk); (try clear hi)) | (go_at_call 15; (with_reducible refine (clamp_MSS.calls kj10 t336 t355 t356 _ A45.out).mono ?_); rintro e w48 ⟨rfl, hb⟩; have n0_ := mA (blk_below (g := gb343) (o := .cells #[.int .i64 t337, .string t338, .string t339, .int .i64 t340, .int .i64 t341] 24 (0, 0)) (by (with_reducible repeat (first | apply kN | apply kD | apply kA)); exact BK343.out) hb); have n1_ := mA (blk_below (g := gb350) (o := .cells #[.int .i64 t344, .string t345, .string t346, .int .i64 t347, .int .i64 t348] 24 (0, 0)) (by (with_reducible repeat (first | apply kN | apply kD | apply kA)); exact BK350.out) hb); have n2_ := mA (bP (by repeat (first | (with_reducible first | exact HB.out | apply bA | apply bN | apply bD | refine bS ?_ GE343.out | refine bS ?_ GE350.out) | exact HB.out)) hb); clear BK343; clear BK350; clear HB; have BK343 := n0_; have BK350 := n1_; have HB := n2_; clear n0_ n1_ n2_; (try clear hb); (try clear hb2); (try clear hk); (try clear hi))))
      (try simp only [Act.put, List.setIfInBounds_toArray, List.set_cons_zero, List.set_cons_succ])
      go_cut [103] (fun v103 wc => ∃ (kq : Nat) (x103_45 : Bool), v103 = .bool x103_45 ∧ Aside0 (palanquinlaw10_ClampKeeps.j1 kq a0 t336 x103_45 = some r) ∧ Aside0 (kq ≤ kj10) ∧ Aside0 (wc.heap[gb343]? = some (.cells #[.int .i64 t337, .string t338, .string t339, .int .i64 t340, .int .i64 t341] 24 (0, 0))) ∧ Aside0 (wc.heap[gb350]? = some (.cells #[.int .i64 t344, .string t345, .string t346, .int .i64 t347, .int .i64 t348] 24 (0, 0))) ∧ Aside0 (Below w.heap.size w wc))
      case first =>
       have H := HC46.out
       clear HC46
       by_cases c49 : (t354 != t356) = true
       ·rw [if_pos c49] at H
        exact (palanquinlaw10_ClampKeeps.j1_no _ _ _ _ H hrt_).elim
       ·rw [if_neg c49] at H
        have c49b0 : (t354 != t356) = false := by simpa using c49
        (try (have c49b1 : decide (t354 = t356) = true := by simpa using c49))
        (try (have c49b2 : (t354 == t356) = true := by simpa using c49))
        clear c49
        (first | rw [c49b0] | (simp only [i64_w, i32_w]; rw [c49b0]) | skip)
        by_cases c50 : t354 = true
        ·subst c50
         have H1 : (palanquinlaw10_ClampKeeps.j1 kj10 a0 t336 (t355 != (mn t353 (wrap64 (a1))))) = some r := by rw [if_pos rfl] at H; exact H
         clear H
         have H := H1
         clear H1
         obtain ⟨ji51, hji51⟩ : ∃ j_ : Int, (mn t353 (wrap64 (a1))) = j_ := ⟨_, rfl⟩
         replace H : (palanquinlaw10_ClampKeeps.j1 kj10 a0 t336 (t355 != (ji51))) = some r := by first | (rw [hji51] at H; exact H) | (simp only [hji51] at H ⊢; exact H)
         have hji51_ : (if (wrap64 (a1)) < t353 then (wrap64 (a1)) else t353) = ji51 := hji51
         have H' := mA H
         clear H
         go_wp2
         repeat (go_quiet (fail); try go_wp2)
         go_meet
         case rel => exact ⟨_, ((t355 != (ji51))), (by first | rfl | (simp; done) | (simp only [← hji51] <;> (first | rfl | simp)) | (simp [*]; done)), H', ⟨by have := HJ10.out; first | omega | exact Nat.le_refl _⟩, ⟨by (with_reducible repeat (first | apply kN | apply kD | apply kA)); exact BK343.out⟩, ⟨by (with_reducible repeat (first | apply kN | apply kD | apply kA)); exact BK350.out⟩, ⟨by repeat (first | (with_reducible first | exact HB.out | apply bA | apply bN | apply bD | refine bS ?_ GE343.out | refine bS ?_ GE350.out) | exact HB.out)⟩⟩
        ·replace c50 := Bool.eq_false_iff.mpr c50
         subst c50
         have H1 : (if t336.toList = a0.toList then (palanquinlaw10_ClampKeeps.j1 kj10 a0 t336 false) else (palanquinlaw10_ClampKeeps.j1 kj10 a0 t336 true)) = some r := by rw [if_neg (show ¬ (false = true) by decide)] at H; exact H
         clear H
         have H := H1
         clear H1
         by_cases c52 : t336.toList = a0.toList
         ·rw [if_pos c52] at H
          have c52b0 : (t336.toList == a0.toList) = true := beq_iff_eq.mpr c52
          have c52b1 : (t336.toList != a0.toList) = false := bne_eq_false_iff_eq.mpr c52
          clear c52
          have H' := mA H
          clear H
          go_wp2
          repeat (go_quiet (fail); try go_wp2)
          go_meet
          case rel => exact ⟨_, (false), (by first | rfl | (simp; done) | (simp [*]; done)), H', ⟨by have := HJ10.out; first | omega | exact Nat.le_refl _⟩, ⟨by (with_reducible repeat (first | apply kN | apply kD | apply kA)); exact BK343.out⟩, ⟨by (with_reducible repeat (first | apply kN | apply kD | apply kA)); exact BK350.out⟩, ⟨by repeat (first | (with_reducible first | exact HB.out | apply bA | apply bN | apply bD | refine bS ?_ GE343.out | refine bS ?_ GE350.out) | exact HB.out)⟩⟩
         ·rw [if_neg c52] at H
          exact (palanquinlaw10_ClampKeeps.j1_no _ _ _ _ H hrt_).elim
      case rest =>
       clear HC46
       try clear c1
       try clear c2
       try clear p2
       try clear c3
       try clear c4
       try clear c5
       try clear c6
       try clear c6b0
       try clear c6b1
       try clear p6
       try clear c19
       try clear c21
       try clear c21b0
       try clear c21b1
       try clear c21b2
       try clear c22
       try clear c22b0
       try clear c23
       try clear c26
       try clear c26b0
       try clear c26b1
       try clear c28
       try clear c28b0
       try clear c28b1
       try clear c31
       try clear c36
       try clear c40
       try clear c43
       try clear c49
       try clear c49b0
       try clear c49b1
       try clear c49b2
       try clear c50
       try clear c52
       try clear c52b0
       try clear c52b1
       try clear hcz16_0 hcz16_1 hcz16_2 hcz16_3 hcz16_4
       try clear hcz20_0 hcz20_1 hcz20_2 hcz20_3 hcz20_4
       try clear hcz24_0 hcz24_1 hcz24_2 hcz24_3 hcz24_4
       try clear hcz25_0 hcz25_1 hcz25_2 hcz25_3 hcz25_4
       try clear hcz32_0 hcz32_1 hcz32_2 hcz32_3 hcz32_4
       try clear hcz33_0 hcz33_1 hcz33_2 hcz33_3 hcz33_4
       try clear hcz37_0 hcz37_1 hcz37_2 hcz37_3 hcz37_4
       try clear hcz38_0 hcz38_1 hcz38_2 hcz38_3 hcz38_4
       try clear hcz41_0 hcz41_1 hcz41_2 hcz41_3 hcz41_4
       try clear hcz42_0 hcz42_1 hcz42_2 hcz42_3 hcz42_4
       try clear hfz16_0 hfz16_1 hfz16_2 hfz16_3 hfz16_4
       try clear hfz20_0 hfz20_1 hfz20_2 hfz20_3 hfz20_4
       try clear hfz24_0 hfz24_1 hfz24_2 hfz24_3 hfz24_4
       try clear hfz25_0 hfz25_1 hfz25_2 hfz25_3 hfz25_4
       try clear hfz32_0 hfz32_1 hfz32_2 hfz32_3 hfz32_4
       try clear hfz33_0 hfz33_1 hfz33_2 hfz33_3 hfz33_4
       try clear hfz37_0 hfz37_1 hfz37_2 hfz37_3 hfz37_4
       try clear hfz38_0 hfz38_1 hfz38_2 hfz38_3 hfz38_4
       try clear hfz41_0 hfz41_1 hfz41_2 hfz41_3 hfz41_4
       try clear hfz42_0 hfz42_1 hfz42_2 hfz42_3 hfz42_4
       try clear p2
       try clear p6
       obtain ⟨kq, x103_45, rfl, HA, HJ45, BK343, BK350, HB⟩ := hcut
       cases kq with
       | zero => exact absurd HA.out (by simp [palanquinlaw10_ClampKeeps.j1])
       | succ kj45 =>
        have H := HA.out
        clear HA
        simp only [palanquinlaw10_ClampKeeps.j1] at H
        by_cases c53 : x103_45 = true
        ·subst c53
         have H1 : (some false) = some r := by rw [if_pos rfl] at H; exact H
         exact absurd ((Option.some.inj H1).trans hrt_.out) (by decide)
        ·replace c53 := Bool.eq_false_iff.mpr c53
         subst c53
         have H1 : (palanquinlaw10_ClampKeeps.l0 kj45 a0 t336 0 0) = some r := by rw [if_neg (show ¬ (false = true) by decide)] at H; exact H
         clear H
         have H := H1
         clear H1
         have H' := mA H
         clear H
         go_wp2
         repeat (go_quiet (fail); try go_wp2)
         go_loopg [16, 17] kj45 (fun kq v16 v17 w' => ∃ (x16_3 : Int) (x17_3 : Int), v16 = .int .i64 x16_3 ∧ v17 = .int .i64 x17_3 ∧ Aside0 (palanquinlaw10_ClampKeeps.l0 kq a0 t336 x16_3 x17_3 = some r) ∧ Aside0 (kq ≤ kj45) ∧ Aside0 (w'.heap[gb343]? = some (.cells #[.int .i64 t337, .string t338, .string t339, .int .i64 t340, .int .i64 t341] 24 (0, 0))) ∧ Aside0 (w'.heap[gb350]? = some (.cells #[.int .i64 t344, .string t345, .string t346, .int .i64 t347, .int .i64 t348] 24 (0, 0))) ∧ Aside0 (Below w.heap.size w w'))
         case atStart => exact ⟨(0), (0), (by first | rfl | (simp; done) | (simp [*]; done)), (by first | rfl | (simp; done) | (simp [*]; done)), H', ⟨Nat.le_refl _⟩, ⟨by (with_reducible repeat (first | apply kN | apply kD | apply kA)); exact BK343.out⟩, ⟨by (with_reducible repeat (first | apply kN | apply kD | apply kA)); exact BK350.out⟩, ⟨by repeat (first | (with_reducible first | exact HB.out | apply bA | apply bN | apply bD | refine bS ?_ GE343.out | refine bS ?_ GE350.out) | exact HB.out)⟩⟩
         case round =>
          clear H'
          try clear c1
          try clear c2
          try clear p2
          try clear c3
          try clear c4
          try clear c5
          try clear c6
          try clear c6b0
          try clear c6b1
          try clear p6
          try clear c19
          try clear c21
          try clear c21b0
          try clear c21b1
          try clear c21b2
          try clear c22
          try clear c22b0
          try clear c23
          try clear c26
          try clear c26b0
          try clear c26b1
          try clear c28
          try clear c28b0
          try clear c28b1
          try clear c31
          try clear c36
          try clear c40
          try clear c43
          try clear c49
          try clear c49b0
          try clear c49b1
          try clear c49b2
          try clear c50
          try clear c52
          try clear c52b0
          try clear c52b1
          try clear c53
          try clear hcz16_0 hcz16_1 hcz16_2 hcz16_3 hcz16_4
          try clear hcz20_0 hcz20_1 hcz20_2 hcz20_3 hcz20_4
          try clear hcz24_0 hcz24_1 hcz24_2 hcz24_3 hcz24_4
          try clear hcz25_0 hcz25_1 hcz25_2 hcz25_3 hcz25_4
          try clear hcz32_0 hcz32_1 hcz32_2 hcz32_3 hcz32_4
          try clear hcz33_0 hcz33_1 hcz33_2 hcz33_3 hcz33_4
          try clear hcz37_0 hcz37_1 hcz37_2 hcz37_3 hcz37_4
          try clear hcz38_0 hcz38_1 hcz38_2 hcz38_3 hcz38_4
          try clear hcz41_0 hcz41_1 hcz41_2 hcz41_3 hcz41_4
          try clear hcz42_0 hcz42_1 hcz42_2 hcz42_3 hcz42_4
          try clear hfz16_0 hfz16_1 hfz16_2 hfz16_3 hfz16_4
          try clear hfz20_0 hfz20_1 hfz20_2 hfz20_3 hfz20_4
          try clear hfz24_0 hfz24_1 hfz24_2 hfz24_3 hfz24_4
          try clear hfz25_0 hfz25_1 hfz25_2 hfz25_3 hfz25_4
          try clear hfz32_0 hfz32_1 hfz32_2 hfz32_3 hfz32_4
          try clear hfz33_0 hfz33_1 hfz33_2 hfz33_3 hfz33_4
          try clear hfz37_0 hfz37_1 hfz37_2 hfz37_3 hfz37_4
          try clear hfz38_0 hfz38_1 hfz38_2 hfz38_3 hfz38_4
          try clear hfz41_0 hfz41_1 hfz41_2 hfz41_3 hfz41_4
          try clear hfz42_0 hfz42_1 hfz42_2 hfz42_3 hfz42_4
          try clear p2
          try clear p6
          obtain ⟨x16_3, x17_3, rfl, rfl, HA, HK3, BK343, BK350, HB⟩ := hrel
          cases gk with
          | zero => exact absurd HA.out (by simp [palanquinlaw10_ClampKeeps.l0])
          | succ k3 =>
           have H := HA.out
           clear HA
           simp only [palanquinlaw10_ClampKeeps.l0] at H
           by_cases c54 : x17_3 < (a0.size : Int)
           ·rw [if_pos c54] at H
            have c54b0 : decide (x17_3 < (a0.size : Int)) = true := decide_eq_true c54
            clear c54
            by_cases c55 : 0 ≤ x17_3
            ·rw [if_pos c55] at H
             have c55b0 : decide (0 ≤ x17_3) = true := decide_eq_true c55
             clear c55
             by_cases c57 : x17_3 < (t336.size : Int)
             ·rw [if_pos c57] at H
              have c57b0 : decide (x17_3 < (t336.size : Int)) = true := decide_eq_true c57
              clear c57
              by_cases c59 : (bt a0 x17_3) = (bt t336 x17_3)
              ·rw [if_pos c59] at H
               have c59b0 : ((bt a0 x17_3) == (bt t336 x17_3)) = true := beq_iff_eq.mpr c59
               have c59b1 : ((bt a0 x17_3) != (bt t336 x17_3)) = false := bne_eq_false_iff_eq.mpr c59
               clear c59
               have H' := mA H
               clear H
               have p56 : 0 ≤ (x17_3 : Int) := of_decide_eq_true (by first | (with_reducible assumption) | assumption)
               have q56 : x17_3 < (a0.size : Int) := of_decide_eq_true (by first | (with_reducible assumption) | assumption)
               have hx56 := bt_at a0 x17_3
               replace p56 := eq_true p56
               replace q56 := eq_true q56
               have p58 : 0 ≤ (x17_3 : Int) := of_decide_eq_true (by first | (with_reducible assumption) | assumption)
               have q58 : x17_3 < (t336.size : Int) := of_decide_eq_true (by first | (with_reducible assumption) | assumption)
               have hx58 := bt_at t336 x17_3
               replace p58 := eq_true p58
               replace q58 := eq_true q58
               go_wp2
               repeat (go_quiet (fail); try go_wp2)
               go_roundg k3
               case measure => have := HJ10.out; have := HJ45.out; have := HK3.out; omega
               case rel => exact ⟨(x16_3), (wrap64 (x17_3 + 1)), (by first | rfl | (simp; done) | (simp [*]; done)), (by first | rfl | (simp; done) | (simp [*]; done)), H', ⟨by have := HJ10.out; have := HJ45.out; have := HK3.out; omega⟩, ⟨by (with_reducible repeat (first | apply kN | apply kD | apply kA)); exact BK343.out⟩, ⟨by (with_reducible repeat (first | apply kN | apply kD | apply kA)); exact BK350.out⟩, ⟨by repeat (first | (with_reducible first | exact HB.out | apply bA | apply bN | apply bD | refine bS ?_ GE343.out | refine bS ?_ GE350.out) | exact HB.out)⟩⟩
              ·rw [if_neg c59] at H
               have c59b0 : ((bt a0 x17_3) == (bt t336 x17_3)) = false := beq_eq_false_iff_ne.mpr c59
               have c59b1 : ((bt a0 x17_3) != (bt t336 x17_3)) = true := bne_iff_ne.mpr c59
               have H' := mA H
               clear H
               have p56 : 0 ≤ (x17_3 : Int) := of_decide_eq_true (by first | (with_reducible assumption) | assumption)
               have q56 : x17_3 < (a0.size : Int) := of_decide_eq_true (by first | (with_reducible assumption) | assumption)
               have hx56 := bt_at a0 x17_3
               replace p56 := eq_true p56
               replace q56 := eq_true q56
               have p58 : 0 ≤ (x17_3 : Int) := of_decide_eq_true (by first | (with_reducible assumption) | assumption)
               have q58 : x17_3 < (t336.size : Int) := of_decide_eq_true (by first | (with_reducible assumption) | assumption)
               have hx58 := bt_at t336 x17_3
               replace p58 := eq_true p58
               replace q58 := eq_true q58
               go_wp2
               repeat (go_quiet (fail); try go_wp2)
               go_roundg k3
               case measure => have := HJ10.out; have := HJ45.out; have := HK3.out; omega
               case rel => exact ⟨(wrap64 (x16_3 + 1)), (wrap64 (x17_3 + 1)), (by first | rfl | (simp; done) | (simp [*]; done)), (by first | rfl | (simp; done) | (simp [*]; done)), H', ⟨by have := HJ10.out; have := HJ45.out; have := HK3.out; omega⟩, ⟨by (with_reducible repeat (first | apply kN | apply kD | apply kA)); exact BK343.out⟩, ⟨by (with_reducible repeat (first | apply kN | apply kD | apply kA)); exact BK350.out⟩, ⟨by repeat (first | (with_reducible first | exact HB.out | apply bA | apply bN | apply bD | refine bS ?_ GE343.out | refine bS ?_ GE350.out) | exact HB.out)⟩⟩
             ·rw [if_neg c57] at H
              exact absurd H (by simp)
            ·rw [if_neg c55] at H
             exact absurd H (by simp)
           ·rw [if_neg c54] at H
            have c54b0 : decide (x17_3 < (a0.size : Int)) = false := decide_eq_false c54
            clear c54
            obtain rfl := Option.some.inj H
            go_wp2
            repeat (go_quiet (fail); try go_wp2)
            go_ret
            exact ⟨by first | rfl | (simp [errW_none, errW_some] <;> rfl) | (simp [*, errW_none, errW_some] <;> rfl), by repeat (first | (with_reducible first | exact HB.out | apply bA | apply bN | apply bD | refine bS ?_ GE343.out | refine bS ?_ GE350.out) | exact HB.out)⟩
 ·replace c5 := Bool.eq_false_iff.mpr c5
  subst c5
  have H1 : (some false) = some r := by rw [if_neg (show ¬ (false = true) by decide)] at H; exact H
  exact absurd ((Option.some.inj H1).trans hrt_.out) (by decide)
/-- THE ONE PURE STATEMENT of palanquinlaw10_ClampKeeps: yours. -/
def palanquinlaw10_ClampKeeps.Pure : Prop := ∀ (a0 : ByteArray) (a1 : Int) (a2 : Int), a0.size ≤ 140737488351232 → (Lit.int .u16 a1).wf = true → (Lit.int .u16 a2).wf = true → ∃ k, palanquinlaw10_ClampKeeps.f k a0 a1 a2 = some true
theorem palanquinlaw10_ClampKeeps.walk (P : palanquinlaw10_ClampKeeps.Pure) (a0 : ByteArray) (a1 : Int) (a2 : Int) (w : World) (w0 : a0.size ≤ 140737488351232) (w1 : (Lit.int .u16 a1).wf = true) (w2 : (Lit.int .u16 a2).wf = true) :
  Calls Try.prog 5 #[.string a0, .int .u16 a1, .int .u16 a2] w fun e w' => e = .returned (.bool true) ∧ Below w.heap.size w w' := by
 obtain ⟨k, h⟩ := P a0 a1 a2 w0 w1 w2
 refine (palanquinlaw10_ClampKeeps.calls k a0 a1 a2 true w h ⟨rfl⟩).mono ?_
 rintro e w' ⟨rfl, hd⟩
 exact ⟨rfl, hd⟩

end Go.Proofs.Ytcmalglippmocaa.G
end

section
/- Plain facts: where a packet's MSS stands. -/
namespace Go.Proofs.Ytcmalglippmocaa.Pure
open Go.RowKit Go.Proofs.YtcmalglippmocaaW.PrintWords Go.Proofs.YtcmalglippmocaaW.PrintLast Go.Proofs.Ytcmalglippmocaa.G Go.Proofs.Ytcmalglippmocaa.Pal
open FG F2 FS FT
set_option linter.unusedVariables false
namespace CL
theorem awake10 : palanquinlaw10_awake.f 80000 = some true := by decide +kernel
theorem and2u (x : Int) (h0 : 0 ≤ x) (h1 : x < 256) : Go.bits .and .u8 x 2 = x / 2 % 2 * 2 := by
  have h : ∀ b : Fin 256, Go.bits .and .u8 (b.val : Int) 2 = ((b.val / 2 % 2 * 2 : Nat) : Int) := by decide +kernel
  obtain ⟨n, rfl⟩ := Int.eq_ofNat_of_zero_le h0
  have := h ⟨n, by omega⟩
  dsimp only at this
  rw [this]; omega
theorem and2i (x : Int) (h0 : 0 ≤ x) (h1 : x < 256) : Go.bits .and .i64 x 2 = x / 2 % 2 * 2 := by
  have h : ∀ b : Fin 256, Go.bits .and .i64 (b.val : Int) 2 = ((b.val / 2 % 2 * 2 : Nat) : Int) := by decide +kernel
  obtain ⟨n, rfl⟩ := Int.eq_ofNat_of_zero_le h0
  have := h ⟨n, by omega⟩
  dsimp only at this
  rw [this]; omega
theorem wrap_hd (y : Int) {n : Nat} (h : (n : Int) = y % 16 * 4) (_ : True) : wrap64 (wrap64 (y % 16) * 4) = (n : Int) := by unfold wrap64; omega
theorem wrap_hq (n q : Nat) (hn : n ≤ 60) (hq : q ≤ 1000000) : wrap64 (wrap64 ((n : Int) + 20) + (q : Int)) = ((n + 20 + q : Nat) : Int) := by unfold wrap64; omega
/-- What find answers of a segment s behind n bytes of header. -/
def findR (n : Nat) (s : ByteArray) : Int × Int × Bool :=
  match mssOf (bl (s.extract 20 (ht s))) with
  | none => (0, 0, false)
  | some (m, q) => if be (bl (s.extract 13 14)) / 2 % 2 = 0 then (0, 0, false) else (((n + 20 + q : Nat) : Int), (m : Int), true)
theorem mssOf_lt {l : List UInt8} {m q : Nat} (h : mssOf l = some (m, q)) : q + 2 ≤ l.length ∧ m ≤ 65535 := by
  obtain ⟨L1, L2, j, _, rfl, hj, _, _, hn, _⟩ := mssOf_some h
  have b2 := UInt8.toNat_lt (l.getD (j + 2) 0)
  have b3 := UInt8.toNat_lt (l.getD (j + 3) 0)
  omega
theorem find_not {p : ByteArray} {a d e x : Int} {b c : ByteArray} (h : flow_Get.f p = some (a, b, c, d, e, x)) (hx : x ≠ 0 ∨ a ≠ 6) (k : Nat) : clamp_find.f (k + 1) p = some (0, 0, false) := by
  unfold clamp_find.f
  rw [h, Option.bind_some]
  dsimp +instances only
  by_cases h0 : x = 0
  · have ha : a ≠ 6 := by rcases hx with hx | hx
                          · exact absurd h0 hx
                          · exact hx
    rw [if_pos h0, show (a != 6) = true by simp [ha], clamp_find.j0, if_pos rfl]
  · rw [if_neg h0, clamp_find.j0, if_pos rfl]
theorem head_is {p b : ByteArray} {n : Nat} (hp : 0 < p.size) (h : (b.size = 4 ∧ bt p 0 / 16 = 4 ∧ (n : Int) = bt p 0 % 16 * 4) ∨ (b.size = 16 ∧ bt p 0 / 16 = 6 ∧ n = 40)) : clamp_head.f p = some (n : Int) := by
  unfold clamp_head.f
  have hr := bt_range p 0 hp
  rw [show ((0 : Nat) : Int) = 0 from rfl] at hr
  rw [if_pos (by omega)]
  rcases h with ⟨_, h1, h2⟩ | ⟨_, h1, h2⟩
  · rw [if_neg (by omega), FT.and15 _ hr.1 hr.2, wrap_hd _ h2 trivial]
  · rw [if_pos h1, h2]; rfl
theorem find_seg {p : ByteArray} {d e : Int} {b c : ByteArray} {n : Nat} (hs : p.size ≤ 1000000) (h : flow_Get.f p = some (6, b, c, d, e, 0)) (hn : n ≤ p.size) (hp : 0 < p.size)
    (hh : (b.size = 4 ∧ bt p 0 / 16 = 4 ∧ (n : Int) = bt p 0 % 16 * 4) ∨ (b.size = 16 ∧ bt p 0 / 16 = 6 ∧ n = 40)) (ht0 : tcpErr (p.extract n p.size) = 0) (k : Nat) :
    clamp_find.f (k + 1) p = some (findR n (p.extract n p.size)) := by
  have hz : (p.extract n p.size).size = p.size - n := by rw [ByteArray.size_extract]; omega
  obtain ⟨g1, g2, _, _⟩ := errT_zero ht0
  have hn40 : n ≤ 60 := by
    have hr := bt_range p 0 hp
    rw [show ((0 : Nat) : Int) = 0 from rfl] at hr
    rcases hh with ⟨_, _, h2⟩ | ⟨_, _, h2⟩ <;> omega
  unfold clamp_find.f
  rw [h, Option.bind_some]
  dsimp +instances only
  rw [if_pos rfl, show ((6 : Int) != 6) = false by decide, clamp_find.j0, if_neg (by decide), head_is hp hh, Option.bind_some, if_pos (by omega), if_pos (by omega), Int.toNat_natCast, getT_is (by omega), if_pos ht0, Option.bind_some]
  dsimp +instances only
  clear ht0
  generalize hsg : p.extract n p.size = s at *
  clear hsg
  have hb : be (bl (s.extract 13 14)) < 256 := by
    have := be_lt_of (bl (s.extract 13 14)) 1 (by rw [bl_length, ByteArray.size_extract]; omega)
    omega
  rw [mss_is _ (by rw [ByteArray.size_extract]; omega), Option.bind_some]
  unfold findR
  cases hm : mssOf (bl (s.extract 20 (ht s))) with
  | none => rfl
  | some r =>
    obtain ⟨m, q⟩ := r
    have hq := (mssOf_lt hm).1
    rw [bl_length, ByteArray.size_extract] at hq
    have hq2 : q ≤ 1000000 := by clear hm; omega
    rw [show mssR (some (m, q)) = ((m : Int), (q : Int), true) from rfl]
    dsimp +instances only
    rw [if_pos rfl, and2i _ (by omega) (by omega)]
    by_cases hf : be (bl (s.extract 13 14)) / 2 % 2 = 0
    · rw [if_pos (by omega), if_pos hf]
    · rw [if_neg (by omega), if_neg hf]
      rw [wrap_hq n q hn40 hq2]
theorem clamp_same {p : ByteArray} {i m : Int} (h : clamp_find.f 1 p = some (i, m, false)) (l : Int) : clamp_Clamp.f p l = some p := by
  unfold clamp_Clamp.f
  rw [h, Option.bind_some, if_pos (.inl rfl)]
theorem MSS_is {p : ByteArray} {i m : Int} {b : Bool} {k : Nat} (h : clamp_find.f k p = some (i, m, b)) : clamp_MSS.f k p = some (m, b) := by
  unfold clamp_MSS.f
  rw [h, Option.bind_some]
end CL
end Go.Proofs.Ytcmalglippmocaa.Pure
end

section
/- Plain facts: a packet with another MSS in it, sealed. -/
namespace Go.Proofs.Ytcmalglippmocaa.Pure
open Go.RowKit Go.Proofs.YtcmalglippmocaaW.PrintWords Go.Proofs.YtcmalglippmocaaW.PrintLast Go.Proofs.Ytcmalglippmocaa.G Go.Proofs.Ytcmalglippmocaa.Pal
open FG F2 FS FT
set_option linter.unusedVariables false
namespace CL
theorem getD_take {l : List UInt8} {j q : Nat} (h : j < q) : (l.take q).getD j 0 = l.getD j 0 := by simp [List.getD_eq_getElem?_getD, h]
theorem getD_drop (l : List UInt8) (q k : Nat) : (l.drop q).getD k 0 = l.getD (q + k) 0 := by simp [List.getD_eq_getElem?_getD, List.getElem?_drop]
theorem getD_over {l : List UInt8} {j : Nat} (h : l.length ≤ j) : l.getD j 0 = 0 := by simp [List.getD_eq_getElem?_getD, h]
theorem cut_getD (s : ByteArray) (n m k : Nat) : (bl (s.extract n m)).getD k 0 = if n + k < m then (bl s).getD (n + k) 0 else 0 := by
  rw [cut_bl, getD_drop]
  by_cases h : n + k < m
  · rw [if_pos h, getD_take h]
  · rw [if_neg h, getD_over (by rw [List.length_take]; omega)]
theorem getD_at {l : List UInt8} {i : Nat} (h : i < l.length) : l.getD i 0 = l[i] := by simp [List.getD_eq_getElem?_getD, h]
theorem ext_getD {x y : ByteArray} (hz : x.size = y.size) (h : ∀ k, (bl x).getD k 0 = (bl y).getD k 0) : x = y := by
  apply bl_inj
  apply List.ext_getElem (by rw [bl_length, bl_length, hz])
  intro i h1 h2
  have := h i
  rw [getD_at h1, getD_at h2] at this
  exact this
theorem putAt_getD {s : ByteArray} {q : Nat} (c : Nat) {j : Nat} (h : q + 2 ≤ s.size) (hj : j < q ∨ q + 2 ≤ j) : (bl (putAt s q c)).getD j 0 = (bl s).getD j 0 := by
  rcases hj with h1 | h2
  · rw [← getD_take (l := bl (putAt s q c)) h1, take_putAt s q c h, getD_take h1]
  · obtain ⟨k, rfl⟩ := Nat.exists_eq_add_of_le h2
    rw [← getD_drop, drop_putAt s q c h, getD_drop]
theorem putAt_in {s : ByteArray} {q c : Nat} {j : Nat} (h : q + 2 ≤ s.size) (hj : j < 2) : (bl (putAt s q c)).getD (q + j) 0 = (nb 2 c).getD j 0 := by
  have hl : ((bl s).take q).length = q := by rw [List.length_take, bl_length]; omega
  rw [← getD_drop, bl_putAt, List.append_assoc, List.drop_left' hl, List.getD_eq_getElem?_getD, List.getElem?_append_left (by rw [nb_length]; exact hj), ← List.getD_eq_getElem?_getD]
theorem putAt_comm {s : ByteArray} {q r c d : Nat} (h : q + 2 ≤ r) (hr : r + 2 ≤ s.size) : putAt (putAt s q c) r d = putAt (putAt s r d) q c := by
  have z1 := putAt_size s q c (by omega)
  have z2 := putAt_size s r d hr
  refine ext_getD ((putAt_size _ _ _ (by omega)).trans (z1.trans (z2.symm.trans (putAt_size _ _ _ (by omega)).symm))) fun k => ?_
  by_cases h1 : k < q ∨ q + 2 ≤ k
  · rw [putAt_getD (s := putAt s r d) c (by omega) h1]
    by_cases h2 : k < r ∨ r + 2 ≤ k
    · rw [putAt_getD (s := putAt s q c) d (by omega) h2, putAt_getD c (by omega) h1, putAt_getD d hr h2]
    · obtain ⟨j, rfl⟩ := Nat.exists_eq_add_of_le (show r ≤ k by omega)
      rw [putAt_in (by omega) (by omega), putAt_in hr (by omega)]
  · obtain ⟨j, rfl⟩ := Nat.exists_eq_add_of_le (show q ≤ k by omega)
    rw [putAt_in (s := putAt s r d) (by omega) (by omega), putAt_getD (s := putAt s q c) d (by omega) (.inl (by omega)), putAt_in (by omega) (by omega)]
theorem putAt_two {s : ByteArray} {q c : Nat} (h : q + 2 ≤ s.size) (hc : c ≤ 65535) : ((bl (putAt s q c)).getD q 0).toNat * 256 + ((bl (putAt s q c)).getD (q + 1) 0).toNat = c := by
  have hz := putAt_size s q c h
  have e := be_two (putAt s q c) q (by omega)
  rw [mid_putAt s q c h, be_nb] at e
  rw [getD_at (l := bl (putAt s q c)) (i := q) (by rw [bl_length]; omega), getD_at (l := bl (putAt s q c)) (i := q + 1) (by rw [bl_length]; omega)]
  omega
theorem ext_putAt {s : ByteArray} {q : Nat} (c : Nat) {x y : Nat} (h : q + 2 ≤ s.size) (hy : y ≤ q) : (putAt s q c).extract x y = s.extract x y := by
  apply bl_inj
  have e := congrArg (List.take y) (take_putAt s q c h)
  rw [List.take_take, List.take_take, Nat.min_eq_left hy] at e
  rw [cut_bl, cut_bl, e]
theorem ahead_of {l : List UInt8} {L1 L2 : List (Nat × Nat)} {q : Nat} (hW : W l 0 = some (L1 ++ (q, 4) :: L2)) : W (l.take q) 0 = some L1 ∧ ∀ p ∈ L1, p.1 + p.2 ≤ q ∧ 1 ≤ p.2 := by
  have h := W_take l L2 q 4 0 L1 hW
  refine ⟨h, fun p hp => ?_⟩
  have hm := W_mem 0 L1 h p hp
  rw [List.length_take] at hm
  omega
theorem is_like {l l' : List UInt8} {p : Nat × Nat} (h : l'.getD p.1 0 = l.getD p.1 0) : isMSS l' p = isMSS l p := by unfold isMSS; rw [h]
theorem put_both {l l' : List UInt8} {L1 L2 : List (Nat × Nat)} {q : Nat} (hW : W l 0 = some (L1 ++ (q, 4) :: L2)) (hl : l'.length = l.length) (hag : ∀ j, j < q + 2 ∨ q + 4 ≤ j → l'.getD j 0 = l.getD j 0) (h2 : l.getD q 0 = 2) (hno : ∀ p ∈ L1, isMSS l p = false) :
    rightO l' = true ∧ mssOf l' = some (mssAt l' (q, 4)) := by
  have h := W_put l l' hl q hag 0 _ hW (by simp)
  obtain ⟨_, hb⟩ := ahead_of hW
  refine ⟨rightO_of h, ?_⟩
  rw [mssOf_of h, List.find?_append, List.find?_eq_none.mpr (fun p hp => by
    rw [is_like (hag p.1 (by have := hb p hp; omega)), hno p hp]; decide), List.find?_cons, show isMSS l' (q, 4) = true by rw [is_like (hag q (by omega))]; unfold isMSS; rw [h2]; rfl]
  rfl
/-- The segment with another MSS and another sum. -/
def sq (s : ByteArray) (a L c : Nat) : ByteArray := putAt (putAt s (20 + a) L) 16 c
theorem sq_size {s : ByteArray} {a : Nat} (L c : Nat) (h : 22 + a ≤ s.size) : (sq s a L c).size = s.size := by
  unfold sq; rw [putAt_size _ _ _ (by rw [putAt_size _ _ _ (by omega)]; omega), putAt_size _ _ _ (by omega)]
theorem sq_low {s : ByteArray} {a : Nat} (L c : Nat) {x y : Nat} (h : 22 + a ≤ s.size) (hy : y ≤ 16) : (sq s a L c).extract x y = s.extract x y := by
  unfold sq; rw [ext_putAt c (by rw [putAt_size _ _ _ (by omega)]; omega) hy, ext_putAt L (by omega) (by omega)]
theorem sq_getD {s : ByteArray} {a : Nat} (L c : Nat) {k : Nat} (h : 22 + a ≤ s.size) (h1 : k < 16 ∨ 18 ≤ k) (h2 : k < 20 + a ∨ 22 + a ≤ k) : (bl (sq s a L c)).getD k 0 = (bl s).getD k 0 := by
  unfold sq; rw [putAt_getD c (by rw [putAt_size _ _ _ (by omega)]; omega) h1, putAt_getD L (by omega) (by omega)]
theorem sq_ht {s : ByteArray} {a : Nat} (L c : Nat) (h : 22 + a ≤ s.size) : ht (sq s a L c) = ht s := by unfold ht; rw [sq_low L c h (by decide)]
theorem mss_room {s : ByteArray} {m a : Nat} (hm : mssOf (bl (s.extract 20 (ht s))) = some (m, a)) : 2 ≤ a ∧ m ≤ 65535 ∧ 22 + a ≤ ht s ∧ 22 + a ≤ s.size := by
  obtain ⟨_, _, q, _, rfl, hq, _⟩ := mssOf_some hm
  have := (mssOf_lt hm).2
  rw [bl_length, ByteArray.size_extract] at hq
  omega
theorem sq_right {s : ByteArray} {m a L : Nat} (c : Nat) (h0 : tcpErr s = 0) (hm : mssOf (bl (s.extract 20 (ht s))) = some (m, a)) (hL : L ≤ 65535) :
    tcpErr (sq s a L c) = 0 ∧ mssOf (bl ((sq s a L c).extract 20 (ht (sq s a L c)))) = some (L, a) := by
  obtain ⟨r1, r2, r3, r4⟩ := mss_room hm
  obtain ⟨g1, ⟨g2, g3⟩, g4, _⟩ := errT_zero h0
  clear h0
  have hz := sq_size (s := s) (a := a) L c r4
  have hh := sq_ht (s := s) (a := a) L c r4
  have hlow : (sq s a L c).extract 12 13 = s.extract 12 13 := sq_low L c r4 (by decide)
  obtain ⟨L1, L2, q, hW, rfl, hq, h2, h4, hn, hno⟩ := mssOf_some hm
  have hlen : (bl ((sq s (q + 2) L c).extract 20 (ht s))).length = (bl (s.extract 20 (ht s))).length := by
    rw [bl_length, bl_length, ByteArray.size_extract, ByteArray.size_extract, hz]
  obtain ⟨p1, p2⟩ := put_both hW hlen (fun j hj => by
    rw [cut_getD, cut_getD]
    by_cases hk : 20 + j < ht s
    · rw [if_pos hk, if_pos hk, sq_getD L c r4 (by omega) (by omega)]
    · rw [if_neg hk, if_neg hk]) h2 hno
  refine ⟨?_, ?_⟩
  · unfold tcpErr
    rw [hz, hh, hlow, if_neg (by omega), if_pos ⟨g2, g3⟩, if_pos g4, if_pos p1]
  · rw [hh, p2]
    unfold mssAt
    dsimp only
    rw [cut_getD, cut_getD, if_pos (by omega), if_pos (by omega)]
    have e : ∀ k, 18 ≤ k → (bl (sq s (q + 2) L c)).getD k 0 = (bl (putAt s (20 + (q + 2)) L)).getD k 0 := fun k hk => by
      unfold sq; rw [putAt_getD c (by rw [putAt_size _ _ _ (by omega)]; omega) (.inr hk)]
    rw [e _ (by omega), e _ (by omega), show 20 + (q + 3) = 20 + (q + 2) + 1 by omega, putAt_two (by omega) hL]
/-- A valid packet that opens a TCP, and has an MSS. -/
structure Seg (p b c : ByteArray) (d e : Int) (n m a : Nat) : Prop where
  n20 : 20 ≤ n
  np : n ≤ p.size
  small : p.size ≤ 5000
  bc : b.size = c.size
  hh : (b.size = 4 ∧ bt p 0 / 16 = 4 ∧ (n : Int) = bt p 0 % 16 * 4) ∨ (b.size = 16 ∧ bt p 0 / 16 = 6 ∧ n = 40)
  err : tcpErr (p.extract n p.size) = 0
  mss : mssOf (bl ((p.extract n p.size).extract 20 (ht (p.extract n p.size)))) = some (m, a)
  flag : be (bl ((p.extract n p.size).extract 13 14)) / 2 % 2 ≠ 0
  port1 : d = ((be (bl ((p.extract n p.size).extract 0 2)) : Nat) : Int)
  port2 : e = ((be (bl ((p.extract n p.size).extract 2 4)) : Nat) : Int)
  flow : flow_Get.f p = some (6, b, c, d, e, 0)
  all : ∀ q : ByteArray, q.size = p.size → (∀ i j, j ≤ n → q.extract i j = p.extract i j) → flow_Get.f q = flow_fin 6 b c (q.extract n q.size) false (decide (b.size = 4))
theorem Seg.find {p b c : ByteArray} {d e : Int} {n m a : Nat} (h : Seg p b c d e n m a) (k : Nat) : clamp_find.f (k + 1) p = some (((n + 20 + a : Nat) : Int), (m : Int), true) := by
  have hn := h.n20
  have hs := h.small
  have hp := h.np
  rw [find_seg (by omega) h.flow h.np (by omega) h.hh h.err k]
  unfold findR
  rw [h.mss]
  dsimp +instances only
  rw [if_neg h.flag]
theorem Seg.room {p b c : ByteArray} {d e : Int} {n m a : Nat} (h : Seg p b c d e n m a) : 2 ≤ a ∧ m ≤ 65535 ∧ 22 + a ≤ (p.extract n p.size).size ∧ n + 22 + a ≤ p.size := by
  obtain ⟨h1, h2, _, h4⟩ := mss_room h.mss
  have := h4
  have hp := h.np
  rw [ByteArray.size_extract] at this
  omega
theorem seg_of {p b c : ByteArray} {d e : Int} (hs : p.size ≤ 5000) (hf : flow_Get.f p = some (6, b, c, d, e, 0)) : (∀ k, clamp_find.f (k + 1) p = some (0, 0, false)) ∨ ∃ n m a, Seg p b c d e n m a := by
  obtain ⟨n, hn20, hnp, hbc, hh, _, ⟨p3, hp3, hok⟩, hall⟩ := flow_valid (by omega) hf
  have ht0 := ports6 hp3 (by rw [ByteArray.size_extract]; omega)
  have hfi := fun k => find_seg (by omega) hf hnp (by omega) hh ht0 k
  unfold findR at hfi
  cases hm : mssOf (bl ((p.extract n p.size).extract 20 (ht (p.extract n p.size)))) with
  | none => rw [hm] at hfi; exact .inl hfi
  | some r =>
    obtain ⟨m, a⟩ := r
    rw [hm] at hfi
    dsimp +instances only at hfi
    by_cases hb : be (bl ((p.extract n p.size).extract 13 14)) / 2 % 2 = 0
    · simp only [if_pos hb] at hfi; exact .inl hfi
    · refine .inr ⟨n, m, a, hn20, hnp, hs, hbc, hh, ht0, hm, hb, ?_, ?_, hf, hall⟩
      all_goals
        unfold flow_ports.f at hp3
        rw [if_pos rfl, getT_is (by rw [ByteArray.size_extract]; omega), if_pos ht0, Option.bind_some] at hp3
        have := Option.some.inj hp3
        simp only [Prod.mk.injEq] at this
      · exact this.1.symm
      · exact this.2.1.symm
/-- The packet with another MSS, sealed. -/
def pq (p b c : ByteArray) (n a L : Nat) : ByteArray := p.extract 0 n ++ sq (p.extract n p.size) a L (sumAt (psB b c 6 ((p.extract n p.size).size : Nat)) (putAt (p.extract n p.size) (20 + a) L) 16)
theorem app_front {x y : ByteArray} {n : Nat} (h : x.size = n) {i j : Nat} (hj : j ≤ n) : (x ++ y).extract i j = x.extract i j := by
  apply bl_inj
  rw [cut_bl, cut_bl, bl_append, List.take_append_of_le_length (by rw [bl_length]; omega)]
theorem app_back {x y : ByteArray} {n : Nat} (h : x.size = n) : (x ++ y).extract n (x ++ y).size = y := by
  apply bl_inj
  rw [ext_back, bl_append, List.drop_left' (by rw [bl_length]; exact h)]
theorem front_front (p : ByteArray) {n i j : Nat} (hj : j ≤ n) : (p.extract 0 n).extract i j = p.extract i j := by
  apply bl_inj
  rw [cut_bl, ext_front, cut_bl, List.take_take, Nat.min_eq_left hj]
theorem pq_facts {p b c : ByteArray} {d e : Int} {n m a : Nat} (h : Seg p b c d e n m a) (L : Nat) : (pq p b c n a L).size = p.size ∧ (∀ i j, j ≤ n → (pq p b c n a L).extract i j = p.extract i j) ∧
    (pq p b c n a L).extract n (pq p b c n a L).size = sq (p.extract n p.size) a L (sumAt (psB b c 6 ((p.extract n p.size).size : Nat)) (putAt (p.extract n p.size) (20 + a) L) 16) := by
  have hp := h.np
  obtain ⟨_, _, hr, _⟩ := h.room
  have hz : (p.extract 0 n).size = n := by rw [ByteArray.size_extract]; omega
  have hz2 : (p.extract n p.size).size = p.size - n := by rw [ByteArray.size_extract]; omega
  refine ⟨?_, fun i j hj => ?_, app_back hz⟩
  · unfold pq
    rw [ByteArray.size_append, hz, sq_size _ _ hr, hz2]; omega
  · unfold pq
    rw [app_front hz hj, front_front p hj]
theorem Seg.put {p b c : ByteArray} {d e : Int} {n m a : Nat} (h : Seg p b c d e n m a) {L : Nat} (hL : L ≤ 65535) : Seg (pq p b c n a L) b c d e n L a := by
  obtain ⟨f1, f2, f3⟩ := pq_facts h L
  obtain ⟨r1, r2, r3, r4⟩ := h.room
  have hn20 := h.n20
  have hs := h.small
  have hp := h.np
  have hbt : bt (pq p b c n a L) 0 = bt p 0 := by
    rw [show (0 : Int) = ((0 : Nat) : Int) from rfl, bt_one _ 0 (by omega), bt_one _ 0 (by omega), f2 _ _ (by omega)]
  generalize hC : sumAt (psB b c 6 ((p.extract n p.size).size : Nat)) (putAt (p.extract n p.size) (20 + a) L) 16 = C at f3
  obtain ⟨q1, q2⟩ := sq_right C h.err h.mss hL
  have e1 : (sq (p.extract n p.size) a L C).extract 13 14 = (p.extract n p.size).extract 13 14 := sq_low L C r3 (by decide)
  have e2 : (sq (p.extract n p.size) a L C).extract 0 2 = (p.extract n p.size).extract 0 2 := sq_low L C r3 (by decide)
  have e3 : (sq (p.extract n p.size) a L C).extract 2 4 = (p.extract n p.size).extract 2 4 := sq_low L C r3 (by decide)
  have hall : ∀ q : ByteArray, q.size = (pq p b c n a L).size → (∀ i j, j ≤ n → q.extract i j = (pq p b c n a L).extract i j) → flow_Get.f q = flow_fin 6 b c (q.extract n q.size) false (decide (b.size = 4)) :=
    fun q h1 h2 => h.all q (by omega) (fun i j hj => by rw [h2 i j hj, f2 i j hj])
  have hflow : flow_Get.f (pq p b c n a L) = some (6, b, c, d, e, 0) := by
    have hb16 : b.size ≤ 16 ∧ (b.size + c.size) % 2 = 0 := by
      have := h.bc
      rcases h.hh with ⟨h1, _, _⟩ | ⟨h1, _, _⟩ <;> omega
    have hsz : (p.extract n p.size).size ≤ 5000 := by rw [ByteArray.size_extract]; omega
    have hbc := h.bc
    rw [hall _ rfl (fun _ _ _ => rfl), f3]
    have hpt : flow_ports.f 6 (sq (p.extract n p.size) a L C) = some (d, e, ((be (bl ((sq (p.extract n p.size) a L C).extract 16 18)) : Nat) : Int), 0) := by
      unfold flow_ports.f
      rw [if_pos rfl, getT_is (by rw [sq_size _ _ r3]; omega), if_pos q1, Option.bind_some]
      dsimp +instances only
      rw [e2, e3, h.port1, h.port2]
    rw [fin_some _ (.inl rfl) hpt (by omega) (by omega) (by rw [sq_size _ _ r3]; omega), if_pos]
    unfold okR
    rw [if_neg (fun hx => absurd hx.1 (by decide)), sq_size _ _ r3]
    have hsr := sealed_right (ps := psB b c 6 ((p.extract n p.size).size : Nat)) (s := putAt (p.extract n p.size) (20 + a) L) (q := 16) (p := 6) (psB_even b c 6 _ hb16.2) (by decide) (by rw [putAt_size _ _ _ (by omega)]; omega)
    rw [sealC_6, hC] at hsr
    exact decide_eq_true hsr
  refine ⟨hn20, by omega, by omega, h.bc, by rw [hbt]; exact h.hh, by rw [f3]; exact q1, by rw [f3]; exact q2, by rw [f3, e1]; exact h.flag, by rw [f3, e2]; exact h.port1, by rw [f3, e3]; exact h.port2, hflow, hall⟩
theorem pq_pq {p b c : ByteArray} {d e : Int} {n m a : Nat} (h : Seg p b c d e n m a) (L M : Nat) : pq (pq p b c n a L) b c n a M = pq p b c n a M := by
  obtain ⟨f1, f2, f3⟩ := pq_facts h L
  obtain ⟨r1, r2, r3, r4⟩ := h.room
  have hz1 : ∀ (s : ByteArray) (C : Nat), 22 + a ≤ s.size → putAt (sq s a L C) (20 + a) M = putAt (putAt s (20 + a) M) 16 C := fun s C hs => by
    unfold sq
    rw [putAt_comm (q := 16) (by omega) (by rw [putAt_size _ _ _ (by omega)]; omega), putAt_twice _ _ _ _ (by omega)]
  generalize hp : pq p b c n a L = q at f1 f2 f3
  unfold pq
  rw [f3, f2 0 n (Nat.le_refl _), sq_size _ _ r3, hz1 _ _ r3]
  rw [sumAt_put _ _ _ _ (by rw [putAt_size _ _ _ (by omega)]; omega)]
  congr 1
  show putAt (putAt (sq (p.extract n p.size) a L _) (20 + a) M) 16 _ = putAt (putAt (p.extract n p.size) (20 + a) M) 16 _
  rw [hz1 _ _ r3, putAt_twice _ _ _ _ (by rw [putAt_size _ _ _ (by omega)]; omega)]
theorem lim_range (l : Int) : 0 ≤ clampLim l ∧ clampLim l ≤ 65535 := by
  unfold clampLim mx mn; split <;> split <;> omega
theorem bl_numB (c : Nat) (h : c ≤ 65535) : bl (numB (c : Int)) = nb 2 c := by
  unfold numB
  rw [u64n_of (by omega) (by omega), Int.toNat_natCast]
  simp [bl]
theorem cutW_num (s : ByteArray) (i c : Nat) (h : c ≤ 65535) : cutW s i (numB (c : Int)) = putAt s i c := by
  apply bl_inj
  unfold cutW
  rw [bl_append, bl_append, ext_front, ext_back, bl_putAt, bl_numB c h]
theorem cutW_zero (s : ByteArray) (i : Nat) : cutW s i ⟨#[0, 0]⟩ = putAt s i 0 := by
  apply bl_inj
  unfold cutW
  rw [bl_append, bl_append, ext_front, ext_back, bl_putAt]
  rfl
theorem cut_mid {p : ByteArray} {n j : Nat} (L : Nat) (h : n + j + 2 ≤ p.size) : (putAt p (n + j) L).extract n (putAt p (n + j) L).size = putAt (p.extract n p.size) j L := by
  have hz : (p.extract n p.size).size = p.size - n := by rw [ByteArray.size_extract]; omega
  refine ext_getD (by rw [ByteArray.size_extract, putAt_size _ _ _ h, putAt_size _ _ _ (by omega), hz]; omega) fun k => ?_
  rw [ext_back, getD_drop]
  by_cases h1 : k < j ∨ j + 2 ≤ k
  · rw [putAt_getD L h (by omega), putAt_getD L (by omega) h1, ext_back, getD_drop]
  · obtain ⟨i, rfl⟩ := Nat.exists_eq_add_of_le (show j ≤ k by omega)
    rw [show n + (j + i) = n + j + i by omega, putAt_in h (by omega), putAt_in (by omega) (by omega)]
theorem Seg.clamp {p b c : ByteArray} {d e : Int} {n m a : Nat} (h : Seg p b c d e n m a) (l : Int) : clamp_Clamp.f p l = some (if (m : Int) ≤ clampLim l then p else pq p b c n a (clampLim l).toNat) := by
  obtain ⟨r1, r2, r3, r4⟩ := h.room
  have hn20 := h.n20
  have hs := h.small
  have hp := h.np
  have hl := lim_range l
  unfold clamp_Clamp.f
  rw [h.find 0, Option.bind_some]
  dsimp +instances only
  by_cases hm : (m : Int) ≤ clampLim l
  · rw [if_pos (.inr hm), if_pos hm]
  · rw [if_neg (fun hx => hx.elim (fun hx => absurd hx (by decide)) hm), if_neg hm, head_is (by omega) h.hh, Option.bind_some, h.flow, Option.bind_some]
    dsimp +instances only
    rw [if_pos (by omega), Int.toNat_natCast, Int.toNat_natCast]
    obtain ⟨L, hL⟩ := Int.eq_ofNat_of_zero_le hl.1
    have hb16 : b.size ≤ 16 ∧ c.size ≤ 16 := by
      have := h.bc
      rcases h.hh with ⟨h1, _, _⟩ | ⟨h1, _, _⟩ <;> omega
    have hseg : clampSeg p (n + 20 + a) n l = putAt (p.extract n p.size) (20 + a) L := by
      unfold clampSeg
      rw [hL, cutW_num _ _ _ (by omega), show n + 20 + a = n + (20 + a) by omega, cut_mid L (by omega)]
    have hsz : (p.extract n p.size).size ≤ 5000 := by rw [ByteArray.size_extract]; omega
    have hz := putAt_size (p.extract n p.size) (20 + a) L (by omega)
    have hps := psB_size b c 6 ((p.extract n p.size).size : Nat)
    have hps2 := (psT_size (b.size == 16) 6 ((p.extract n p.size).size : Nat)).2
    unfold clamp_fin
    rw [hseg, hz, pseudo_some b c (by omega) (by omega), Option.bind_some, cutW_zero, sum_is _ (by rw [cat_cons, cat_cons, cat_nil, List.append_nil, List.length_append, bl_length, bl_length, putAt_size _ _ _ (by omega)]; omega), Option.bind_some, cat_cons, cat_cons, cat_nil, List.append_nil, cutW_num _ _ _ (csum_bound _), hL, Int.toNat_natCast]
    rfl
end CL
end Go.Proofs.Ytcmalglippmocaa.Pure
end

section
/- The plain law of ClampKeeps: clamped, the flow stays, no more than four bytes change, and it stays clamped. -/
namespace Go.Proofs.Ytcmalglippmocaa.Pure
open Go.RowKit Go.Proofs.YtcmalglippmocaaW.PrintWords Go.Proofs.YtcmalglippmocaaW.PrintLast Go.Proofs.Ytcmalglippmocaa.G Go.Proofs.Ytcmalglippmocaa.Pal
open FG F2 FS FT CL
set_option linter.unusedVariables false
namespace CK
theorem lim16 {x : Int} (h0 : 0 ≤ x) (h1 : x ≤ 65535) : clampLim x = x := by unfold clampLim mx mn; split <;> split <;> omega
theorem any_of {p : ByteArray} (hs : p.size ≤ 5000) : (∀ k, clamp_find.f (k + 1) p = some (0, 0, false)) ∨ ∃ b c d e n m a, Seg p b c d e n m a := by
  obtain ⟨⟨a, b, c, d, e, x⟩, hf⟩ : ∃ f, flow_Get.f p = some f := flow_some p (by omega)
  by_cases hx : x ≠ 0 ∨ a ≠ 6
  · exact .inl fun k => find_not hf hx k
  · obtain ⟨rfl, rfl⟩ : x = 0 ∧ a = 6 := by omega
    rcases seg_of hs hf with h | ⟨n, m, a, h⟩
    · exact .inl h
    · exact .inr ⟨b, c, d, e, n, m, a, h⟩
theorem bt_same {p q : ByteArray} {i : Nat} (h1 : i < p.size) (h2 : i < q.size) (h : (bl q).getD i 0 = (bl p).getD i 0) : bt p (i : Int) = bt q (i : Int) := by
  rw [getD_at (by rw [bl_length]; exact h2), getD_at (by rw [bl_length]; exact h1)] at h
  rw [bt_bl p i h1, bt_bl q i h2, h]
/-- Where two texts differ in no more than two pairs of bytes, the count is at most 4. -/
theorem loop_is {p q : ByteArray} (hz : q.size = p.size) (hs : p.size ≤ 5000) (A J : Nat) (hag : ∀ i, i < p.size → i ≠ A → i ≠ A + 1 → i ≠ J → i ≠ J + 1 → bt p (i : Int) = bt q (i : Int)) :
    ∀ (r i k c : Nat), i + r = p.size → r < k → c + (min 1 (A + 1 - i) + min 1 (A + 2 - i) + min 1 (J + 1 - i) + min 1 (J + 2 - i)) ≤ 4 → palanquinlaw10_ClampKeeps.l0 k p q (c : Int) (i : Int) = some true := by
  intro r
  induction r with
  | zero =>
    intro i k c h1 h2 h3
    obtain ⟨k, rfl⟩ : ∃ j, k = j + 1 := ⟨k - 1, by omega⟩
    rw [palanquinlaw10_ClampKeeps.l0, if_neg (by omega), decide_eq_true (by omega)]
  | succ r ih =>
    intro i k c h1 h2 h3
    obtain ⟨k, rfl⟩ : ∃ j, k = j + 1 := ⟨k - 1, by omega⟩
    rw [palanquinlaw10_ClampKeeps.l0, if_pos (by omega), if_pos (by omega), if_pos (by omega), show wrap64 ((i : Int) + 1) = ((i + 1 : Nat) : Int) by unfold wrap64; omega, show wrap64 ((c : Int) + 1) = ((c + 1 : Nat) : Int) by unfold wrap64; omega]
    by_cases h : bt p (i : Int) = bt q (i : Int)
    · rw [if_pos h]
      clear h hag
      exact ih (i + 1) k c (by omega) (by omega) (by omega)
    · rw [if_neg h]
      have hi : i = A ∨ i = A + 1 ∨ i = J ∨ i = J + 1 := by
        by_cases a1 : i = A
        · exact .inl a1
        by_cases a2 : i = A + 1
        · exact .inr (.inl a2)
        by_cases a3 : i = J
        · exact .inr (.inr (.inl a3))
        by_cases a4 : i = J + 1
        · exact .inr (.inr (.inr a4))
        exact absurd (hag i (by omega) a1 a2 a3 a4) h
      clear h hag
      exact ih (i + 1) k (c + 1) (by omega) (by omega) (by omega)
theorem keeps_is (p q : ByteArray) (x y : Int) (f : FlowR) (hz : q.size = p.size) (hwx : wrap64 x = x) (hwy : wrap64 y = y) (h1 : clamp_Clamp.f p x = some q) (h2 : flow_Get.f p = some f) (h3 : flow_Get.f q = some f) (h4 : clamp_Clamp.f q x = some q) (h5 : clamp_Clamp.f q (mx x y) = some q)
    (hj : palanquinlaw10_ClampKeeps.j0 80000 p x q false = some true) :
    ((clamp_Clamp.f p (wrap64 (x))).bind fun t336 => ((flow_Get.f p).bind fun bt337 => ((flow_Get.f t336).bind fun bt344 => (if (t336.size : Int) = (p.size : Int) then (if (!(bt337.1 == bt344.1) || (!(bt337.2.1.toList == bt344.2.1.toList) || (!(bt337.2.2.1.toList == bt344.2.2.1.toList) || (!(bt337.2.2.2.1 == bt344.2.2.2.1) || (!(bt337.2.2.2.2.1 == bt344.2.2.2.2.1)))))) = true then (palanquinlaw10_ClampKeeps.j0 80000 p x t336 true) else (if bt337.2.2.2.2.2 = bt344.2.2.2.2.2 then ((clamp_Clamp.f t336 (wrap64 (x))).bind fun t351 => (if t351.toList = t336.toList then ((clamp_Clamp.f t336 (mx (wrap64 (x)) (wrap64 (y)))).bind fun t352 => (palanquinlaw10_ClampKeeps.j0 80000 p x t336 (t352.toList != t336.toList))) else (palanquinlaw10_ClampKeeps.j0 80000 p x t336 true))) else (palanquinlaw10_ClampKeeps.j0 80000 p x t336 true))) else (palanquinlaw10_ClampKeeps.j0 80000 p x t336 true))))) = some true := by
  rw [hwx, hwy, h1, Option.bind_some, h2, Option.bind_some, h3, Option.bind_some, if_pos (by omega), if_neg (by simp), if_pos rfl, h4, Option.bind_some, if_pos rfl, h5, Option.bind_some, show (q.toList != q.toList) = false by simp]
  exact hj
theorem pq_getD {p b c : ByteArray} {d e : Int} {n m a : Nat} (h : Seg p b c d e n m a) (L : Nat) {i : Nat} (hi : i < p.size) (h1 : i ≠ n + 16) (h2 : i ≠ n + 16 + 1) (h3 : i ≠ n + 20 + a) (h4 : i ≠ n + 20 + a + 1) : bt p (i : Int) = bt (pq p b c n a L) (i : Int) := by
  obtain ⟨f1, f2, f3⟩ := pq_facts h L
  obtain ⟨r1, r2, r3, r4⟩ := h.room
  have hp := h.np
  by_cases hn : i < n
  · rw [bt_one _ i hi, bt_one _ i (by omega), f2 _ _ (by omega)]
  · obtain ⟨j, rfl⟩ := Nat.exists_eq_add_of_le (show n ≤ i by omega)
    refine bt_same hi (by omega) ?_
    rw [← getD_drop, ← ext_back, f3, sq_getD L _ r3 (by omega) (by omega), ext_back, getD_drop]
end CK
open CK
theorem ClampKeeps (a0 : ByteArray) (a1 a2 : Int) (_ : a0.size ≤ 140737488351232) (w1 : (Lit.int .u16 a1).wf = true) (w2 : (Lit.int .u16 a2).wf = true) : ∃ k, palanquinlaw10_ClampKeeps.f k a0 a1 a2 = some true := by
  have h1 : 0 ≤ a1 ∧ a1 ≤ 65535 := by simp [Lit.wf] at w1; exact w1
  have h2 : 0 ≤ a2 ∧ a2 ≤ 65535 := by simp [Lit.wf] at w2; exact w2
  have wr : ∀ x : Int, 0 ≤ x ∧ x ≤ 65535 → wrap64 x = x := fun x hx => by unfold wrap64; omega
  have hm : 0 ≤ mx a1 a2 ∧ mx a1 a2 ≤ 65535 ∧ a1 ≤ mx a1 a2 := by unfold mx; split <;> omega
  refine ⟨80000, ?_⟩
  unfold palanquinlaw10_ClampKeeps.f
  rw [awake10, Option.bind_some, if_pos rfl]
  by_cases hz : (a0.size : Int) > 5000
  · rw [if_pos hz]
  rw [if_neg hz]
  have hs : a0.size ≤ 5000 := by omega
  have same : palanquinlaw10_ClampKeeps.j1 79999 a0 a0 false = some true := by
    rw [palanquinlaw10_ClampKeeps.j1, if_neg (by decide)]
    exact loop_is (p := a0) (q := a0) rfl hs 0 0 (fun _ _ _ _ _ _ => rfl) a0.size 0 79998 0 (by omega) (by omega) (by omega)
  rcases any_of hs with h | ⟨b, c, d, e, n, m, a, h⟩
  · obtain ⟨f, hf⟩ : ∃ f, flow_Get.f a0 = some f := flow_some a0 (by omega)
    refine keeps_is a0 a0 a1 a2 f rfl (wr _ h1) (wr _ h2) (clamp_same (h 0) _) hf hf (clamp_same (h 0) _) (clamp_same (h 0) _) ?_
    rw [palanquinlaw10_ClampKeeps.j0, if_neg (by decide), MSS_is (h 79998), Option.bind_some, Option.bind_some]
    dsimp +instances only
    rw [if_neg (by decide), if_neg (by decide), if_pos rfl, same]
  · have e1 := h.clamp a1
    have e2 := h.clamp (mx a1 a2)
    rw [lim16 h1.1 h1.2] at e1
    rw [lim16 hm.1 hm.2.1] at e2
    have hM : ∀ x : Int, mn (m : Int) x = if x < (m : Int) then x else (m : Int) := fun x => by unfold mn; rfl
    by_cases hmx : (m : Int) ≤ a1
    · rw [if_pos hmx] at e1
      rw [if_pos (by omega)] at e2
      refine keeps_is a0 a0 a1 a2 _ rfl (wr _ h1) (wr _ h2) e1 h.flow h.flow e1 e2 ?_
      rw [palanquinlaw10_ClampKeeps.j0, if_neg (by decide), MSS_is (h.find 79998), Option.bind_some, Option.bind_some]
      dsimp +instances only
      rw [if_neg (by decide), if_pos rfl, wr _ h1, hM, if_neg (by omega), show ((m : Int) != (m : Int)) = false by simp, same]
    · rw [if_neg hmx] at e1
      have hq := h.put (L := a1.toNat) (by omega)
      have hqz := (pq_facts h a1.toNat).1
      have e3 := hq.clamp a1
      have e4 := hq.clamp (mx a1 a2)
      rw [lim16 h1.1 h1.2, if_pos (by omega)] at e3
      rw [lim16 hm.1 hm.2.1, if_pos (by omega)] at e4
      refine keeps_is a0 _ a1 a2 _ hqz (wr _ h1) (wr _ h2) e1 h.flow hq.flow e3 e4 ?_
      rw [palanquinlaw10_ClampKeeps.j0, if_neg (by decide), MSS_is (h.find 79998), Option.bind_some, MSS_is (hq.find 79998), Option.bind_some]
      dsimp +instances only
      rw [if_neg (by decide), if_pos rfl, wr _ h1, hM, if_pos (by omega), show ((a1.toNat : Nat) : Int) = a1 by omega, show (a1 != a1) = false by simp, palanquinlaw10_ClampKeeps.j1, if_neg (by decide)]
      exact loop_is (p := a0) hqz hs (n + 16) (n + 20 + a) (fun i hi g1 g2 g3 g4 => pq_getD h a1.toNat hi g1 g2 g3 g4) a0.size 0 79998 0 (by omega) (by omega) (by omega)
end Go.Proofs.Ytcmalglippmocaa.Pure
end
