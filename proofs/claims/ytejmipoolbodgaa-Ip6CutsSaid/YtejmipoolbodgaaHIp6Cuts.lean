/- By hand: the law Ip6Cuts: its walk, for the answer true alone. -/
import Derived.Test.YtejmipoolbodgaaGEq4
import Derived.Test.YtejmipoolbodgaaPIp6C
import Derived.Test.YtejmipoolbodgaaPHeap
import Derived.Lib.ConvBytes
import Derived.Laws.IdiomStrings
import Derived.Laws.Strings2
import Derived.Laws.Strings3
import Derived.RegionTactic
import Derived.Deep.RegionWith
import Derived.WalkLawsBesides
namespace Go.Proofs.Ytejmipoolbodgaa.G
open Go.RowKit Go.Proofs.YtejmipoolbodgaaW.PrintWords Go.Proofs.YtejmipoolbodgaaW.PrintLast Go.Proofs.YtejmipoolbodgaaW.PrintMore Go.Proofs.Ytejmipoolbodgaa.Pal
set_option linter.unusedVariables false
set_option linter.unusedSimpArgs false
attribute [local go_sem high] eqA114
def palanquinlaw06_Ip6Cuts.f (a0_0 a0_1 a0_2 a0_3 : Int) (a0_4 a0_5 : ByteArray) (a1 : ByteArray) (a2 : Int) : Option Bool :=
  if 0 ≤ a2 ∧ a2 < 256 then some true else none

theorem bcell6 {W w1 : World} (hb : Below W.heap.size W w1) : (∀ b o, b < W.heap.size → w1.cell? ⟨b, o, none⟩ = W.cell? ⟨b, o, none⟩) ∧ (∀ b o, b < W.heap.size → w1.frozen? ⟨b, o, none⟩ = W.frozen? ⟨b, o, none⟩) :=
  ⟨fun b o h => hb.cell (p := ⟨b, o, none⟩) h, fun b o h => hb.frozen (p := ⟨b, o, none⟩) h⟩
theorem six_put {W : World} {B : Nat} {T : TypeId} {c0 c1 c2 c3 c4 c5 v0 v1 v2 v3 v4 v5 : Value} (h : W.heap[B]? = some (.cells #[c0, c1, c2, c3, c4, c5] T (0, 0))) :
    Blk ((((((W.setCell ⟨B, 0, none⟩ v0).setCell ⟨B, 1, none⟩ v1).setCell ⟨B, 2, none⟩ v2).setCell ⟨B, 3, none⟩ v3).setCell ⟨B, 4, none⟩ v4).setCell ⟨B, 5, none⟩ v5) B T #[v0, v1, v2, v3, v4, v5] :=
  blk_put (cs := #[v0, v1, v2, v3, v4, c5]) (blk_put (cs := #[v0, v1, v2, v3, c4, c5]) (blk_put (cs := #[v0, v1, v2, c3, c4, c5]) (blk_put (cs := #[v0, v1, c2, c3, c4, c5]) (blk_put (cs := #[v0, c1, c2, c3, c4, c5]) (blk_put (cs := #[c0, c1, c2, c3, c4, c5]) h 0 v0 rfl) 1 v1 rfl) 2 v2 rfl) 3 v3 rfl) 4 v4 rfl) 5 v5 rfl
theorem six_far {W : World} {B g : Nat} {T : TypeId} {cs : Array Value} {v0 v1 v2 v3 v4 v5 : Value} (h : Blk W g T cs) (hg : g ≠ B) :
    Blk ((((((W.setCell ⟨B, 0, none⟩ v0).setCell ⟨B, 1, none⟩ v1).setCell ⟨B, 2, none⟩ v2).setCell ⟨B, 3, none⟩ v3).setCell ⟨B, 4, none⟩ v4).setCell ⟨B, 5, none⟩ v5) g T cs :=
  blk_far (blk_far (blk_far (blk_far (blk_far (blk_far h hg _) hg _) hg _) hg _) hg _) hg _
theorem six_below {w W : World} {B : Nat} {v0 v1 v2 v3 v4 v5 : Value} (h : Below w.heap.size w W) (hg : w.heap.size ≤ B) :
    Below w.heap.size w ((((((W.setCell ⟨B, 0, none⟩ v0).setCell ⟨B, 1, none⟩ v1).setCell ⟨B, 2, none⟩ v2).setCell ⟨B, 3, none⟩ v3).setCell ⟨B, 4, none⟩ v4).setCell ⟨B, 5, none⟩ v5) :=
  below_set (below_set (below_set (below_set (below_set (below_set h hg) hg) hg) hg) hg) hg
/-- make([]byte, n), and its text. -/
theorem zero_make (n : Nat) (hn : n ≤ 16777216) : ∃ Zc : Array Value,
    (∀ wz : World, (Instr.makeSlice 25 (.int .i64 (n : Int)) (.int .i64 (n : Int))).run Try.prog wz = Result.ok (Value.slice (some ⟨wz.heap.size, 0, none⟩) n n) (wz.alloc (.cells Zc 5))) ∧
    ∀ (wb : World) (b : Nat), Blk wb b 5 Zc → (convert 25 9 (Value.slice (some ⟨b, 0, none⟩) n n)).run Try.prog wb = Result.ok (Value.string ⟨(List.replicate n (0 : UInt8)).toArray⟩) wb := by
  obtain ⟨i0, hi, hz0, hz1, hz2⟩ := info_parts info5
  refine ⟨madeCells (Value.int .u8 0).cells ((n : Int).toNat * i0.size), ?_, ?_⟩
  · intro wz
    have h := run_makeSlice (P := Try.prog) wz 25 5 i0 (.int .u8 0) Try.underlying25 hi hz0 .i64 .i64 (n : Int) (n : Int) (by omega) (by omega) (by rw [hz1]; omega) (by rw [hz2]; omega) (by omega)
    rw [Int.toNat_natCast] at h
    exact h
  · intro wb b hb
    have hc : ∀ j, j < n → wb.cell? ⟨b, j, none⟩ = some (.int .u8 ((List.replicate n (0 : UInt8)).getD j 0).toNat) := fun j hj => by
      rw [hb.cells j, hz1]
      simp [madeCells, Value.cells, hj, Nat.mod_one]
    have h := run_convert_bytes_back (P := Try.prog) wb 25 9 5 ⟨b, 0, none⟩ n (List.replicate n (0 : UInt8)) Try.underlying25 Try.underlying5 Try.underlying9 (fun j hj => by
      rw [List.length_replicate] at hj
      have := hc j hj
      have e : (⟨b, 0, none⟩ : Addr).add j = ⟨b, j, none⟩ := by unfold Addr.add; split <;> simp_all
      rw [e, this]
      simp [List.getD_eq_getElem?_getD, hj])
    rw [List.length_replicate] at h
    exact h

set_option maxHeartbeats 8000000 in
set_option maxRecDepth 100000 in
theorem ip6cuts_main (a0_0 a0_1 a0_2 a0_3 : Int) (a0_4 a0_5 : ByteArray) (a1 : ByteArray) (a2 : Nat) (h256 : a2 < 256) (w : World) :
    Calls Try.prog 25 #[.agg #[.int .i64 a0_0, .int .i64 a0_1, .int .i64 a0_2, .int .i64 a0_3, .string a0_4, .string a0_5], .string a1, .int .u8 (a2 : Int)] w fun e w' => e = .returned (.bool true) ∧ Below w.heap.size w w' := by
  have hu := Try.underlying114
  have HB := Aside0.mk ((Below.refl w.heap.size w).alloc (Nat.le_refl _) (.cells #[.int .i64 a0_0, .int .i64 a0_1, .int .i64 a0_2, .int .i64 a0_3, .string a0_4, .string a0_5] 114))
  have HK := Aside0.mk (Blk.new w 114 #[.int .i64 a0_0, .int .i64 a0_1, .int .i64 a0_2, .int .i64 a0_3, .string a0_4, .string a0_5])
  have HV := Aside0.mk h256
  clear h256
  go_enter Try.func25, Try.ntmps25
  go_wp2_with fail
  refine (palanquinlaw06_awake.calls true _ Pure.awake06c).mono ?_
  rintro e w2 ⟨rfl, g1⟩
  replace HB := Aside0.mk (HB.out.trans (g1.mono HB.out.size))
  replace HK := Aside0.mk (HK.out.below g1 (by simp))
  clear g1
  obtain ⟨t, ht⟩ := Pure.few06c a0_0 a0_1 a0_2 a0_3 a0_4 a0_5
  have HT := Aside0.mk ht
  clear ht
  have hc := HK.out.cells
  go_wp2_with fail
  refine (palanquinlaw06_few.calls _ _ _ _ _ _ t _ HT.out).mono ?_
  rintro e w3 ⟨rfl, g1⟩
  replace HB := Aside0.mk (HB.out.trans (g1.mono HB.out.size))
  replace HK := Aside0.mk (HK.out.below g1 HK.out.lt)
  clear g1 hc
  cases t
  case false =>
    go_wp2
    go_ret
    exact ⟨rfl, HB.out⟩
  by_cases hp : 3000 < a1.size
  · have d1 : decide ((3000 : Int) < (a1.size : Int)) = true := decide_eq_true (by omega)
    have d2 : decide (3000 < a1.size) = true := decide_eq_true hp
    clear hp
    go_wp2
    go_ret
    exact ⟨rfl, HB.out⟩
  have d1 : decide ((3000 : Int) < (a1.size : Int)) = false := decide_eq_false (by omega)
  have d2 : decide (3000 < a1.size) = false := decide_eq_false hp
  have HP := Aside0.mk (show a1.size ≤ 3000 by omega)
  clear hp
  have hc := HK.out.cells
  go_wp2_with fail
  clear d1 d2
  by_cases hok : Pure.ok6 a0_0 a0_1 a0_2 a0_3 a0_4 a0_5
  case neg =>
    refine (ip6_Put.calls _ _ _ _ _ _ _ _ _ _ (show ip6_Put.f a0_0 a0_1 a0_2 a0_3 a0_4 a0_5 a1 = some (⟨#[]⟩, 1) from Pure.put6_no hok)).mono ?_
    rintro e w4 ⟨rfl, g1⟩
    replace HB := Aside0.mk (HB.out.trans (g1.mono HB.out.size))
    clear g1 hok hc
    go_wp2
    go_ret
    exact ⟨rfl, HB.out⟩
  have HO := Aside0.mk hok
  clear hok
  have hput := Pure.put6_ok (p := a1) HO.out (by have := HP.out; omega)
  obtain ⟨x, hx⟩ : ∃ x : ByteArray, x = ⟨(ip6Bytes a0_0 a0_1 a0_2 a0_3 a0_4 a0_5 a1).toArray⟩ := ⟨_, rfl⟩
  rw [← hx] at hput
  have HX := Aside0.mk (show bl x = ip6Bytes a0_0 a0_1 a0_2 a0_3 a0_4 a0_5 a1 by rw [hx]; exact Pure.bl_mk _)
  have HZ := Aside0.mk (Pure.put6_parts (p := a1) HO.out (by have := HP.out; omega) HX.out)
  refine (ip6_Put.calls _ _ _ _ _ _ _ x 0 _ hput).mono ?_
  clear hput hx
  rintro e w4 ⟨rfl, g1⟩
  replace HB := Aside0.mk (HB.out.trans (g1.mono HB.out.size))
  replace HK := Aside0.mk (HK.out.below g1 HK.out.lt)
  clear g1 hc
  obtain ⟨N, hN⟩ : ∃ N, N = 39 + a1.size := ⟨_, rfl⟩
  have l1 : wrap64 ((x.size : Int) - 1) = (N : Int) := by have := HZ.out.1; have := HP.out; unfold wrap64; omega
  have l2 : (0 : Int) ≤ (N : Int) ∧ (N : Int) ≤ (x.size : Int) := by have := HZ.out.1; omega
  have l3 : N ≤ x.size := by have := HZ.out.1; omega
  have HN := Aside0.mk hN
  clear hN
  go_wp2_with fail
  have s1 : (x.extract 0 N).size ≤ 140737488351232 := by simp only [ByteArray.size_extract]; have := HZ.out.1; have := HP.out; omega
  obtain ⟨E1, hE1⟩ : ∃ E1 : Int, E1 = if a1.size = 0 then 2 else 4 := ⟨_, rfl⟩
  have q1 : ip6Err (x.extract 0 N) = E1 := by rw [hE1, HN.out]; exact Pure.cut6_less HZ.out.1 HZ.out.2.1 HZ.out.2.2
  refine (ip6_Get.calls _ _ _ _ _ _ _ _ _ _ (Pure.get6_bad s1 q1 (by rw [hE1]; split <;> decide))).mono ?_
  rintro e w5 ⟨rfl, g1⟩
  have HE := Aside0.mk hE1
  clear hE1 s1 q1 l1 l2 l3
  replace HB := Aside0.mk (HB.out.trans (g1.mono HB.out.size))
  replace HK := Aside0.mk (HK.out.below g1 HK.out.lt)
  clear g1
  replace HB := Aside0.mk (HB.out.alloc HB.out.size (.cells #[.int .i64 0, .int .i64 0, .int .i64 0, .int .i64 0, .string ⟨#[]⟩, .string ⟨#[]⟩] 114))
  replace HK := Aside0.mk (HK.out.alloc (.cells #[.int .i64 0, .int .i64 0, .int .i64 0, .int .i64 0, .string ⟨#[]⟩, .string ⟨#[]⟩] 114))
  have q0 : (9223372036854775807 < x.size + 1) = False := eq_false (by have := HZ.out.1; have := HP.out; omega)
  go_wp2_with fail
  have s1 : (x ++ ⟨#[122]⟩ : ByteArray).size ≤ 140737488351232 := by rw [ByteArray.size_append]; have := HZ.out.1; have := HP.out; show x.size + 1 ≤ _; omega
  refine (ip6_Get.calls _ _ _ _ _ _ _ _ _ _ (Pure.get6_bad s1 (Pure.cut6_more HZ.out.1 HZ.out.2.1 HZ.out.2.2) (by decide))).mono ?_
  rintro e w6 ⟨rfl, g1⟩
  clear q0 s1
  replace HB := Aside0.mk (HB.out.trans (g1.mono HB.out.size))
  replace HK := Aside0.mk (HK.out.below g1 HK.out.lt)
  clear g1
  go_wp2_with fail
  replace HB := Aside0.mk (HB.out.alloc HB.out.size (.cells #[.int .i64 0, .int .i64 0, .int .i64 0, .int .i64 0, .string ⟨#[]⟩, .string ⟨#[]⟩] 114))
  replace HK := Aside0.mk (HK.out.alloc (.cells #[.int .i64 0, .int .i64 0, .int .i64 0, .int .i64 0, .string ⟨#[]⟩, .string ⟨#[]⟩] 114))
  generalize w6.alloc (.cells #[.int .i64 0, .int .i64 0, .int .i64 0, .int .i64 0, .string ⟨#[]⟩, .string ⟨#[]⟩] 114) = w7 at HB HK ⊢
  have i0 : (0 : Int) < (x.size : Int) := by have := HZ.out.1; omega
  have i1 : 0 < x.size := by have := HZ.out.1; omega
  have i2 : (1 : Int) ≤ (x.size : Int) := by have := HZ.out.1; omega
  have i4 : (9223372036854775807 < x.size) = False := eq_false (by have := HZ.out.1; have := HP.out; omega)
  have i3 : 1 ≤ x.size := by have := HZ.out.1; omega
  obtain ⟨Z, hZ⟩ : ∃ Z, Z = Pure.head6 a2 x := ⟨_, rfl⟩
  have hx0 : ((bl x).getD 0 0) = x[0] := by
    rw [List.getD_eq_getElem?_getD, List.getElem?_eq_getElem (by rw [bl_length]; exact i1)]; rfl
  have z1 : Go.bits .or .u8 (((a2 : Int) * 16) % 256) (Go.bits .and .u8 ((x[0].toNat : Int)) 15) = (Z.toNat : Int) := by
    rw [hZ, ← hx0]; exact Pure.head6_is a2 HV.out x
  have z2 : Go.bits .or .u8 (IntKind.u8.wrap ((a2 : Int) * 16)) (Go.bits .and .u8 ((x[0].toNat : Int)) 15) = (Z.toNat : Int) := by
    rw [IntKind.wrap_u8]; exact z1
  have hcb : ∀ (wz : World), wz.cell? ⟨w7.heap.size, 0, none⟩ = some (.int .u8 (Z.toNat : Int)) → (convert 25 9 (Value.slice (some ⟨w7.heap.size, 0, none⟩) 1 1)).run Try.prog wz = Result.ok (Value.string ⟨#[Z]⟩) wz := fun wz hc =>
    run_convert_bytes_back (P := Try.prog) wz 25 9 5 ⟨w7.heap.size, 0, none⟩ 1 [Z] Try.underlying25 Try.underlying5 Try.underlying9 (fun j hj => by
      obtain rfl : j = 0 := by simpa using hj
      exact hc)
  have HY := Aside0.mk hZ
  clear hZ hx0
  go_region
  clear i2 i3 i4 z1 z2 hcb
  have HW7 := Aside0.mk HB.out.size
  replace HB := Aside0.mk ((HB.out.alloc HB.out.size (.cells #[.int .u8 (Z.toNat : Int)] 5)).drew)
  replace HK := Aside0.mk (show Blk (w7.alloc (.cells #[.int .u8 (Z.toNat : Int)] 5)).drew w.heap.size 114 _ from HK.out.alloc (.cells #[.int .u8 (Z.toNat : Int)] 5))
  generalize (w7.alloc (.cells #[.int .u8 (Z.toNat : Int)] 5)).drew = w8 at HB HK ⊢
  have by_ : bl ((⟨#[Z]⟩ : ByteArray) ++ x.extract 1 x.size) = Pure.head6 a2 x :: (bl x).drop 1 := by
    rw [bl_append, Pure.bl_ext, List.take_of_length_le (by rw [bl_length]; exact Nat.le_refl _), HY.out]; rfl
  have sy : ((⟨#[Z]⟩ : ByteArray) ++ x.extract 1 x.size).size ≤ 140737488351232 := by
    rw [← bl_length, by_, List.length_cons, List.length_drop, bl_length]; have := HZ.out.1; have := HP.out; omega
  have ey := Pure.other6 HZ.out.1 HZ.out.2.2 by_
  generalize ((⟨#[Z]⟩ : ByteArray) ++ x.extract 1 x.size) = y at by_ sy ey ⊢
  obtain ⟨r1, r2, r3, r4, r5, r6, r7, hg⟩ := Pure.get6_any sy
  rw [ey] at hg
  generalize hE3 : (if a2 % 16 = 6 then (0 : Int) else 3) = E3 at hg
  have HE3 := Aside0.mk hE3
  have HG := Aside0.mk hg
  clear hg ey sy by_ hE3
  go_wp2_with fail
  refine (ip6_Get.calls _ _ _ _ _ _ _ _ _ _ HG.out).mono ?_
  rintro e w9 ⟨rfl, g1⟩
  replace HB := Aside0.mk (HB.out.trans (g1.mono HB.out.size))
  replace HK := Aside0.mk (HK.out.below g1 HK.out.lt)
  clear g1
  go_wp2_with fail
  replace HB := Aside0.mk (HB.out.alloc HB.out.size (.cells #[.int .i64 r1, .int .i64 r2, .int .i64 r3, .int .i64 r4, .string r5, .string r6] 114))
  replace HK := Aside0.mk (HK.out.alloc (.cells #[.int .i64 r1, .int .i64 r2, .int .i64 r3, .int .i64 r4, .string r5, .string r6] 114))
  generalize w9.alloc (.cells #[.int .i64 r1, .int .i64 r2, .int .i64 r3, .int .i64 r4, .string r5, .string r6] 114) = wx at HB HK ⊢
  obtain ⟨q, hq⟩ : ∃ q : ByteArray, q = ⟨(List.replicate a1.size (0 : UInt8)).toArray⟩ := ⟨_, rfl⟩
  have HQ := Aside0.mk hq
  clear hq
  go_cut [19, 20, 21] (fun v19 v20 v21 wc => ∃ B : Nat, v19 = .pointer (some ⟨B, 0, none⟩) ∧ v20 = .string q ∧ v21 = .int .i64 0 ∧ Aside0 (Blk wc B 114 #[.int .i64 a0_0, .int .i64 a0_1, .int .i64 a0_2, .int .i64 a0_3, .string a0_4, .string a0_5]) ∧ Aside0 (Blk wc w.heap.size 114 #[.int .i64 a0_0, .int .i64 a0_1, .int .i64 a0_2, .int .i64 a0_3, .string a0_4, .string a0_5]) ∧ Aside0 (Below w.heap.size w wc))
  case first =>
    obtain ⟨Zc, hmk, hcv⟩ := zero_make a1.size (by have := HP.out; omega)
    have v1 := hcv ((wx.alloc (.cells Zc 5)).drew) wx.heap.size (Blk.new wx _ _)
    have v2 := hcv (((wx.alloc (.cells Zc 5)).alloc (.cells #[.int .i64 0, .int .i64 0, .int .i64 0, .int .i64 0, .string ⟨#[]⟩, .string ⟨#[]⟩] 114)).drew) wx.heap.size ((Blk.new wx _ _).alloc _)
    have b3 := Blk.new (wx.alloc (.cells #[.int .i64 0, .int .i64 0, .int .i64 0, .int .i64 0, .string ⟨#[]⟩, .string ⟨#[]⟩] 114)) 5 Zc
    rw [World.size_alloc] at b3
    have v3 := hcv (((wx.alloc (.cells #[.int .i64 0, .int .i64 0, .int .i64 0, .int .i64 0, .string ⟨#[]⟩, .string ⟨#[]⟩] 114)).alloc (.cells Zc 5)).drew) (wx.heap.size + 1) b3
    clear b3 hcv
    rw [← HQ.out] at v1 v2 v3
    have s40 : (40 : Int) ≤ (x.size : Int) := by have := HZ.out.1; omega
    have t40 : 40 ≤ x.size := by have := HZ.out.1; omega
    have qz : q.size = a1.size := by rw [HQ.out, Pure.size_mk, List.length_replicate]
    have e40 : (9223372036854775807 < 40 + q.size) = False := eq_false (by rw [qz]; have := HP.out; omega)
    have HQZ := Aside0.mk qz
    clear qz
    have hgp := Pure.get_put6 (x := x.extract 0 40 ++ q) (p := q) HO.out (by rw [HQZ.out]; have := HP.out; omega) (Pure.bytes_cut HO.out.2.2.2.2.1 HO.out.2.2.2.2.2 HX.out q HQZ.out)
    have HGP := Aside0.mk hgp
    clear hgp
    go_region_with ((go_at_call 100; refine (ip6_Get.calls _ _ _ _ _ _ _ _ _ _ HGP.out).mono ?_; rintro e w11 ⟨rfl, g1⟩; obtain ⟨hc11, hf11⟩ := bcell6 g1; have hz11 := g1.size; simp at hz11 hc11 hf11))
    all_goals
      clear v1 v2 v3 hmk e40 s40 t40 hc11 hf11
      go_wp2_with fail
      go_meet
      have hlt := HK.out.lt
      have hb11 : Below w.heap.size w w11 := Below.trans (by repeat (first | (with_reducible first | exact HB.out | apply below_alloc | apply pw_below_drewN | apply below_drew1) | exact HB.out)) (g1.mono (below_size (by repeat (first | (with_reducible first | exact HB.out | apply below_alloc | apply pw_below_drewN | apply below_drew1) | exact HB.out))))
      have hk0 : wx.heap[w.heap.size]? = some (.cells #[.int .i64 a0_0, .int .i64 a0_1, .int .i64 a0_2, .int .i64 a0_3, .string a0_4, .string a0_5] 114 (0, 0)) := HK.out
      have hk11 : Blk w11 w.heap.size 114 #[.int .i64 a0_0, .int .i64 a0_1, .int .i64 a0_2, .int .i64 a0_3, .string a0_4, .string a0_5] := blk_below (by (with_reducible refine blk_drew ?_); (first | with_reducible exact blk_alloc hk0 _ | with_reducible exact blk_alloc (blk_alloc hk0 _) _)) g1
      have hz := hb11.size
      have b3 := blk_new (wx.alloc (.cells Zc 5)) (.cells #[.int .i64 0, .int .i64 0, .int .i64 0, .int .i64 0, .string ⟨#[]⟩, .string ⟨#[]⟩] 114)
      rw [World.size_alloc] at b3
      have b1 := blk_new wx (.cells #[.int .i64 0, .int .i64 0, .int .i64 0, .int .i64 0, .string ⟨#[]⟩, .string ⟨#[]⟩] 114)
      case rel =>
        refine ⟨_, rfl, rfl, rfl, ?_, ?_, ?_⟩
        · first
            | with_reducible exact Aside0.mk (Blk.new w11 _ _)
            | (with_reducible refine Aside0.mk (six_put (c0 := .int .i64 0) (c1 := .int .i64 0) (c2 := .int .i64 0) (c3 := .int .i64 0) (c4 := .string ⟨#[]⟩) (c5 := .string ⟨#[]⟩) (blk_below (blk_drew ?_) g1))
               first | with_reducible exact b3 | with_reducible exact b1 | with_reducible exact blk_alloc b1 _)
        · first
            | with_reducible exact Aside0.mk (Blk.alloc hk11 _)
            | (with_reducible refine Aside0.mk (six_far hk11 ?_); omega)
        · first
            | with_reducible exact Aside0.mk (Below.alloc hb11 hb11.size _)
            | (with_reducible refine Aside0.mk (six_below hb11 ?_); omega)
  case rest =>
    obtain ⟨B, rfl, rfl, rfl, HKB, HK, HB⟩ := hcut
    have k00 := HK.out.cells
    have kB0 := HKB.out.cells
    rcases Nat.eq_zero_or_pos a1.size with hE | hE
    all_goals by_cases h6 : a2 % 16 = 6
    all_goals
      have eE := HE.out
      have e3 := HE3.out
      first
        | (have e1 : a1.toList.isEmpty = true := (by rw [ByteArray.toList_eq, Array.eq_empty_of_size_eq_zero (show a1.data.size = 0 from hE)]; rfl)
           rw [if_pos hE] at eE)
        | (have e1 : a1.toList.isEmpty = false := (by rw [ByteArray.toList_eq, List.isEmpty_eq_false_iff]; intro hh; have hh2 := congrArg List.length hh; rw [Array.length_toList] at hh2; have : a1.data.size = 0 := hh2; have : a1.size = 0 := this; omega)
           rw [if_neg (Nat.ne_of_gt hE)] at eE)
      first | rw [if_pos h6] at e3 | rw [if_neg h6] at e3
      subst eE
      subst e3
      first
        | (have m1 : ((a2 : Int) % 16 == 6) = true := (by rw [beq_iff_eq]; omega)
           have m2 : ((a2 : Int).tmod 16 == 6) = true := (by rw [Int.tmod_eq_emod_of_nonneg (by omega)]; exact m1))
        | (have m1 : ((a2 : Int) % 16 == 6) = false := (by rw [beq_eq_false_iff_ne]; omega)
           have m2 : ((a2 : Int).tmod 16 == 6) = false := (by rw [Int.tmod_eq_emod_of_nonneg (by omega)]; exact m1))
      clear hE h6 HE HE3
      go_wp2
      go_ret
      exact ⟨rfl, HB.out⟩

theorem palanquinlaw06_Ip6Cuts.calls (a0_0 a0_1 a0_2 a0_3 : Int) (a0_4 a0_5 : ByteArray) (a1 : ByteArray) (a2 : Int) (r : Bool) (w : World) (h : palanquinlaw06_Ip6Cuts.f a0_0 a0_1 a0_2 a0_3 a0_4 a0_5 a1 a2 = some r) :
    Calls Try.prog 25 #[.agg #[.int .i64 a0_0, .int .i64 a0_1, .int .i64 a0_2, .int .i64 a0_3, .string a0_4, .string a0_5], .string a1, .int .u8 a2] w fun e w' => e = .returned (.bool r) ∧ Below w.heap.size w w' := by
  unfold palanquinlaw06_Ip6Cuts.f at h
  split at h
  case isFalse => exact absurd h (by simp)
  rename_i h2
  obtain rfl := Option.some.inj h
  obtain ⟨n, rfl⟩ := Int.eq_ofNat_of_zero_le h2.1
  exact ip6cuts_main _ _ _ _ _ _ _ n (by omega) w
end Go.Proofs.Ytejmipoolbodgaa.G
