/- By hand: hash.Text and hash.Point: what they write. -/
import Derived.Test.YtejmipoolbodgaaHWireW
import Derived.Test.YtejmipoolbodgaaHFnv
import Derived.WalkLawsBesides
namespace Go.Proofs.Ytejmipoolbodgaa.G
open Go.RowKit Go.Proofs.YtejmipoolbodgaaW.PrintWords Go.Proofs.YtejmipoolbodgaaW.PrintLast Go.Proofs.YtejmipoolbodgaaW.PrintMore Go.Proofs.Ytejmipoolbodgaa.Pal
set_option linter.unusedVariables false
set_option linter.unusedSimpArgs false

def flowText (a0 : Int) (a1 a2 : ByteArray) (a3 a4 : Int) : List UInt8 := nb 1 (u64n a0) ++ bl (a1 ++ a2) ++ nb 2 (u64n a3) ++ nb 2 (u64n a4)
def hash_Text.f (a0_0 : Int) (a0_1 a0_2 : ByteArray) (a0_3 a0_4 : Int) : Option ByteArray :=
  if a0_1.size + a0_2.size ≤ 1099511627776 then some ⟨(flowText a0_0 a0_1 a0_2 a0_3 a0_4).toArray⟩ else none

set_option maxHeartbeats 1000000 in
set_option maxRecDepth 100000 in
theorem hash_Text.calls (a0_0 : Int) (a0_1 a0_2 : ByteArray) (a0_3 a0_4 : Int) (r : ByteArray) (w : World) (h : hash_Text.f a0_0 a0_1 a0_2 a0_3 a0_4 = some r) :
    Calls Try.prog 70 #[.agg #[.int .i64 a0_0, .string a0_1, .string a0_2, .int .i64 a0_3, .int .i64 a0_4]] w fun e w' => e = .returned (.string r) ∧ Below w.heap.size w w' := by
  unfold hash_Text.f at h
  by_cases hs : a0_1.size + a0_2.size ≤ 1099511627776
  case neg => rw [if_neg hs] at h; exact absurd h (by simp)
  rw [if_pos hs] at h
  obtain rfl := Option.some.inj h
  clear h
  have hu := Try.underlying69
  go_enter Try.func70, Try.ntmps70
  have HS := Aside0.mk (WS.start w 69 #[.int .i64 a0_0, .string a0_1, .string a0_2, .int .i64 a0_3, .int .i64 a0_4])
  have hc := HS.out.1.2.1.cells
  go_wp2_with fail
  refine (Writer_U8.calls _ _ _ _ HS.out.1.1 (by simp only [List.length_append, List.length_nil, nb_length, bl_length, ByteArray.size_append]; omega)).mono ?_
  rintro e w2 ⟨rfl, g1, g2⟩
  replace HS := Aside0.mk (HS.out.next g1 g2)
  clear g1 g2 hc
  have hc := HS.out.1.2.1.cells
  go_wp2_with fail
  refine (Writer_Text.calls _ _ _ _ HS.out.1.1 (by simp only [List.length_append, List.length_nil, nb_length, bl_length, ByteArray.size_append]; omega)).mono ?_
  rintro e w2 ⟨rfl, g1, g2⟩
  replace HS := Aside0.mk (HS.out.next g1 g2)
  clear g1 g2 hc
  have hc := HS.out.1.2.1.cells
  go_wp2_with fail
  refine (Writer_U16.calls _ _ _ _ HS.out.1.1 (by simp only [List.length_append, List.length_nil, nb_length, bl_length, ByteArray.size_append]; omega)).mono ?_
  rintro e w2 ⟨rfl, g1, g2⟩
  replace HS := Aside0.mk (HS.out.next g1 g2)
  clear g1 g2 hc
  have hc := HS.out.1.2.1.cells
  go_wp2_with fail
  refine (Writer_U16.calls _ _ _ _ HS.out.1.1 (by simp only [List.length_append, List.length_nil, nb_length, bl_length, ByteArray.size_append]; omega)).mono ?_
  rintro e w2 ⟨rfl, g1, g2⟩
  replace HS := Aside0.mk (HS.out.next g1 g2)
  clear g1 g2 hc
  have hc := HS.out.1.2.1.cells
  go_wp2_with fail
  refine (Writer_String.calls _ _ _ HS.out.1.1).mono ?_
  rintro e w2 ⟨rfl, g1, g2⟩
  replace HS := Aside0.mk (HS.out.next g1 g2)
  clear g1 g2 hc
  go_wp2
  go_ret
  exact ⟨by simp [flowText, u64n], HS.out.1.2.2⟩

def pointText (a b : Int) : List UInt8 := nb 4 (u64n (a % 4294967296)) ++ nb 4 (u64n (b % 4294967296))
def hash_Point.f (a0 a1 : Int) : Option Int := some (fnv (pointText a0 a1) : Nat)

set_option maxHeartbeats 1000000 in
set_option maxRecDepth 100000 in
theorem hash_Point.calls (a0 a1 : Int) (r : Int) (w : World) (h : hash_Point.f a0 a1 = some r) :
    Calls Try.prog 68 #[.int .i64 a0, .int .i64 a1] w fun e w' => e = .returned (.int .u64 r) ∧ Below w.heap.size w w' := by
  obtain rfl := Option.some.inj h
  clear h
  have HT : Aside0 (hash_Sum.f [(⟨(pointText a0 a1).toArray⟩ : ByteArray)] = some ((fnv (pointText a0 a1) : Nat) : Int)) := ⟨by
    have e : cat [(⟨(pointText a0 a1).toArray⟩ : ByteArray)] = pointText a0 a1 := by simp [cat, bl]
    unfold hash_Sum.f
    rw [e, if_pos (by unfold pointText; rw [List.length_append, nb_length, nb_length]; decide)]⟩
  go_enter Try.func68, Try.ntmps68
  have HS := Aside0.mk (WAt.new w)
  have HB := Aside0.mk ((Below.refl w.heap.size w).alloc (Nat.le_refl _) (.cells #[.pointer none, .slice none 0 0] 82))
  go_wp2_with fail
  refine (Writer_U32.calls _ _ _ _ HS.out (by omega) (by omega) (by simp)).mono ?_
  rintro e w2 ⟨rfl, g1, g2⟩
  replace HS := Aside0.mk g1
  replace HB := Aside0.mk (HB.out.trans g2)
  clear g1 g2
  go_wp2_with fail
  refine (Writer_U32.calls _ _ _ _ HS.out (by omega) (by omega) (by simp [nb_length])).mono ?_
  rintro e w3 ⟨rfl, g1, g2⟩
  replace HS := Aside0.mk g1
  replace HB := Aside0.mk (HB.out.trans g2)
  clear g1 g2
  go_wp2_with fail
  refine (Writer_String.calls _ _ _ HS.out).mono ?_
  rintro e w4 ⟨rfl, g1, g2⟩
  replace HB := Aside0.mk (HB.out.trans g2)
  clear g1 g2 HS
  rw [show [] ++ nb 4 (IntKind.u64.wrap (a0 % 4294967296)).toNat ++ nb 4 (IntKind.u64.wrap (a1 % 4294967296)).toNat = pointText a0 a1 from by simp [pointText, u64n]]
  generalize (⟨(pointText a0 a1).toArray⟩ : ByteArray) = t at HT ⊢
  go_wp2_with ((with_reducible refine gate_dst (N := 13) rfl ?_); refine Kd.R_lit Kd.string _ 9 ?hg (N := 13) ?hd (xs := ([t] : List ByteArray)) (inner := [.string t]) (ok := fun _ => True) (okp := fun _ => True) ?hr ?hp (fun _ hk => hk) trivial (Below.refl _ _) (Nat.le_refl _) (by simp) ?_; (case hd => rfl); (case hg => rfl); (case hr => first | (go_simp; done) | (go_simp; rfl)); (case hp => exact (Reps.one (show Kd.M Kd.string _ _ _ t [.string t] from rfl) (Reps.none _ _))); intro v342 w7 ho8 hb hg_ hnew_; clear hg_ hnew_; have HO := Aside0.mk ho8; replace HB := Aside0.mk (HB.out.trans (hb.mono HB.out.size)); clear hb ho8; obtain ⟨Ao9, co9, eo9⟩ := Kd.R_slice HO.out; subst eo9)
  go_wp2_with fail
  refine (hash_Sum.calls _ _ [t] _ _ (Kd.R_reads' HO.out).2.2 (Kd.R_reads' HO.out).2.1 HT.out).mono ?_
  rintro e w8 ⟨rfl, g1⟩
  replace HB := Aside0.mk (HB.out.trans (g1.mono HB.out.size))
  clear g1
  go_wp2
  go_ret
  exact ⟨rfl, HB.out⟩
end Go.Proofs.Ytejmipoolbodgaa.G
