/- Plain law of UdpParts: the two numbers' bytes stand where they should, all other bytes stay. -/
import Derived.Test.YtejmipoolbodgaaGUdpParts
import Derived.Test.YtejmipoolbodgaaPUdp
namespace Go.Proofs.Ytejmipoolbodgaa.Pure
open Go.RowKit Go.Proofs.YtejmipoolbodgaaW.PrintWords Go.Proofs.YtejmipoolbodgaaW.PrintLast Go.Proofs.Ytejmipoolbodgaa.G Go.Proofs.Ytejmipoolbodgaa.Pal
theorem cut8 {A B L S : List UInt8} (P : List UInt8) (hA : A.length = 2) (hB : B.length = 2) (hL : L.length = 2) (hS : S.length = 2) :
    (A ++ B ++ L ++ S ++ P).take 6 = A ++ B ++ L ∧ (A ++ B ++ L ++ S ++ P).drop 8 = P ∧ (A ++ B ++ L ++ S ++ P).drop 2 = B ++ L ++ S ++ P := by
  match A, hA, B, hB, L, hL, S, hS with
  | [a0, a1], _, [b0, b1], _, [l0, l1], _, [s0, s1], _ => simp
theorem UdpParts (a b : Int) (p : ByteArray) (s o : Int) (_ : (Lit.int .i64 a).wf = true) (_ : (Lit.int .i64 b).wf = true) (_ : p.size ≤ maxLen) (hs : (Lit.int .u16 s).wf = true) (ho : (Lit.int .u16 o).wf = true) :
    palanquinlaw08_UdpParts.f a b p s o = some true := by
  have hs := in_u16 hs
  have ho := in_u16 ho
  unfold palanquinlaw08_UdpParts.f
  rw [awake08, Option.bind_some, if_pos rfl]
  by_cases hp : (p.size : Int) > 3000
  · rw [if_pos hp]
  rw [if_neg hp, show wrap64 s = s by unfold wrap64; omega, show wrap64 o = o by unfold wrap64; omega]
  have is : in16 s := hs
  have io : in16 o := ho
  by_cases hc : udpCheck a b p.size = 0
  case neg =>
    rw [put_len hc, Option.bind_some, if_neg hc]
    show some (empty.toList == []) = _
    rw [empty_list]; rfl
  obtain ⟨ha, hb, hl⟩ := check_zero.mp hc
  rw [put_ok hc is, Option.bind_some, if_pos rfl, put_ok hc io, Option.bind_some, put_ok (check_zero.mpr ⟨io, hb, hl⟩) is, Option.bind_some, if_pos rfl, if_pos rfl]
  obtain ⟨x, hx⟩ : ∃ x : ByteArray, x = ⟨(udpBytes a b p s).toArray⟩ := ⟨_, rfl⟩
  obtain ⟨y, hy⟩ : ∃ y : ByteArray, y = ⟨(udpBytes a b p o).toArray⟩ := ⟨_, rfl⟩
  obtain ⟨z, hz⟩ : ∃ z : ByteArray, z = ⟨(udpBytes o b p s).toArray⟩ := ⟨_, rfl⟩
  have bx : bl x = udpBytes a b p s := by rw [hx, bl_mk]
  have by' : bl y = udpBytes a b p o := by rw [hy, bl_mk]
  have bz : bl z = udpBytes o b p s := by rw [hz, bl_mk]
  have sx : x.size = 8 + p.size := by rw [← bl_length, bx, udpBytes_length]
  have sy : y.size = 8 + p.size := by rw [← bl_length, by', udpBytes_length]
  have sz : z.size = 8 + p.size := by rw [← bl_length, bz, udpBytes_length]
  rw [← hx, ← hy, ← hz]
  dsimp only
  have l2 : ∀ v, (nb 2 v).length = 2 := nb_length 2
  have e1 : x.extract 0 6 = y.extract 0 6 := by
    apply bl_inj
    rw [bl_extract, bl_extract, bx, by']
    unfold udpBytes
    rw [(cut8 _ (l2 _) (l2 _) (l2 _) (l2 _)).1, (cut8 _ (l2 _) (l2 _) (l2 _) (l2 _)).1]
  have e2 : x.extract 8 x.size = y.extract 8 y.size := by
    apply bl_inj
    rw [bl_extract, bl_extract, bx, by', List.take_of_length_le (by rw [udpBytes_length]; omega), List.take_of_length_le (by rw [udpBytes_length]; omega)]
    unfold udpBytes
    rw [(cut8 _ (l2 _) (l2 _) (l2 _) (l2 _)).2.1, (cut8 _ (l2 _) (l2 _) (l2 _) (l2 _)).2.1]
  have e3 : x.extract 2 x.size = z.extract 2 z.size := by
    apply bl_inj
    rw [bl_extract, bl_extract, bx, bz, List.take_of_length_le (by rw [udpBytes_length]; omega), List.take_of_length_le (by rw [udpBytes_length]; omega)]
    unfold udpBytes
    rw [(cut8 _ (l2 _) (l2 _) (l2 _) (l2 _)).2.2, (cut8 _ (l2 _) (l2 _) (l2 _) (l2 _)).2.2]
  rw [if_pos (by omega), if_pos (by omega), if_pos (by omega), if_pos (by rw [e1]), if_pos (by omega), if_pos (by omega), if_pos (by rw [e2]), if_pos (by omega), if_pos (by omega), if_pos (by rw [e3])]
  rw [get_put io hb hl is bz, Option.bind_some, if_pos rfl, if_pos (by simp)]
  simp
end Go.Proofs.Ytejmipoolbodgaa.Pure
