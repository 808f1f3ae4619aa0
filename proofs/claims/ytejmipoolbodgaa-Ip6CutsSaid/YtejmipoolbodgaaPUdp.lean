/- Plain facts of udp.Put and udp.Get as functions: what is put is got, what is got is put. -/
import Derived.Test.YtejmipoolbodgaaHUdp
import Derived.Test.YtejmipoolbodgaaGlaw08
namespace Go.Proofs.Ytejmipoolbodgaa.Pure
open Go.RowKit Go.Proofs.YtejmipoolbodgaaW.PrintWords Go.Proofs.YtejmipoolbodgaaW.PrintLast Go.Proofs.Ytejmipoolbodgaa.G Go.Proofs.Ytejmipoolbodgaa.Pal
theorem bl_inj {a b : ByteArray} (h : bl a = bl b) : a = b := ByteArray.ext (Array.toList_inj.mp h)
theorem bl_mk (l : List UInt8) : bl ⟨l.toArray⟩ = l := by simp [bl]
theorem size_mk (l : List UInt8) : (⟨l.toArray⟩ : ByteArray).size = l.length := by simp [ByteArray.size]
theorem in_u16 {a : Int} (h : (Lit.int .u16 a).wf = true) : 0 ≤ a ∧ a ≤ 65535 := by
  simp [Lit.wf] at h; exact h
theorem u64n_of {a : Int} (h0 : 0 ≤ a) (h1 : a ≤ 18446744073709551615) : u64n a = a.toNat := by
  unfold u64n; rw [IntKind.wrap_u64]; omega
theorem be_nb2 {a : Int} (h : in16 a) : ((be (nb 2 (u64n a)) : Nat) : Int) = a := by
  rw [be_nb, u64n_of h.1 (by have := h.2; omega)]; have := h.1; have := h.2; omega
theorem in16_be {l : List UInt8} (h : l.length ≤ 2) : in16 ((be l : Nat) : Int) := by
  have := be_lt_of l 2 h
  unfold in16; omega
theorem check_zero {a b : Int} {n : Nat} : udpCheck a b n = 0 ↔ in16 a ∧ in16 b ∧ n ≤ 65527 := by
  unfold udpCheck
  split
  · split <;> simp_all
  · rename_i h; constructor
    · intro h; omega
    · intro h2; exact absurd ⟨h2.1, h2.2.1⟩ h
/-- The bytes of a datagram, part by part. -/
theorem parts {x : ByteArray} {A B L S : List UInt8} {p : ByteArray} (hx : bl x = A ++ B ++ L ++ S ++ bl p) (hA : A.length = 2) (hB : B.length = 2) (hL : L.length = 2) (hS : S.length = 2) :
    x.size = 8 + p.size ∧ bl (x.extract 0 2) = A ∧ bl (x.extract 2 4) = B ∧ bl (x.extract 4 6) = L ∧ bl (x.extract 6 8) = S ∧ x.extract 8 x.size = p := by
  match A, hA, B, hB, L, hL, S, hS with
  | [a0, a1], _, [b0, b1], _, [l0, l1], _, [s0, s1], _ =>
    have hsz : x.size = 8 + p.size := by rw [← bl_length, hx, ← bl_length]; simp; omega
    refine ⟨hsz, ?_, ?_, ?_, ?_, bl_inj ?_⟩ <;> rw [bl_extract, hx]
    · simp
    · simp
    · simp
    · simp
    · rw [List.take_of_length_le (by simp [bl_length, hsz]; omega)]; simp
theorem put_ok {a b : Int} {p : ByteArray} {n : Int} (h0 : udpCheck a b p.size = 0) (hn : in16 n) : udp_Put.f a b p n = some (⟨(udpBytes a b p n).toArray⟩, 0) := by
  unfold udp_Put.f; rw [if_neg (by omega), if_pos hn]
theorem put_len {a b : Int} {p : ByteArray} {n : Int} (h0 : udpCheck a b p.size ≠ 0) : udp_Put.f a b p n = some (empty, udpCheck a b p.size) := by
  unfold udp_Put.f; rw [if_pos h0]
theorem put_sum {a b : Int} {p : ByteArray} {n : Int} (h0 : udpCheck a b p.size = 0) (hn : ¬ in16 n) : udp_Put.f a b p n = some (empty, 1) := by
  unfold udp_Put.f; rw [if_neg (by omega), if_neg hn]
theorem get_is {s : ByteArray} (hs : s.size ≤ 140737488351232) : udp_Get.f s = some (if udpErr s = 0 then (((be (bl (s.extract 0 2)) : Nat) : Int), ((be (bl (s.extract 2 4)) : Nat) : Int), s.extract 8 s.size, ((be (bl (s.extract 6 8)) : Nat) : Int), 0) else (0, 0, empty, 0, udpErr s)) := by
  unfold udp_Get.f; rw [if_pos hs]
/-- What is put is got. -/
theorem get_put {a b : Int} {p : ByteArray} {n : Int} {x : ByteArray} (ha : in16 a) (hb : in16 b) (hp : p.size ≤ 65527) (hn : in16 n) (hx : bl x = udpBytes a b p n) : udp_Get.f x = some (a, b, p, n, 0) := by
  obtain ⟨h0, h1, h2, h3, h4, h5⟩ := parts hx (nb_length _ _) (nb_length _ _) (nb_length _ _) (nb_length _ _)
  have he : udpErr x = 0 := by
    unfold udpErr
    rw [if_neg (by omega), if_pos (by
      rw [h3]
      have := be_nb2 (a := 8 + (p.size : Int)) (by unfold in16; omega)
      omega)]
  rw [get_is (by omega), if_pos he, h1, h2, h4, h5, be_nb2 ha, be_nb2 hb, be_nb2 hn]
theorem udpBytes_length (a b : Int) (p : ByteArray) (n : Int) : (udpBytes a b p n).length = 8 + p.size := by
  unfold udpBytes; simp only [List.length_append, nb_length, bl_length]
theorem empty_list : (empty : ByteArray).toList = [] := by decide +kernel
theorem awake08 : palanquinlaw08_awake.f = some true := by
  unfold palanquinlaw08_awake.f
  rw [put_ok (by decide) (by decide), Option.bind_some, if_pos (by decide +kernel)]
  rfl
end Go.Proofs.Ytejmipoolbodgaa.Pure
