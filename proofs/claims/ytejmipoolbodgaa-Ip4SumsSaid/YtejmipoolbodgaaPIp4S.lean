/- Plain theory: a packet with one bit of its header turned, but of how long the header is, is none. -/
import Derived.Test.YtejmipoolbodgaaPIp4B
import Derived.Test.YtejmipoolbodgaaPFlip
namespace Go.Proofs.Ytejmipoolbodgaa.Pure
open Go.RowKit Go.Proofs.YtejmipoolbodgaaW.PrintWords Go.Proofs.YtejmipoolbodgaaW.PrintLast Go.Proofs.Ytejmipoolbodgaa.G Go.Proofs.Ytejmipoolbodgaa.Pal
theorem flip_take (l : List UInt8) (i n : Nat) (h : i / 8 < n) : (Pal.flip l i).take n = Pal.flip (l.take n) i := by
  unfold Pal.flip
  rw [List.take_set]
  congr 2
  simp [List.getD_eq_getElem?_getD, List.getElem?_take, h]
theorem flip_take_out (l : List UInt8) (i n : Nat) (h : n ≤ i / 8) : (Pal.flip l i).take n = l.take n := by
  unfold Pal.flip
  rw [List.take_set]
  exact List.set_eq_of_length_le (by rw [List.length_take]; omega)
theorem flip_low_fin : ∀ b : Fin 256, ∀ k : Fin 8, 4 ≤ k.val → (b.val ^^^ 2 ^ k.val) % 16 = b.val % 16 := by decide +kernel
theorem flipByte_low (b : UInt8) (k : Nat) (h : 4 ≤ k % 8) : (flipByte b k).toNat % 16 = b.toNat % 16 := by
  have h1 := flip_low_fin ⟨b.toNat, b.toNat_lt⟩ ⟨k % 8, Nat.mod_lt _ (by decide)⟩ h
  have h2 := flip_fin ⟨b.toNat, b.toNat_lt⟩ ⟨k % 8, Nat.mod_lt _ (by decide)⟩
  dsimp only at h1 h2
  unfold flipByte
  simp only [UInt8.toNat_ofNat']
  rw [Nat.mod_eq_of_lt h2.1, h1]
theorem be_one (l : List UInt8) (h : 0 < l.length) : be (l.take 1) = (l.getD 0 0).toNat := by
  cases l with
  | nil => exact absurd h (by simp)
  | cons x l => simp [be]
theorem hl4_flip {x z : ByteArray} {i : Nat} (hz : bl z = Pal.flip (bl x) i) (h4 : 4 ≤ i) (h0 : 0 < x.size) : hl4 z = hl4 x := by
  unfold hl4
  rw [cut_bl, cut_bl, List.drop_zero, List.drop_zero, hz]
  by_cases c : i / 8 = 0
  · have hx : 0 < (bl x).length := by rw [bl_length]; exact h0
    rw [be_one _ (by rw [flip_length]; exact hx), be_one _ hx]
    have e : (Pal.flip (bl x) i).getD 0 0 = flipByte ((bl x).getD 0 0) i := by
      unfold Pal.flip
      rw [c]
      cases hb : bl x with
      | nil => rw [hb] at hx; exact absurd hx (by simp)
      | cons a l => simp
    rw [e, flipByte_low _ _ (by omega)]
  · rw [flip_take_out _ _ _ (by omega)]
theorem err4_flip {x z : ByteArray} {i : Nat} (hx : ip4Err x = 0) (hz : bl z = Pal.flip (bl x) i) (h4 : 4 ≤ i) (hi : i / 8 < hl4 x) : ip4Err z ≠ 0 := fun h => by
  obtain ⟨h20, _, ⟨_, hl, _⟩, hc, _⟩ := err4_zero hx
  obtain ⟨_, _, _, hc', _⟩ := err4_zero h
  rw [hl4_flip hz h4 (by omega), cut_bl, List.drop_zero, hz, flip_take _ _ _ hi] at hc'
  rw [cut_bl, List.drop_zero] at hc
  exact flip_wrong _ i (by rw [List.length_take, bl_length]; omega) hc hc'
theorem get4_bad {z : ByteArray} (hs : z.size ≤ 140737488351232) (h : ip4Err z ≠ 0) : ip4_Get.f z = some (0, 0, 0, 0, 0, false, false, ⟨#[]⟩, ⟨#[]⟩, ⟨#[]⟩, ⟨#[]⟩, ip4Err z) := by
  unfold ip4_Get.f
  rw [if_pos hs, if_neg h]
/-- What is put has no error, and as long a header as it has options. -/
theorem put4_err {tos id off ttl proto : Nat} {df mf : Bool} {src dst opt p x : ByteArray} (h : ok4 tos id off ttl proto src dst opt) (hp : 20 + opt.size + p.size ≤ 65535) (hx : bl x = put4 tos id off ttl proto df mf src dst opt p) :
    ip4Err x = 0 ∧ hl4 x = 20 + opt.size ∧ x.size = 20 + opt.size + p.size := by
  have hg := get_put4 h hp hx
  have hsz : x.size = 20 + opt.size + p.size := by
    obtain ⟨_, _, _, _, _, h6, h7, _, _⟩ := h
    rw [← bl_length, hx]
    unfold put4 head4
    simp only [List.length_append, nb_length, bl_length]
    omega
  unfold ip4_Get.f at hg
  rw [if_pos (by omega)] at hg
  by_cases he : ip4Err x = 0
  · rw [if_pos he] at hg
    have h10 := congrArg (fun o => (o.map fun t => t.2.2.2.2.2.2.2.2.2.1.size).getD 0) hg
    dsimp only [Option.map_some, Option.getD_some] at h10
    obtain ⟨_, hl, hm⟩ := (err4_zero he).2.2.1
    rw [ByteArray.size_extract] at h10
    exact ⟨he, by omega, hsz⟩
  · rw [if_neg he] at hg
    have h12 := congrArg (fun o => (o.map fun t => t.2.2.2.2.2.2.2.2.2.2.2).getD 0) hg
    dsimp only [Option.map_some, Option.getD_some] at h12
    exact absurd h12 he
end Go.Proofs.Ytejmipoolbodgaa.Pure
