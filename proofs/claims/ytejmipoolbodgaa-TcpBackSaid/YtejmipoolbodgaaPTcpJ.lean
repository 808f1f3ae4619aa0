/- Plain theory: the first MSS among what a walk over options yields. No program in it. -/
import Derived.Test.YtejmipoolbodgaaPTcpI
namespace Go.Proofs.Ytejmipoolbodgaa.Pal
open Go.RowKit Go.Proofs.Ytejmipoolbodgaa.G Go.Proofs.Ytejmipoolbodgaa.Pure
set_option linter.unusedVariables false
set_option linter.unusedSimpArgs false
def hitI (x : Int × ByteArray) : Bool := (bl x.2).getD 0 0 == 2 && x.2.size == 4
def valI (x : Int × ByteArray) : Int × Int := (((((bl x.2).getD 2 0).toNat * 256 + ((bl x.2).getD 3 0).toNat : Nat) : Int), wrap64 (x.1 + 2))
def found (l : List (Int × ByteArray)) : Option (Int × Int) := (l.find? hitI).map valI
theorem found_miss {l : List (Int × ByteArray)} {x : Int × ByteArray} (h : found l = none) (hx : hitI x = false) : found (l ++ [x]) = none := by
  unfold found at *
  rw [List.find?_append, Option.map_eq_none_iff.mp h]
  simp [hx]
theorem found_hit {l : List (Int × ByteArray)} {x : Int × ByteArray} (h : found l = none) (hx : hitI x = true) : found (l ++ [x]) = some (valI x) := by
  unfold found at *
  rw [List.find?_append, Option.map_eq_none_iff.mp h]
  simp [hx]
theorem found_prefix {l m : List (Int × ByteArray)} {v : Int × Int} (hp : l <+: m) (h : found l = some v) : found m = some v := by
  obtain ⟨t, rfl⟩ := hp
  unfold found at *
  rw [List.find?_append]
  obtain ⟨x, hx, hv⟩ := Option.map_eq_some_iff.mp h
  rw [hx]
  simp [hv]
theorem item_byte (s : ByteArray) (p : Nat × Nat) (k : Nat) (h : p.1 + p.2 ≤ (bl s).length) (hk : k < p.2) : (bl (itemOf s p).2).getD k 0 = (bl s).getD (p.1 + k) 0 := by
  have e : bl (s.extract p.1 (p.1 + p.2)) = ((bl s).take (p.1 + p.2)).drop p.1 := by simp [bl, ByteArray.data_extract, List.drop_take]
  unfold itemOf
  dsimp only
  rw [e]
  simp [List.getD_eq_getElem?_getD, List.getElem?_drop, List.getElem?_take, hk]
theorem item_size (s : ByteArray) (p : Nat × Nat) (h : p.1 + p.2 ≤ (bl s).length) : (itemOf s p).2.size = p.2 := by
  rw [bl_length] at h
  unfold itemOf; dsimp only
  simp only [ByteArray.size_extract]; omega
theorem found_is (s : ByteArray) (hs : s.size ≤ 140737488351232) {L : List (Nat × Nat)} (hL : W (bl s) 0 = some L) : found (items s 0) = (mssOf (bl s)).map fun p => ((p.1 : Int), (p.2 : Int)) := by
  rw [items_right s 0 L hL, mssOf_of hL]
  have hm := W_mem 0 L hL
  clear hL
  unfold found
  induction L with
  | nil => rfl
  | cons p L ih =>
    have hp := hm p List.mem_cons_self
    have e : hitI (itemOf s p) = isMSS (bl s) p := by
      unfold hitI isMSS
      rw [item_byte s p 0 hp.2.1 (by omega), item_size s p hp.2.1]
      rfl
    rw [List.map_cons, List.find?_cons, List.find?_cons, e]
    cases hx : isMSS (bl s) p with
    | false => exact ih fun q hq => hm q (List.mem_cons_of_mem _ hq)
    | true =>
      have h4 : p.2 = 4 := by
        unfold isMSS at hx
        simp only [Bool.and_eq_true, beq_iff_eq] at hx
        exact hx.2
      have hb := bl_length s
      simp only [Option.map_some, valI, mssAt]
      rw [item_byte s p 2 hp.2.1 (by omega), item_byte s p 3 hp.2.1 (by omega)]
      congr 2
      unfold itemOf; dsimp only
      unfold wrap64; omega
theorem items_some (s : ByteArray) (h : rightO (bl s) = true) : ∀ x ∈ items s 0, 0 < x.2.size := by
  obtain ⟨L, hL⟩ := rightO_some h
  rw [items_right s 0 L hL]
  intro x hx
  obtain ⟨p, hp, rfl⟩ := List.mem_map.mp hx
  have hm := W_mem 0 L hL p hp
  rw [item_size s p hm.2.1]; omega
end Go.Proofs.Ytejmipoolbodgaa.Pal
