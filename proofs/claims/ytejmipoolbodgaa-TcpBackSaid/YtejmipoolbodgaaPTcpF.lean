/- What tcp.Right and tcp.MSS compute, as functions; plain facts of them. -/
import Derived.Test.YtejmipoolbodgaaPTcp
import Derived.Test.YtejmipoolbodgaaPSum
namespace Go.Proofs.Ytejmipoolbodgaa.G
open Go.Proofs.Ytejmipoolbodgaa.Pal
def tcp_Right.f (s : ByteArray) : Option Bool := if s.size ≤ 140737488351232 then some (rightO (bl s)) else none
def mssR (o : Option (Nat × Nat)) : Int × Int × Bool := match o with | none => (0, 0, false) | some p => ((p.1 : Int), (p.2 : Int), true)
def tcp_MSS.f (s : ByteArray) : Option (Int × Int × Bool) := if s.size ≤ 140737488351232 then some (mssR (mssOf (bl s))) else none
end Go.Proofs.Ytejmipoolbodgaa.G
namespace Go.Proofs.Ytejmipoolbodgaa.Pure
open Go.Proofs.Ytejmipoolbodgaa.Pal Go.Proofs.Ytejmipoolbodgaa.G
theorem right_is (s : ByteArray) (h : s.size ≤ 140737488351232) : tcp_Right.f s = some (rightO (bl s)) := by unfold tcp_Right.f; rw [if_pos h]
theorem mss_is (s : ByteArray) (h : s.size ≤ 140737488351232) : tcp_MSS.f s = some (mssR (mssOf (bl s))) := by unfold tcp_MSS.f; rw [if_pos h]
theorem mssOf_not {l : List UInt8} (h : rightO l = false) : mssOf l = none := by
  unfold rightO at h; unfold mssOf
  cases hw : W l 0 with
  | none => rfl
  | some L => rw [hw] at h; exact absurd h (by simp)
theorem mssOf_of {l : List UInt8} {L : List (Nat × Nat)} (h : W l 0 = some L) : mssOf l = (L.find? (isMSS l)).map (mssAt l) := by unfold mssOf; rw [h]; rfl
theorem rightO_of {l : List UInt8} {L : List (Nat × Nat)} (h : W l 0 = some L) : rightO l = true := by unfold rightO; rw [h]; rfl
theorem rightO_some {l : List UInt8} (h : rightO l = true) : ∃ L, W l 0 = some L := by
  unfold rightO at h; exact Option.isSome_iff_exists.mp h
/-- Where an MSS is told, its option stands. -/
theorem mssOf_some {l : List UInt8} {n a : Nat} (h : mssOf l = some (n, a)) : ∃ L1 L2 q, W l 0 = some (L1 ++ (q, 4) :: L2) ∧ a = q + 2 ∧ q + 4 ≤ l.length ∧ l.getD q 0 = 2 ∧ l.getD (q + 1) 0 = 4 ∧ n = (l.getD (q + 2) 0).toNat * 256 + (l.getD (q + 3) 0).toNat ∧ ∀ p ∈ L1, isMSS l p = false := by
  unfold mssOf at h
  obtain ⟨L, hL, h⟩ := Option.bind_eq_some_iff.mp h
  obtain ⟨p, hp, hf⟩ := Option.map_eq_some_iff.mp h
  obtain ⟨h1, L1, L2, rfl, h2⟩ := List.find?_eq_some_iff_append.mp hp
  obtain ⟨q, m⟩ := p
  have h3 : l.getD q 0 = 2 ∧ m = 4 := by simpa [isMSS] using h1
  obtain ⟨h4, rfl⟩ := h3
  have hm := W_mem 0 _ hL (q, 4) (by simp)
  dsimp only at hm
  unfold mssAt at hf
  obtain ⟨rfl, rfl⟩ := Prod.mk.inj hf
  have ho : l.getD (q + 1) 0 = 4 := by
    have h5 := hm.2.2.2
    unfold optLen at h5
    rw [if_neg (by rw [h4]; decide)] at h5
    split at h5
    · exact absurd h5 (by simp)
    · have h6 := Option.some.inj h5
      exact UInt8.toNat_inj.1 h6
  exact ⟨L1, L2, q, hL, rfl, hm.2.1, h4, ho, rfl, fun p hp => by simpa using h2 p hp⟩
theorem mssOf_none {l : List UInt8} {L : List (Nat × Nat)} (hL : W l 0 = some L) (h : mssOf l = none) : ∀ p ∈ L, isMSS l p = false := fun p hp => by
  rw [mssOf_of hL] at h
  have := List.find?_eq_none.mp (Option.map_eq_none_iff.mp h) p hp
  simpa using this
/-- Told again by another text in which the same options stand. -/
theorem find_like {l l' : List UInt8} {L : List (Nat × Nat)} (d : Nat) (h : ∀ p ∈ L, l'.getD (p.1 + d) 0 = l.getD p.1 0 ∧ (isMSS l p = true → l'.getD (p.1 + d + 2) 0 = l.getD (p.1 + 2) 0 ∧ l'.getD (p.1 + d + 3) 0 = l.getD (p.1 + 3) 0)) :
    ((L.map fun p => (p.1 + d, p.2)).find? (isMSS l')).map (mssAt l') = ((L.find? (isMSS l)).map (mssAt l)).map fun r => (r.1, r.2 + d) := by
  induction L with
  | nil => rfl
  | cons p L ih =>
    have hp := h p List.mem_cons_self
    have e : isMSS l' (p.1 + d, p.2) = isMSS l p := by unfold isMSS; dsimp only; rw [hp.1]
    rw [List.map_cons, List.find?_cons, List.find?_cons, e]
    cases hm : isMSS l p with
    | true =>
      have h2 := hp.2 hm
      simp only [Option.map_some, mssAt]
      rw [h2.1, h2.2]
      congr 2
      omega
    | false => exact ih fun q hq => h q (List.mem_cons_of_mem _ hq)
end Go.Proofs.Ytejmipoolbodgaa.Pure
