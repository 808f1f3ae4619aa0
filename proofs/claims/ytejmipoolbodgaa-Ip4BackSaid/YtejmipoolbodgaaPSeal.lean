/- Plain theory: a text with its own checksum inside it, at an even place. No program in it. -/
import Derived.Test.YtejmipoolbodgaaPNum
namespace Go.Proofs.Ytejmipoolbodgaa.Pal
theorem nb2_is (c : Nat) : nb 2 c = [UInt8.ofNat (c / 256), UInt8.ofNat c] := rfl
theorem nb2_tot (c : Nat) (h : c ≤ 65535) : tot false (nb 2 c) = c := by
  rw [nb2_is]
  simp only [tot, UInt8.toNat_ofNat']
  omega
theorem nb2_odd (c : Nat) : odd (nb 2 c) = false := by unfold odd; rw [nb_length]; rfl
theorem tot_mid (A B : List UInt8) (c : Nat) (hA : odd A = false) (hc : c ≤ 65535) : tot false (A ++ nb 2 c ++ B) = tot false (A ++ nb 2 0 ++ B) + c := by
  have e : ∀ d, odd (A ++ nb 2 d) = false := fun d => by
    unfold odd at hA ⊢
    rw [List.length_append, nb_length]
    simp only [beq_eq_false_iff_ne] at hA ⊢
    omega
  have t : ∀ d, tot false (A ++ nb 2 d ++ B) = tot false A + tot false (nb 2 d) + tot false B := fun d => by
    rw [tot_append, tot_append, e d, hA]
    rfl
  rw [t, t, nb2_tot c hc, nb2_tot 0 (by decide)]
  omega
theorem csum_bound (l : List UInt8) : csum l ≤ 65535 := by unfold csum; omega
/-- With its checksum in its place it sums to 0. -/
theorem inSealed (A B : List UInt8) (hA : odd A = false) : csum (A ++ nb 2 (csum (A ++ nb 2 0 ++ B)) ++ B) = 0 := by
  unfold csum at *
  rw [tot_mid A B _ hA (by omega)]
  generalize tot false (A ++ nb 2 0 ++ B) = t
  unfold fold16
  split <;> split <;> omega
/-- What stands there, and makes it sum to 0, is its checksum, but where it is FFFF. -/
theorem outSealed (A B : List UInt8) (c : Nat) (hA : odd A = false) (hc : c < 65535) (h : csum (A ++ nb 2 c ++ B) = 0) : csum (A ++ nb 2 0 ++ B) = c := by
  unfold csum at *
  rw [tot_mid A B c hA (by omega)] at h
  generalize tot false (A ++ nb 2 0 ++ B) = t at h ⊢
  unfold fold16 at *
  split at h
  · omega
  · split
    · omega
    · omega
end Go.Proofs.Ytejmipoolbodgaa.Pal
