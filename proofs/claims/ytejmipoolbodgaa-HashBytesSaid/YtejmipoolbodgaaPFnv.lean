/- Plain theory of FNV-1a. No program in it. -/
import Derived.Test.YtejmipoolbodgaaPNum
namespace Go.Proofs.Ytejmipoolbodgaa.Pal
def fnvStep (n : Nat) (b : UInt8) : Nat := (n ^^^ b.toNat) * 1099511628211 % 18446744073709551616
def fnvOn (n : Nat) (l : List UInt8) : Nat := l.foldl fnvStep n
def fnv (l : List UInt8) : Nat := fnvOn 14695981039346656037 l
theorem fnvStep_lt (n : Nat) (b : UInt8) : fnvStep n b < 18446744073709551616 := Nat.mod_lt _ (by decide)
theorem fnvOn_lt (l : List UInt8) : ∀ n, n < 18446744073709551616 → fnvOn n l < 18446744073709551616 := by
  induction l with
  | nil => intro n h; exact h
  | cons b l ih => intro n h; exact ih _ (fnvStep_lt n b)
theorem fnv_lt (l : List UInt8) : fnv l < 18446744073709551616 := fnvOn_lt l _ (by decide)
theorem fnvOn_append (a b : List UInt8) (n : Nat) : fnvOn n (a ++ b) = fnvOn (fnvOn n a) b := by simp [fnvOn]
theorem fnv_append (a b : List UInt8) : fnv (a ++ b) = fnvOn (fnv a) b := fnvOn_append a b _
theorem fnv_snoc (a : List UInt8) (b : UInt8) : fnv (a ++ [b]) = fnvStep (fnv a) b := by rw [fnv_append, fnvOn, List.foldl_cons, List.foldl_nil]
theorem fnv_bits (n : Nat) (b : UInt8) (hn : n < 18446744073709551616) : IntKind.u64.wrap (Go.bits .xor .u64 (n : Int) (b.toNat : Int) * 1099511628211) = (fnvStep n b : Nat) := by
  have hb := b.toNat_lt
  rw [u64_xor_nat n b.toNat hn (by omega), IntKind.wrap_u64, fnvStep]
  simp
theorem mulp_inj {x y : Nat} (hx : x < 18446744073709551616) (hy : y < 18446744073709551616) (h : x * 1099511628211 % 18446744073709551616 = y * 1099511628211 % 18446744073709551616) : x = y := by
  have e : ∀ z, z < 18446744073709551616 → z * 1099511628211 % 18446744073709551616 * 14886173955864302971 % 18446744073709551616 = z := fun z hz => by
    rw [Nat.mod_mul_mod, Nat.mul_assoc, ← Nat.mul_mod_mod, show 1099511628211 * 14886173955864302971 % 18446744073709551616 = 1 from by decide, Nat.mul_one, Nat.mod_eq_of_lt hz]
  rw [← e x hx, h, e y hy]
theorem xor_lt64 {n : Nat} (b : UInt8) (hn : n < 18446744073709551616) : n ^^^ b.toNat < 18446744073709551616 := Nat.xor_lt_two_pow (n := 64) hn (by have := b.toNat_lt; omega)
theorem xor_cancel_r {a b c : Nat} (h : a ^^^ c = b ^^^ c) : a = b := by
  have := congrArg (· ^^^ c) h
  simpa [Nat.xor_assoc] using this
theorem fnvStep_inj {m n : Nat} (b : UInt8) (hm : m < 18446744073709551616) (hn : n < 18446744073709551616) (h : fnvStep m b = fnvStep n b) : m = n :=
  xor_cancel_r (mulp_inj (xor_lt64 b hm) (xor_lt64 b hn) h)
theorem fnvOn_inj : ∀ (l : List UInt8) {m n : Nat}, m < 18446744073709551616 → n < 18446744073709551616 → fnvOn m l = fnvOn n l → m = n
  | [], _, _, _, _, h => h
  | b :: l, _, _, hm, hn, h => fnvStep_inj b hm hn (fnvOn_inj l (fnvStep_lt _ b) (fnvStep_lt _ b) h)
theorem fnv_byte {n : Nat} {x y : UInt8} (hn : n < 18446744073709551616) (h : fnvStep n x = fnvStep n y) : x = y := by
  have := mulp_inj (xor_lt64 x hn) (xor_lt64 y hn) h
  rw [Nat.xor_comm n, Nat.xor_comm n] at this
  exact UInt8.toNat_inj.1 (xor_cancel_r this)
/-- Two texts that differ in one byte have unlike numbers. -/
theorem fnv_one (a b : List UInt8) {x y : UInt8} (h : x ≠ y) : fnv (a ++ x :: b) ≠ fnv (a ++ y :: b) := fun e => by
  rw [fnv_append, fnv_append] at e
  exact h (fnv_byte (fnv_lt a) (fnvOn_inj b (fnvStep_lt _ x) (fnvStep_lt _ y) e))
end Go.Proofs.Ytejmipoolbodgaa.Pal
