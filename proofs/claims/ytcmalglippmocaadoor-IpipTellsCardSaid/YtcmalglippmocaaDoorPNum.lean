/- Plain theory of numbers by bytes, the highest first. No program in it. -/
import Derived.Test.YtcmalglippmocaaDoorPBits
import Derived.Test.YtcmalglippmocaaDoorPSum
namespace Go.Proofs.YtcmalglippmocaaDoor.Pal
/-- The number of bytes, the highest first. -/
def be (l : List UInt8) : Nat := l.foldl (fun a b => a * 256 + b.toNat) 0
theorem be_snoc (l : List UInt8) (b : UInt8) : be (l ++ [b]) = be l * 256 + b.toNat := by simp [be]
theorem be_foldl (l : List UInt8) : ∀ a, l.foldl (fun a b => a * 256 + b.toNat) a = a * 256 ^ l.length + be l := by
  induction l with
  | nil => intro a; simp [be]
  | cons x l ih =>
    intro a
    rw [List.foldl_cons, ih]
    have e : be (x :: l) = x.toNat * 256 ^ l.length + be l := by
      unfold be
      rw [List.foldl_cons, ih]
      simp [be]
    rw [e, List.length_cons, Nat.pow_succ, Nat.add_mul, Nat.mul_assoc, Nat.mul_comm 256, Nat.add_assoc]
theorem be_cons (x : UInt8) (l : List UInt8) : be (x :: l) = x.toNat * 256 ^ l.length + be l := by
  unfold be
  rw [List.foldl_cons, be_foldl]
  simp [be]
theorem be_append (a b : List UInt8) : be (a ++ b) = be a * 256 ^ b.length + be b := by
  unfold be
  rw [List.foldl_append, be_foldl]
  rfl
theorem be_lt (l : List UInt8) : be l < 256 ^ l.length := by
  induction l with
  | nil => simp [be]
  | cons x l ih =>
    rw [be_cons, List.length_cons, Nat.pow_succ]
    have hx := x.toNat_lt
    have : x.toNat * 256 ^ l.length ≤ 255 * 256 ^ l.length := Nat.mul_le_mul_right _ (by omega)
    omega
theorem be_lt_of (l : List UInt8) (n : Nat) (h : l.length ≤ n) : be l < 256 ^ n := Nat.lt_of_lt_of_le (be_lt l) (Nat.pow_le_pow_right (by decide) h)
/-- A number by so many bytes, the highest first. -/
def nb : Nat → Nat → List UInt8
  | 0, _ => []
  | n + 1, x => nb n (x / 256) ++ [UInt8.ofNat x]
theorem nb_length (n : Nat) : ∀ x, (nb n x).length = n := by
  induction n with
  | zero => intro x; rfl
  | succ n ih => intro x; simp [nb, ih]
theorem be_nb (n : Nat) : ∀ x, be (nb n x) = x % 256 ^ n := by
  induction n with
  | zero => intro x; simp [nb, be, Nat.mod_one]
  | succ n ih =>
    intro x
    rw [nb, be_snoc, ih, Nat.pow_succ]
    have h1 : (UInt8.ofNat x).toNat = x % 256 := by simp
    rw [h1, Nat.mul_comm (256 ^ n) 256, Nat.mod_mul]
    omega
theorem nb_be (l : List UInt8) : nb l.length (be l) = l := by
  rcases List.eq_nil_or_concat l with rfl | ⟨a, b, rfl⟩
  · rfl
  · have ih := nb_be a
    rw [List.concat_eq_append, List.length_append, List.length_singleton, nb, be_snoc]
    have hb := b.toNat_lt
    have h1 : (be a * 256 + b.toNat) / 256 = be a := by omega
    have h2 : UInt8.ofNat (be a * 256 + b.toNat) = b := by
      apply UInt8.toNat_inj.1
      simp
    rw [h1, h2, ih]
termination_by l.length
decreasing_by simp_all
theorem nb_mod (n : Nat) : ∀ x, nb n (x % 256 ^ n) = nb n x := by
  intro x
  have h := nb_be (nb n x)
  rw [nb_length, be_nb] at h
  exact h
theorem nb_front (n : Nat) : ∀ x, nb (n + 1) x = UInt8.ofNat (x / 256 ^ n) :: nb n x := by
  induction n with
  | zero => intro x; simp [nb]
  | succ n ih =>
    intro x
    have e : x / 256 ^ (n + 1) = x / 256 / 256 ^ n := by rw [Nat.pow_succ, Nat.mul_comm, Nat.div_div_eq_div_mul]
    rw [nb, ih, e]
    rfl
theorem nb_drop (n : Nat) : ∀ j, j ≤ n → ∀ x, (nb n x).drop j = nb (n - j) x := by
  induction n with
  | zero => intro j hj x; obtain rfl : j = 0 := by omega
            simp
  | succ n ih =>
    intro j hj x
    cases j with
    | zero => simp
    | succ j => rw [nb_front, List.drop_succ_cons, ih j (by omega), Nat.add_sub_add_right]
theorem nb_take_succ (n j x : Nat) (h : j < n) : (nb n x).take (j + 1) = (nb n x).take j ++ [UInt8.ofNat (x / 256 ^ (n - 1 - j))] := by
  rw [List.take_succ_eq_append_getElem (by rw [nb_length]; exact h)]
  congr 2
  have e := nb_drop n j (by omega) x
  rw [List.drop_eq_getElem_cons (by rw [nb_length]; exact h), show n - j = (n - 1 - j) + 1 from by omega, nb_front] at e
  exact (List.cons.inj e).1
end Go.Proofs.YtcmalglippmocaaDoor.Pal
