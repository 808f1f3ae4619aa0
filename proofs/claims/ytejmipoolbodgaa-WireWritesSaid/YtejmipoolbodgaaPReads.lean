/- Plain: what calls tell of a text: one call, and calls one behind the other. No program in it. -/
import Derived.Test.YtejmipoolbodgaaHWireR
namespace Go.Proofs.Ytejmipoolbodgaa.G
open Go.RowKit Go.Proofs.YtejmipoolbodgaaW.PrintWords Go.Proofs.YtejmipoolbodgaaW.PrintLast Go.Proofs.YtejmipoolbodgaaW.PrintMore Go.Proofs.Ytejmipoolbodgaa.Pal
set_option linter.unusedVariables false
/-- How many bytes a number of a kind has. -/
def kSize (k : Int) : Nat := if k = 0 then 1 else if k = 1 then 2 else if k = 2 then 4 else 8
/-- What one call does behind n bytes: what it tells and how much is read then, or with what it stops. -/
inductive Told where
  | ok (a : S90) (m : Nat)
  | stop (e : Int)
def numT (s : ByteArray) (n z : Nat) : Told := if n + z ≤ s.size then .ok ⟨(be (bl (s.extract n (n + z))) : Nat), ⟨#[]⟩, ((n + z : Nat) : Int), (s.size : Int) - ((n + z : Nat) : Int)⟩ (n + z) else .stop 2
def told (s : ByteArray) (n : Nat) (c : S87) : Told :=
  if c.f0 = 0 then numT s n 1
  else if c.f0 = 1 then numT s n 2
  else if c.f0 = 2 then numT s n 4
  else if c.f0 = 3 then numT s n 8
  else if c.f0 = 4 then
    if 0 ≤ c.f1 ∧ (n : Int) + c.f1 ≤ s.size then .ok ⟨0, s.extract n (n + c.f1.toNat), ((n + c.f1.toNat : Nat) : Int), (s.size : Int) - ((n + c.f1.toNat : Nat) : Int)⟩ (n + c.f1.toNat) else .stop 2
  else if c.f0 = 5 then .ok ⟨0, s.extract n s.size, (s.size : Int), (s.size : Int) - ((s.size : Nat) : Int)⟩ s.size
  else if Int.tmod c.f2 2 = 0 then .ok ⟨0, ⟨#[]⟩, (n : Int), (s.size : Int) - (n : Int)⟩ n else .stop c.f1
def reads (s : ByteArray) : Nat → List S87 → List S90 × Int
  | _, [] => ([], 0)
  | n, c :: l => match told s n c with
    | .ok a m => (a :: (reads s m l).1, (reads s m l).2)
    | .stop e => ([], e)
/-- No call stops with OK. -/
def noOK (l : List S87) : Prop := ∀ c ∈ l, c.f0 < 0 ∨ 5 < c.f0 → c.f1 ≠ 0
instance (l : List S87) : Decidable (noOK l) := by unfold noOK; infer_instance
theorem reads_ok {s : ByteArray} {n m : Nat} {c : S87} {l : List S87} {a : S90} (h : told s n c = .ok a m) : reads s n (c :: l) = (a :: (reads s m l).1, (reads s m l).2) := by simp only [reads, h]
theorem reads_stop {s : ByteArray} {n : Nat} {c : S87} {l : List S87} {e : Int} (h : told s n c = .stop e) : reads s n (c :: l) = ([], e) := by simp only [reads, h]
/-- What is told of the calls from j on, so much being told already. -/
def RdRest (s : ByteArray) (n : Nat) (l : List S87) (out outs : List S90) (e : Int) : Prop := (reads s n l).2 = e ∧ out ++ (reads s n l).1 = outs
theorem RdRest.step {s : ByteArray} {n m j : Nat} {l : List S87} {out outs : List S90} {e : Int} {a : S90} (h : RdRest s n (l.drop j) out outs e) (hj : j < l.length) (ha : told s n (rd_T87 l (j : Int)) = .ok a m) : RdRest s m (l.drop (j + 1)) (out ++ [a]) outs e := by
  have hd : l.drop j = rd_T87 l (j : Int) :: l.drop (j + 1) := by
    rw [List.drop_eq_getElem_cons hj]
    simp [rd_T87, List.getD_eq_getElem?_getD, hj]
  rw [hd] at h
  unfold RdRest at h ⊢
  rw [reads_ok ha] at h
  exact ⟨h.1, by rw [List.append_assoc]; exact h.2⟩
theorem RdRest.stop {s : ByteArray} {n j : Nat} {l : List S87} {out outs : List S90} {e e' : Int} (h : RdRest s n (l.drop j) out outs e) (hj : j < l.length) (ha : told s n (rd_T87 l (j : Int)) = .stop e') : e = e' ∧ outs = out := by
  have hd : l.drop j = rd_T87 l (j : Int) :: l.drop (j + 1) := by
    rw [List.drop_eq_getElem_cons hj]
    simp [rd_T87, List.getD_eq_getElem?_getD, hj]
  rw [hd] at h
  unfold RdRest at h
  rw [reads_stop ha] at h
  exact ⟨h.1.symm, by rw [← h.2]; simp⟩
theorem RdRest.done {s : ByteArray} {n j : Nat} {l : List S87} {out outs : List S90} {e : Int} (h : RdRest s n (l.drop j) out outs e) (hj : l.length ≤ j) : e = 0 ∧ outs = out := by
  rw [List.drop_eq_nil_of_le hj] at h
  unfold RdRest reads at h
  exact ⟨h.1.symm, by rw [← h.2]; simp⟩
theorem told_at {s : ByteArray} {n m : Nat} {c : S87} {a : S90} (hn : n ≤ s.size) (h : told s n c = .ok a m) : a.f2 = (m : Int) ∧ a.f3 = (s.size : Int) - (m : Int) ∧ m ≤ s.size := by
  have num : ∀ z, numT s n z = .ok a m → a.f2 = (m : Int) ∧ a.f3 = (s.size : Int) - (m : Int) ∧ m ≤ s.size := by
    intro z h
    unfold numT at h
    split at h
    · injection h with h1 h2
      subst h1 h2
      exact ⟨rfl, rfl, by assumption⟩
    · cases h
  unfold told at h
  repeat' split at h
  all_goals first
    | exact num _ h
    | (cases h; done)
    | (injection h with h1 h2; subst h1 h2; exact ⟨rfl, rfl, by omega⟩)
theorem told_0 {s : ByteArray} {n : Nat} {c : S87} (h : c.f0 = 0) : told s n c = numT s n 1 := by simp [told, h]
theorem told_1 {s : ByteArray} {n : Nat} {c : S87} (h : c.f0 = 1) : told s n c = numT s n 2 := by simp [told, h]
theorem told_2 {s : ByteArray} {n : Nat} {c : S87} (h : c.f0 = 2) : told s n c = numT s n 4 := by simp [told, h]
theorem told_3 {s : ByteArray} {n : Nat} {c : S87} (h : c.f0 = 3) : told s n c = numT s n 8 := by simp [told, h]
theorem told_4 {s : ByteArray} {n : Nat} {c : S87} (h : c.f0 = 4) (i : Nat) (hi : c.f1 = (i : Int)) (hz : n + i ≤ s.size) : told s n c = .ok ⟨0, s.extract n (n + i), ((n + i : Nat) : Int), (s.size : Int) - ((n + i : Nat) : Int)⟩ (n + i) := by
  unfold told
  rw [if_neg (by omega), if_neg (by omega), if_neg (by omega), if_neg (by omega), if_pos h, hi, Int.toNat_natCast, if_pos (by omega)]
theorem told_4n {s : ByteArray} {n : Nat} {c : S87} (h : c.f0 = 4) (hz : c.f1 < 0 ∨ (s.size : Int) < n + c.f1) : told s n c = .stop 2 := by
  unfold told
  rw [if_neg (by omega), if_neg (by omega), if_neg (by omega), if_neg (by omega), if_pos h, if_neg (by omega)]
theorem told_5 {s : ByteArray} {n : Nat} {c : S87} (h : c.f0 = 5) : told s n c = .ok ⟨0, s.extract n s.size, (s.size : Int), (s.size : Int) - ((s.size : Nat) : Int)⟩ s.size := by
  unfold told
  rw [if_neg (by omega), if_neg (by omega), if_neg (by omega), if_neg (by omega), if_neg (by omega), if_pos h]
theorem told_6 {s : ByteArray} {n : Nat} {c : S87} (h : c.f0 < 0 ∨ 5 < c.f0) (h2 : Int.tmod c.f2 2 = 0) : told s n c = .ok ⟨0, ⟨#[]⟩, (n : Int), (s.size : Int) - (n : Int)⟩ n := by
  unfold told
  rw [if_neg (by omega), if_neg (by omega), if_neg (by omega), if_neg (by omega), if_neg (by omega), if_neg (by omega), if_pos h2]
theorem told_6n {s : ByteArray} {n : Nat} {c : S87} (h : c.f0 < 0 ∨ 5 < c.f0) (h2 : Int.tmod c.f2 2 ≠ 0) : told s n c = .stop c.f1 := by
  unfold told
  rw [if_neg (by omega), if_neg (by omega), if_neg (by omega), if_neg (by omega), if_neg (by omega), if_neg (by omega), if_neg h2]
theorem numT_ok {s : ByteArray} {n z : Nat} (h : n + z ≤ s.size) : numT s n z = .ok ⟨(be (bl (s.extract n (n + z))) : Nat), ⟨#[]⟩, ((n + z : Nat) : Int), (s.size : Int) - ((n + z : Nat) : Int)⟩ (n + z) := if_pos h
theorem numT_no {s : ByteArray} {n z : Nat} (h : s.size < n + z) : numT s n z = .stop 2 := if_neg (by omega)
theorem noOK_at {l : List S87} (h : noOK l) {j : Nat} (hj : j < l.length) (hk : (rd_T87 l (j : Int)).f0 < 0 ∨ 5 < (rd_T87 l (j : Int)).f0) : (rd_T87 l (j : Int)).f1 ≠ 0 :=
  h _ (by simp [rd_T87, List.getD_eq_getElem?_getD, hj]) hk
end Go.Proofs.Ytejmipoolbodgaa.G
