/- Plain law of HashTells: any text's number, any flow's text, number and port, any point's number, are just the document's. -/
import Derived.Test.YtejmipoolbodgaaGHashTells
import Derived.Test.YtejmipoolbodgaaPHash
import Derived.Test.YtejmipoolbodgaaPRef01
namespace Go.Proofs.Ytejmipoolbodgaa.Pure
open Go.RowKit Go.Proofs.YtejmipoolbodgaaW.PrintWords Go.Proofs.YtejmipoolbodgaaW.PrintLast Go.Proofs.Ytejmipoolbodgaa.G Go.Proofs.Ytejmipoolbodgaa.Pal
theorem times_is (m : Nat) (_ : m < 18446744073709551616) : palanquinref20_times.f (m : Int) = some ((m * 1099511628211 % 18446744073709551616 : Nat) : Int) := by
  unfold palanquinref20_times.f
  rw [Int.tmod_eq_emod_of_nonneg (by omega)]
  simp only [IntKind.wrap_u64]
  refine congrArg some ?_
  omega
theorem refsum_loop (s : ByteArray) (hs : s.size ≤ 1099511627776) : ∀ (n i k : Nat), i + n = s.size → n < k → palanquinref20_Sum.l0 k s ((fnv ((bl s).take i) : Nat) : Int) (i : Int) = some ((fnv (bl s) : Nat) : Int)
  | 0, i, k + 1, hi, _ => by
    rw [palanquinref20_Sum.l0, if_neg (by omega), List.take_of_length_le (by rw [bl_length]; omega)]
  | n + 1, i, k + 1, hi, hk => by
    have hlt : i < s.size := by omega
    have hlen : i < (bl s).length := by rw [bl_length]; exact hlt
    have hb := (bl s)[i].toNat_lt
    have hf := fnv_lt ((bl s).take i)
    have e : fnv ((bl s).take (i + 1)) = (fnv ((bl s).take i) ^^^ (bl s)[i].toNat) * 1099511628211 % 18446744073709551616 := by
      rw [List.take_succ_eq_append_getElem hlen, fnv_snoc]; rfl
    rw [palanquinref20_Sum.l0, if_pos (by omega), if_pos (by omega), bt_bl s i hlt, show IntKind.u64.wrap ((bl s)[i].toNat : Int) = ((bl s)[i].toNat : Int) by rw [IntKind.wrap_u64]; omega,
      u64_xor_nat _ _ hf (by omega), times_is _ (xor_lt64 _ hf), Option.bind_some, ← e, show wrap64 ((i : Int) + 1) = ((i + 1 : Nat) : Int) by unfold wrap64; omega]
    exact refsum_loop s hs n (i + 1) k (by omega) (by omega)
theorem refsum_is (s : ByteArray) (hs : s.size ≤ 1099511627776) (k : Nat) (hk : s.size < k) : palanquinref20_Sum.f k s = some ((fnv (bl s) : Nat) : Int) :=
  refsum_loop s hs s.size 0 k (by omega) hk
theorem reftext_is (p : Int) (s d : ByteArray) (a b : Int) (h : s.size + d.size ≤ 1000) (k : Nat) (hk : 2 < k) : palanquinref20_Text.f k p s d a b = some ⟨(flowText p s d a b).toArray⟩ := by
  unfold palanquinref20_Text.f
  obtain ⟨r1, e1, b1⟩ := bytes_u 1 (by decide) p k (by omega)
  obtain ⟨r2, e2, b2⟩ := bytes_u 2 (by decide) a k hk
  obtain ⟨r3, e3, b3⟩ := bytes_u 2 (by decide) b k hk
  have s1 := bytes_sized b1
  have s2 := bytes_sized b2
  have s3 := bytes_sized b3
  have t2 : (r1 ++ s).size = 1 + s.size := by rw [ByteArray.size_append]; omega
  have t3 : (r1 ++ s ++ d).size = 1 + s.size + d.size := by rw [ByteArray.size_append]; omega
  have t4 : (r1 ++ s ++ d ++ r2).size = 3 + s.size + d.size := by rw [ByteArray.size_append]; omega
  rw [show (1 : Int) = ((1 : Nat) : Int) from rfl, e1, Option.bind_some, if_pos (by omega), if_pos (by omega), show (2 : Int) = ((2 : Nat) : Int) from rfl, e2, Option.bind_some, if_pos (by omega), e3, Option.bind_some, if_pos (by omega)]
  refine congrArg some (hbl_inj ?_)
  rw [bl_append, bl_append, bl_append, bl_append, b1, b2, b3]
  refine Eq.trans ?_ (hbl_mk _).symm
  unfold flowText u64n
  rw [bl_append]
  simp only [List.append_assoc]
theorem pointText_is (a b : Int) : pointText a b = nb 4 (IntKind.u64.wrap a).toNat ++ nb 4 (IntKind.u64.wrap b).toNat := by
  have e : ∀ v : Int, nb 4 (u64n (v % 4294967296)) = nb 4 (IntKind.u64.wrap v).toNat := fun v => by
    rw [← nb_mod 4 (IntKind.u64.wrap v).toNat]
    unfold u64n
    rw [IntKind.wrap_u64, IntKind.wrap_u64]
    congr 1
    omega
  unfold pointText
  rw [e, e]
theorem refpoint_is (a b : Int) (k : Nat) (hk : 8 < k) : palanquinref20_Point.f k a b = some ((fnv (pointText a b) : Nat) : Int) := by
  unfold palanquinref20_Point.f
  obtain ⟨r1, e1, b1⟩ := bytes_u 4 (by decide) a k (by omega)
  obtain ⟨r2, e2, b2⟩ := bytes_u 4 (by decide) b k (by omega)
  have s1 := bytes_sized b1
  have s2 := bytes_sized b2
  have t : (r1 ++ r2).size = 8 := by rw [ByteArray.size_append]; omega
  rw [show (4 : Int) = ((4 : Nat) : Int) from rfl, e1, Option.bind_some, e2, Option.bind_some, if_pos (by omega), refsum_is _ (by omega) k (by omega), Option.bind_some, bl_append, b1, b2, ← pointText_is]
theorem tells_end (l : List ByteArray) (hl : (cat l).length ≤ 5000) (p : Int) (s d : ByteArray) (a b : Int) (z : s.size + d.size ≤ 1000) (x y : Int) (t : ByteArray) (ht : bl t = cat l) (k : Nat) (hk : 6000 < k) :
    palanquinlaw20_HashTells.l0 (k + 1) l x y t (l.length : Int) p s d a b = some true := by
  have st : t.size ≤ 5000 := by rw [← bl_length, ht]; exact hl
  have sz := text_size p s d a b
  have rf : palanquinref20_Flow.f k p s d a b = some ((fnv (flowText p s d a b) : Nat) : Int) := by
    unfold palanquinref20_Flow.f
    rw [reftext_is _ _ _ _ _ z k (by omega), Option.bind_some, refsum_is _ (by omega) k (by omega), Option.bind_some, hbl_mk]
  rw [palanquinlaw20_HashTells.l0, if_neg (by omega), hsum_is _ (by omega), Option.bind_some, refsum_is t (by omega) k (by omega), Option.bind_some, ht, if_pos rfl, text_is _ _ _ _ _ z, Option.bind_some, reftext_is _ _ _ _ _ z k (by omega), Option.bind_some, if_pos rfl,
    flow_is _ _ _ _ _ z, Option.bind_some, rf, Option.bind_some, if_pos rfl]
  unfold hash_Point.f palanquinref20_Port.f
  rw [Option.bind_some, refpoint_is _ _ k (by omega), Option.bind_some, if_pos rfl, port_is _ _ _ _ _ z, Option.bind_some, rf, Option.bind_some, Option.bind_some, port_num _ (fnv_lt _), beq_self_eq_true]
theorem tells_loop (l : List ByteArray) (hl : ∀ s ∈ l, s.size ≤ 140737488351232) (hn : l.length ≤ 100) (p : Int) (s d : ByteArray) (a b : Int) (z : s.size + d.size ≤ 1000) (x y : Int) : ∀ (m i k : Nat) (t : ByteArray), i + m = l.length → m + 6000 < k → t.size ≤ 5000 → bl t = cat (l.take i) →
    palanquinlaw20_HashTells.l0 (k + 1) l x y t (i : Int) p s d a b = some true
  | 0, i, k, t, hi, hk, ht, hb => by
    obtain rfl : i = l.length := by omega
    rw [List.take_length] at hb
    exact tells_end l (by rw [← hb, bl_length]; exact ht) p s d a b z x y t hb k (by omega)
  | m + 1, i, k, t, hi, hk, ht, hb => by
    have hlt : i < l.length := by omega
    have hr : rdOf ByteArray.empty l (i : Int) = l[i] := by simp [rdOf, List.getD_eq_getElem?_getD, List.getElem?_eq_getElem hlt]
    have hp := hl l[i] (List.getElem_mem hlt)
    rw [palanquinlaw20_HashTells.l0, if_pos (by omega), if_pos (by omega), hr, if_pos (by omega)]
    by_cases hc : ((t ++ l[i]).size : Int) > 5000
    · rw [if_pos hc]
    rw [if_neg hc, show wrap64 ((i : Int) + 1) = ((i + 1 : Nat) : Int) by unfold wrap64; omega]
    obtain ⟨k, rfl⟩ : ∃ j, k = j + 1 := ⟨k - 1, by omega⟩
    refine tells_loop l hl hn p s d a b z x y m (i + 1) k (t ++ l[i]) (by omega) (by omega) (by omega) ?_
    rw [bl_append, hb, List.take_succ_eq_append_getElem hlt]
    simp only [cat, List.map_append, List.flatten_append, List.map_cons, List.map_nil, List.flatten_cons, List.flatten_nil, List.append_nil]
theorem HashTells (l : List ByteArray) (p : Int) (s d : ByteArray) (a b : Int) (x y : Int) (hl : ∀ s ∈ l, s.size ≤ 140737488351232) (_ : (Lit.int .i64 p).wf = true) (_ : s.size ≤ maxLen) (_ : d.size ≤ maxLen) (_ : (Lit.int .i64 a).wf = true) (_ : (Lit.int .i64 b).wf = true) (_ : (Lit.int .i64 x).wf = true) (_ : (Lit.int .i64 y).wf = true) :
    ∃ k, palanquinlaw20_HashTells.f k l p s d a b x y = some true := by
  refine ⟨7000 + 1 + 1, ?_⟩
  unfold palanquinlaw20_HashTells.f
  rw [awake20, Option.bind_some, if_pos rfl]
  have skip : palanquinlaw20_HashTells.j0 (7000 + 1 + 1) l x y true p s d a b = some true := by rw [palanquinlaw20_HashTells.j0, if_pos rfl]
  by_cases h1 : (l.length : Int) > 100
  · rw [if_pos h1]; exact skip
  rw [if_neg h1]
  by_cases h2 : (s.size : Int) > 300
  · rw [if_pos h2]; exact skip
  rw [if_neg h2]
  by_cases h3 : (d.size : Int) > 300
  · rw [decide_eq_true h3]; exact skip
  rw [decide_eq_false h3, palanquinlaw20_HashTells.j0, if_neg (by decide)]
  exact tells_loop l hl (by omega) p s d a b (by omega) x y l.length 0 7000 ⟨#[]⟩ (by omega) (by omega) (by decide) rfl
end Go.Proofs.Ytejmipoolbodgaa.Pure
