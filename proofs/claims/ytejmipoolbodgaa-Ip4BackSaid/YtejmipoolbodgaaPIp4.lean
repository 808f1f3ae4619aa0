/- Plain facts of ip4.Check and ip4.Put as functions: what a packet's bytes are. -/
import Derived.Test.YtejmipoolbodgaaGip4
import Derived.Test.YtejmipoolbodgaaHIp4
import Derived.Test.YtejmipoolbodgaaHIp4H
import Derived.Test.YtejmipoolbodgaaHSum
import Derived.Test.YtejmipoolbodgaaGlaw05
namespace Go.Proofs.Ytejmipoolbodgaa.Pure
open Go.RowKit Go.Proofs.YtejmipoolbodgaaW.PrintWords Go.Proofs.YtejmipoolbodgaaW.PrintLast Go.Proofs.Ytejmipoolbodgaa.G Go.Proofs.Ytejmipoolbodgaa.Pal
theorem bl4_inj {a b : ByteArray} (h : bl a = bl b) : a = b := ByteArray.ext (Array.toList_inj.mp h)
theorem bl4_mk (l : List UInt8) : bl ⟨l.toArray⟩ = l := by simp [bl]
theorem size4_mk (l : List UInt8) : (⟨l.toArray⟩ : ByteArray).size = l.length := by simp [ByteArray.size]
theorem or_add4 (i x y : Nat) (hy : y < 2 ^ i) : 2 ^ i * x ||| y = 2 ^ i * x + y := (Nat.two_pow_add_eq_or_of_lt hy x).symm
theorem u64n_nat (x : Nat) (h : x ≤ 18446744073709551615) : u64n (x : Int) = x := by unfold u64n; rw [IntKind.wrap_u64]; omega
/-- The flags and the offset. -/
def fl (df mf : Bool) (off : Nat) : Nat := (if df then 16384 else 0) + (if mf then 8192 else 0) + off
theorem fl_lt {df mf : Bool} {off : Nat} (h : off < 8192) : fl df mf off < 32768 := by unfold fl; split <;> split <;> omega
theorem flags_is (df mf : Bool) (off : Nat) (h : off < 8192) : flags4 (off : Int) df mf = ((fl df mf off : Nat) : Int) := by
  have hb : ∃ k, k ≤ 3 ∧ Go.bits .or .i64 (bit14 df) (bit13 mf) = ((8192 * k : Nat) : Int) ∧ fl df mf off = 8192 * k + off := by
    cases df <;> cases mf
    · exact ⟨0, by decide, by decide +kernel, by simp [fl]⟩
    · exact ⟨1, by decide, by decide +kernel, by simp [fl]⟩
    · exact ⟨2, by decide, by decide +kernel, by simp [fl]⟩
    · exact ⟨3, by decide, by decide +kernel, by simp [fl]⟩
  obtain ⟨k, hk, e1, e2⟩ := hb
  unfold flags4
  rw [e1, i64_or _ _ (by omega) (by omega), e2]
  have := or_add4 13 k off h
  rw [show (2 : Nat) ^ 13 = 8192 from rfl] at this
  rw [this]
theorem first_is (n : Nat) (h : n ≤ 40) : first4 n = ((64 + (20 + n) / 4 : Nat) : Int) := by
  unfold first4
  have e := i64_or 64 ((20 + n) / 4) (by decide) (by omega)
  have := or_add4 6 1 ((20 + n) / 4) (by omega)
  rw [show (2 : Nat) ^ 6 * 1 = 64 from rfl] at this
  rw [this] at e
  exact e
/-- A header's bytes. -/
def head4 (tos id off ttl proto : Nat) (df mf : Bool) (src dst opt : ByteArray) (total check : Nat) : List UInt8 :=
  nb 1 (64 + (20 + opt.size) / 4) ++ nb 1 tos ++ nb 2 total ++ nb 2 id ++ nb 2 (fl df mf off) ++ nb 1 ttl ++ nb 1 proto ++ nb 2 check ++ (bl src ++ bl dst ++ bl opt)
theorem head4_length (tos id off ttl proto : Nat) (df mf : Bool) (src dst opt : ByteArray) (total check : Nat) : (head4 tos id off ttl proto df mf src dst opt total check).length = 12 + src.size + dst.size + opt.size := by
  unfold head4; simp only [List.length_append, nb_length, bl_length]; omega
theorem bytes4_is {tos id off ttl proto : Nat} {df mf : Bool} {src dst opt : ByteArray} {total check : Nat} (h : ok4 tos id off ttl proto src dst opt) (ht : total ≤ 65535) (hc : check ≤ 65535) :
    ip4Bytes tos id off ttl proto df mf src dst opt total check = head4 tos id off ttl proto df mf src dst opt total check := by
  obtain ⟨h1, h2, h3, h4, h5, h6, h7, h8, h9⟩ := h
  unfold ip4Bytes head4
  rw [first_is _ h8, flags_is _ _ _ (by omega), u64n_nat _ (by omega), u64n_nat _ (by omega), u64n_nat _ (by omega), u64n_nat _ (by omega), u64n_nat _ (by have := fl_lt (df := df) (mf := mf) (show off < 8192 by omega); omega), u64n_nat _ (by omega), u64n_nat _ (by omega), u64n_nat _ (by omega), bl_append, bl_append]
/-- What ip4.Put makes of a header that may be. -/
def put4 (tos id off ttl proto : Nat) (df mf : Bool) (src dst opt p : ByteArray) : List UInt8 :=
  head4 tos id off ttl proto df mf src dst opt (20 + opt.size + p.size) (csum (head4 tos id off ttl proto df mf src dst opt (20 + opt.size + p.size) 0)) ++ bl p
theorem csum4_le (l : List UInt8) : csum l ≤ 65535 := by unfold csum; omega
theorem sum4_one (t : ByteArray) (h : t.size ≤ 1099511627776) : sum_Sum.f [t] = some ((csum (bl t) : Nat) : Int) := by
  have e : cat [t] = bl t := by rw [cat_cons, cat_nil, List.append_nil]
  unfold sum_Sum.f; rw [if_pos (by rw [e, bl_length]; exact h), e]
theorem check4 {tos id off ttl proto : Int} {df mf : Bool} {src dst opt : ByteArray} (h1 : src.size ≤ 281474976710656) (h2 : dst.size ≤ 281474976710656) (h3 : opt.size ≤ 281474976710656) :
    ip4_Check.f tos id off ttl proto df mf src dst opt = some (if ok4 tos id off ttl proto src dst opt then 0 else 1) := by
  unfold ip4_Check.f; rw [if_pos ⟨by omega, by omega, by omega⟩]
theorem put4_ok {tos id off ttl proto : Nat} {df mf : Bool} {src dst opt p : ByteArray} (h : ok4 tos id off ttl proto src dst opt) (hp : 20 + opt.size + p.size ≤ 65535) :
    ip4_Put.f tos id off ttl proto df mf src dst opt p = some (⟨(put4 tos id off ttl proto df mf src dst opt p).toArray⟩, 0) := by
  have hs := h.2.2.2.2.2
  unfold ip4_Put.f
  rw [check4 (by omega) (by omega) (by omega), Option.bind_some, if_pos h, if_pos rfl, show wrap64 (wrap64 (20 + (opt.size : Int)) + (p.size : Int)) = ((20 + opt.size + p.size : Nat) : Int) by unfold wrap64; omega, if_neg (by omega)]
  unfold ip4_header.f
  rw [if_pos (by omega), Option.bind_some, show (0 : Int) = ((0 : Nat) : Int) from rfl, bytes4_is h hp (by decide)]
  have hl := head4_length tos id off ttl proto df mf src dst opt (20 + opt.size + p.size) 0
  rw [sum4_one _ (by rw [size4_mk, hl]; omega), Option.bind_some, bl4_mk, if_pos (by omega), Option.bind_some, bytes4_is h hp (csum4_le _), if_pos (by rw [size4_mk, head4_length]; omega)]
  refine congrArg some (Prod.ext (bl4_inj ?_) rfl)
  dsimp only
  rw [bl_append]
  refine Eq.trans ?_ (bl4_mk _).symm
  unfold put4
  congr 1
theorem put4_big {tos id off ttl proto : Nat} {df mf : Bool} {src dst opt p : ByteArray} (h : ok4 tos id off ttl proto src dst opt) (hp : ¬ 20 + opt.size + p.size ≤ 65535) (hq : p.size ≤ 140737488351232) :
    ip4_Put.f tos id off ttl proto df mf src dst opt p = some (⟨#[]⟩, 4) := by
  have hs := h.2.2.2.2.2
  unfold ip4_Put.f
  rw [check4 (by omega) (by omega) (by omega), Option.bind_some, if_pos h, if_pos rfl, show wrap64 (wrap64 (20 + (opt.size : Int)) + (p.size : Int)) = ((20 + opt.size + p.size : Nat) : Int) by unfold wrap64; omega, if_pos (by omega)]
theorem put4_no {tos id off ttl proto : Int} {df mf : Bool} {src dst opt p : ByteArray} (h : ¬ ok4 tos id off ttl proto src dst opt) (h1 : src.size ≤ 281474976710656) (h2 : dst.size ≤ 281474976710656) (h3 : opt.size ≤ 281474976710656) :
    ip4_Put.f tos id off ttl proto df mf src dst opt p = some (⟨#[]⟩, 1) := by
  unfold ip4_Put.f
  rw [check4 h1 h2 h3, Option.bind_some, if_neg h, if_neg (by decide)]
/-- A header that may be, in numbers that aren't negative. -/
theorem ok4_nat {tos id off ttl proto : Int} {src dst opt : ByteArray} (h : ok4 tos id off ttl proto src dst opt) : ∃ a b c d e : Nat, tos = a ∧ id = b ∧ off = c ∧ ttl = d ∧ proto = e := by
  obtain ⟨h1, h2, h3, h4, h5, _⟩ := h
  exact ⟨tos.toNat, id.toNat, off.toNat, ttl.toNat, proto.toNat, by omega, by omega, by omega, by omega, by omega⟩
theorem few05 (tos id off ttl proto : Int) (df mf : Bool) (src dst opt : ByteArray) : ∃ t, palanquinlaw05_few.f tos id off ttl proto df mf src dst opt = some t ∧ (t = true → src.size ≤ 300 ∧ dst.size ≤ 300 ∧ opt.size ≤ 300) := by
  unfold palanquinlaw05_few.f
  split
  · split
    · exact ⟨_, rfl, fun h => by have := of_decide_eq_true h; omega⟩
    · exact ⟨_, rfl, fun h => absurd h (by decide)⟩
  · exact ⟨_, rfl, fun h => absurd h (by decide)⟩
theorem awake05 : palanquinlaw05_awake.f = some true := by
  unfold palanquinlaw05_awake.f
  have s1 : (⟨#[97, 98, 99, 100]⟩ : ByteArray).size = 4 := rfl
  have s2 : (⟨#[101, 102, 103, 104]⟩ : ByteArray).size = 4 := rfl
  have s3 : (⟨#[]⟩ : ByteArray).size = 0 := rfl
  have h : ok4 ((0 : Nat) : Int) ((0 : Nat) : Int) ((0 : Nat) : Int) ((0 : Nat) : Int) ((0 : Nat) : Int) ⟨#[97, 98, 99, 100]⟩ ⟨#[101, 102, 103, 104]⟩ ⟨#[]⟩ := ⟨by omega, by omega, by omega, by omega, by omega, s1, s2, by rw [s3]; decide, by rw [s3]⟩
  have e := put4_ok (df := false) (mf := false) (p := ⟨#[]⟩) h (by rw [s3]; decide)
  rw [show (((0 : Nat) : Int)) = 0 from rfl] at e
  rw [e, Option.bind_some, if_pos (by rw [size4_mk]; unfold put4; rw [List.length_append, head4_length, bl_length, s1, s2, s3]; rfl), if_pos rfl, check4 (by rw [s3]; decide) (by rw [s3]; decide) (by rw [s3]; decide), Option.bind_some, if_neg (fun h => absurd h.2.2.2.2.2.1 (by rw [s3]; decide))]
  rfl
end Go.Proofs.Ytejmipoolbodgaa.Pure
