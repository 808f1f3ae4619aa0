/- Plain law of UdpTells: any datagram's bytes, any bytes' datagram, what may be one, or the error, are just the document's. -/
import Derived.Test.YtejmipoolbodgaaGUdpTells
import Derived.Test.YtejmipoolbodgaaPUdp
import Derived.Test.YtejmipoolbodgaaPRef01
namespace Go.Proofs.Ytejmipoolbodgaa.Pure
open Go.RowKit Go.Proofs.YtejmipoolbodgaaW.PrintWords Go.Proofs.YtejmipoolbodgaaW.PrintLast Go.Proofs.Ytejmipoolbodgaa.G Go.Proofs.Ytejmipoolbodgaa.Pal
theorem ref_in (a : Int) : palanquinref08_in.f a = some (decide (in16 a)) := by
  unfold palanquinref08_in.f
  by_cases h : a ≥ 0
  · rw [if_pos h]; congr 1
    by_cases h2 : a ≤ 65535
    · rw [decide_eq_true h2, decide_eq_true (show in16 a from ⟨h, h2⟩)]
    · rw [decide_eq_false h2, decide_eq_false (show ¬ in16 a from fun h3 => h2 h3.2)]
  · rw [if_neg h, decide_eq_false (show ¬ in16 a from fun h3 => h h3.1)]
theorem ref_check (a b : Int) (p : ByteArray) (k : Nat) : palanquinref08_Check.f (k + 1) a b p = some (udpCheck a b p.size) := by
  unfold palanquinref08_Check.f
  rw [ref_in, Option.bind_some]
  by_cases ha : in16 a
  · rw [decide_eq_true ha, if_pos rfl, ref_in, Option.bind_some]
    by_cases hb : in16 b
    · rw [decide_eq_true hb, palanquinref08_Check.j0, if_neg (by decide)]
      have e : udpCheck a b p.size = if p.size ≤ 65527 then 0 else 4 := by unfold udpCheck; rw [if_pos ⟨ha, hb⟩]
      rw [e]
      by_cases hp : (p.size : Int) > 65527
      · rw [if_pos hp, if_neg (by omega)]
      · rw [if_neg hp, if_pos (by omega)]
    · rw [decide_eq_false hb, palanquinref08_Check.j0, if_pos (by decide)]
      unfold udpCheck
      rw [if_neg (fun h => hb h.2)]
  · rw [decide_eq_false ha, if_neg (by decide), palanquinref08_Check.j0, if_pos rfl]
    unfold udpCheck
    rw [if_neg (fun h => ha h.1)]
theorem ref_two (a : Int) (h0 : 0 ≤ a) (h1 : a ≤ 18446744073709551615) (k : Nat) (hk : 2 < k) : ∃ r, palanquinref08_two.f k a = some r ∧ bl r = nb 2 (u64n a) := by
  obtain ⟨r, h2, h3⟩ := bytes_is 2 (by decide) a.toNat (by omega) k hk
  refine ⟨r, ?_, by rw [h3, u64n_of h0 h1]⟩
  unfold palanquinref08_two.f
  rw [show IntKind.u64.wrap a = ((a.toNat : Nat) : Int) by rw [IntKind.wrap_u64]; omega]
  rw [show (2 : Int) = ((2 : Nat) : Int) from rfl, h2, Option.bind_some]
theorem ref_put (a b : Int) (p : ByteArray) (n : Int) (k : Nat) (hk : 2 < k) : palanquinref08_Put.f k a b p n = udp_Put.f a b p n := by
  unfold palanquinref08_Put.f
  obtain ⟨k, rfl⟩ : ∃ j, k = j + 1 := ⟨k - 1, by omega⟩
  rw [ref_check, Option.bind_some]
  by_cases hc : udpCheck a b p.size = 0
  · rw [if_pos hc, ref_in, Option.bind_some]
    by_cases hn : in16 n
    · rw [decide_eq_true hn, if_pos rfl, put_ok hc hn]
      obtain ⟨ha, hb, hl⟩ := check_zero.mp hc
      obtain ⟨r1, e1, b1⟩ := ref_two a ha.1 (by have := ha.2; omega) (k + 1) hk
      obtain ⟨r2, e2, b2⟩ := ref_two b hb.1 (by have := hb.2; omega) (k + 1) hk
      obtain ⟨r3, e3, b3⟩ := ref_two (8 + (p.size : Int)) (by omega) (by omega) (k + 1) hk
      obtain ⟨r4, e4, b4⟩ := ref_two n hn.1 (by have := hn.2; omega) (k + 1) hk
      have s1 : r1.size = 2 := by rw [← bl_length, b1, nb_length]
      have s2 : r2.size = 2 := by rw [← bl_length, b2, nb_length]
      have s3 : r3.size = 2 := by rw [← bl_length, b3, nb_length]
      have s4 : r4.size = 2 := by rw [← bl_length, b4, nb_length]
      rw [e1, Option.bind_some, e2, Option.bind_some, if_pos (by omega), show wrap64 (8 + (p.size : Int)) = 8 + (p.size : Int) by unfold wrap64; omega, e3, Option.bind_some,
        if_pos (by rw [ByteArray.size_append]; omega), e4, Option.bind_some, if_pos (by rw [ByteArray.size_append, ByteArray.size_append]; omega), if_pos (by rw [ByteArray.size_append, ByteArray.size_append, ByteArray.size_append]; omega)]
      rw [show (r1 ++ r2 ++ r3 ++ r4 ++ p) = ⟨(udpBytes a b p n).toArray⟩ from ?_]
      show (r1 ++ r2 ++ r3 ++ r4 ++ p) = ⟨(udpBytes a b p n).toArray⟩
      apply bl_inj
      rw [bl_append, bl_append, bl_append, bl_append, b1, b2, b3, b4, bl_mk]
      rfl
    · rw [decide_eq_false hn, if_neg (by decide), put_sum hc hn]; rfl
  · rw [if_neg hc, put_len hc]; rfl
theorem ref_get (s : ByteArray) (hs : s.size ≤ 140737488351232) (k : Nat) (hk : 2 < k) : palanquinref08_Get.f k s = udp_Get.f s := by
  unfold palanquinref08_Get.f
  rw [get_is hs]
  by_cases h8 : (s.size : Int) < 8
  · rw [if_pos h8]
    have he : udpErr s = 2 := by unfold udpErr; rw [if_pos (by omega)]
    rw [if_neg (by omega), he]; rfl
  · rw [if_neg h8, if_pos (by decide), if_pos (by omega)]
    have two : ∀ i, i + 2 ≤ s.size → palanquinref01_Value.f k (s.extract i (i + 2)) = some ((be (bl (s.extract i (i + 2))) : Nat) : Int) ∧ wrap64 ((be (bl (s.extract i (i + 2))) : Nat) : Int) = ((be (bl (s.extract i (i + 2))) : Nat) : Int) := fun i hi => by
      have hsz : (s.extract i (i + 2)).size = 2 := by simp only [ByteArray.size_extract]; omega
      have hlt := be_lt_of (bl (s.extract i (i + 2))) 2 (by rw [bl_length]; omega)
      exact ⟨value_is _ (by omega) k (by omega), by unfold wrap64; omega⟩
    rw [(two 4 (by omega)).1, Option.bind_some, (two 4 (by omega)).2]
    by_cases he : be (bl (s.extract 4 6)) = s.size
    · rw [if_pos (show ((be (bl (s.extract 4 (4 + 2))) : Nat) : Int) = (s.size : Int) by rw [show be (bl (s.extract 4 (4 + 2))) = s.size from he]), if_pos (by decide), if_pos (by omega), (two 0 (by omega)).1, Option.bind_some, (two 0 (by omega)).2, if_pos (by decide), if_pos (by omega), (two 2 (by omega)).1, Option.bind_some, (two 2 (by omega)).2,
        if_pos (by omega), if_pos (by decide), (two 6 (by omega)).1, Option.bind_some, (two 6 (by omega)).2]
      have h0 : udpErr s = 0 := by unfold udpErr; rw [if_neg (by omega), if_pos he]
      rw [if_pos h0]
    · rw [if_neg (show ¬ ((be (bl (s.extract 4 (4 + 2))) : Nat) : Int) = (s.size : Int) from fun h => he (by exact_mod_cast h))]
      have h0 : udpErr s = 4 := by unfold udpErr; rw [if_neg (by omega), if_neg he]
      rw [if_neg (by omega), h0]; rfl
theorem UdpTells (a b : Int) (p : ByteArray) (n : Int) (s : ByteArray) (_ : (Lit.int .i64 a).wf = true) (_ : (Lit.int .i64 b).wf = true) (_ : p.size ≤ maxLen) (_ : (Lit.int .i64 n).wf = true) (hs : s.size ≤ 140737488351232) :
    ∃ k, palanquinlaw08_UdpTells.f k a b p n s = some true := by
  refine ⟨3 + 1, ?_⟩
  unfold palanquinlaw08_UdpTells.f
  rw [awake08, Option.bind_some, if_pos rfl]
  by_cases hp : (p.size : Int) > 70000
  · rw [if_pos hp, palanquinlaw08_UdpTells.j0, if_pos rfl]
  rw [if_neg hp]
  by_cases hq : (s.size : Int) > 70000
  · rw [decide_eq_true hq, palanquinlaw08_UdpTells.j0, if_pos rfl]
  rw [decide_eq_false hq, palanquinlaw08_UdpTells.j0, if_neg (by decide)]
  rw [ref_put a b p n 3 (by decide), ref_get s hs 3 (by decide), ref_check]
  obtain ⟨x, hx⟩ : ∃ x, udp_Put.f a b p n = some x := by
    by_cases hc : udpCheck a b p.size = 0
    · by_cases hn : in16 n
      · exact ⟨_, put_ok hc hn⟩
      · exact ⟨_, put_sum hc hn⟩
    · exact ⟨_, put_len hc⟩
  rw [hx, Option.bind_some, Option.bind_some, get_is hs, Option.bind_some, Option.bind_some, if_pos rfl, if_pos rfl]
  show (some (udpCheck a b p.size)).bind _ = _
  rw [Option.bind_some, Option.bind_some, if_pos rfl, if_pos (by simp), if_pos rfl]
  simp
end Go.Proofs.Ytejmipoolbodgaa.Pure
