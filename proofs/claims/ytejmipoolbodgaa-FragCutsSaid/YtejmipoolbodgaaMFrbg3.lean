/- Texts of this session, joined: each is a section. -/
import Derived.Test.YtejmipoolbodgaaMFrbg2
import Derived.Test.YtejmipoolbodgaaMFrbg1
import Derived.RangeFuncNested
import Derived.RangeFuncBound
import Derived.RangeFuncCalls
import Derived.RangeFuncLeaves
import Derived.RangeFuncFrom
import Derived.Shelf.Abstract
import Derived.Shelf.RegionOpen
import Derived.WalkKit
import Derived.OwnWalkIn
import Derived.TacticsInMore
import Derived.LoopNIn
import Derived.LoopIn
import Derived.Laws.Strings2
import Derived.Laws.Strings
import Derived.Recover
import Derived.Defers
import Derived.WideLaws
import Derived.Lib.Hide
import Derived.WalkLawsBesides
import Derived.RegionTactic
import Derived.Deep.RegionWith
import Derived.StillTailTactics
import Derived.RangeFuncBox
import Derived.RangeFuncWrites
import Derived.Maps.AppendAt
set_option linter.unusedVariables false
set_option linter.unusedSimpArgs false
section
/- Plain facts of ip4.Put and ip4.Get as functions: what is put is got. -/
namespace Go.Proofs.Ytejmipoolbodgaa.Pure
open Go.RowKit Go.Proofs.YtejmipoolbodgaaW.PrintWords Go.Proofs.YtejmipoolbodgaaW.PrintLast Go.Proofs.Ytejmipoolbodgaa.G Go.Proofs.Ytejmipoolbodgaa.Pal
theorem cut4 (s : ByteArray) (n m : Nat) : bl (s.extract n m) = ((bl s).take m).drop n := by simp [bl, ByteArray.data_extract, List.drop_take]
theorem seg4 {x : ByteArray} (A B C : List UInt8) {i j : Nat} (hx : bl x = A ++ B ++ C) (hA : A.length = i) (hB : i + B.length = j) : bl (x.extract i j) = B := by
  rw [cut4, hx, List.take_left' (by rw [List.length_append]; omega), List.drop_left' hA]
/-- A packet's bytes, part by part. -/
theorem parts4 {x src dst opt p : ByteArray} {a b c d e f g h : List UInt8} (hx : bl x = a ++ b ++ c ++ d ++ e ++ f ++ g ++ h ++ (bl src ++ bl dst ++ bl opt) ++ bl p) (ha : a.length = 1) (hb : b.length = 1) (hc : c.length = 2) (hd : d.length = 2) (he : e.length = 2) (hf : f.length = 1) (hg : g.length = 1) (hh : h.length = 2) (hs : src.size = 4) (ht : dst.size = 4) :
    x.size = 20 + opt.size + p.size ∧ bl (x.extract 0 1) = a ∧ bl (x.extract 1 2) = b ∧ bl (x.extract 2 4) = c ∧ bl (x.extract 4 6) = d ∧ bl (x.extract 6 8) = e ∧ bl (x.extract 8 9) = f ∧ bl (x.extract 9 10) = g ∧ bl (x.extract 10 12) = h ∧ x.extract 12 16 = src ∧ x.extract 16 20 = dst ∧ x.extract 20 (20 + opt.size) = opt ∧ x.extract (20 + opt.size) x.size = p ∧ bl (x.extract 0 (20 + opt.size)) = a ++ b ++ c ++ d ++ e ++ f ++ g ++ h ++ (bl src ++ bl dst ++ bl opt) := by
  have ls := bl_length src
  have lt := bl_length dst
  have lo := bl_length opt
  have lp := bl_length p
  have hsz : x.size = 20 + opt.size + p.size := by rw [← bl_length, hx]; simp only [List.length_append]; omega
  refine ⟨hsz, seg4 [] a (b ++ c ++ d ++ e ++ f ++ g ++ h ++ (bl src ++ bl dst ++ bl opt) ++ bl p) (by rw [hx]; simp only [List.append_assoc, List.nil_append]) rfl (by omega),
    seg4 a b (c ++ d ++ e ++ f ++ g ++ h ++ (bl src ++ bl dst ++ bl opt) ++ bl p) (by rw [hx]; simp only [List.append_assoc]) ha (by omega),
    seg4 (a ++ b) c (d ++ e ++ f ++ g ++ h ++ (bl src ++ bl dst ++ bl opt) ++ bl p) (by rw [hx]; simp only [List.append_assoc]) (by simp only [List.length_append]; omega) (by omega),
    seg4 (a ++ b ++ c) d (e ++ f ++ g ++ h ++ (bl src ++ bl dst ++ bl opt) ++ bl p) (by rw [hx]; simp only [List.append_assoc]) (by simp only [List.length_append]; omega) (by omega),
    seg4 (a ++ b ++ c ++ d) e (f ++ g ++ h ++ (bl src ++ bl dst ++ bl opt) ++ bl p) (by rw [hx]; simp only [List.append_assoc]) (by simp only [List.length_append]; omega) (by omega),
    seg4 (a ++ b ++ c ++ d ++ e) f (g ++ h ++ (bl src ++ bl dst ++ bl opt) ++ bl p) (by rw [hx]; simp only [List.append_assoc]) (by simp only [List.length_append]; omega) (by omega),
    seg4 (a ++ b ++ c ++ d ++ e ++ f) g (h ++ (bl src ++ bl dst ++ bl opt) ++ bl p) (by rw [hx]; simp only [List.append_assoc]) (by simp only [List.length_append]; omega) (by omega),
    seg4 (a ++ b ++ c ++ d ++ e ++ f ++ g) h ((bl src ++ bl dst ++ bl opt) ++ bl p) (by rw [hx]; simp only [List.append_assoc]) (by simp only [List.length_append]; omega) (by omega),
    bl4_inj (seg4 (a ++ b ++ c ++ d ++ e ++ f ++ g ++ h) (bl src) (bl dst ++ bl opt ++ bl p) (by rw [hx]; simp only [List.append_assoc]) (by simp only [List.length_append]; omega) (by omega)),
    bl4_inj (seg4 (a ++ b ++ c ++ d ++ e ++ f ++ g ++ h ++ bl src) (bl dst) (bl opt ++ bl p) (by rw [hx]; simp only [List.append_assoc]) (by simp only [List.length_append]; omega) (by omega)),
    bl4_inj (seg4 (a ++ b ++ c ++ d ++ e ++ f ++ g ++ h ++ bl src ++ bl dst) (bl opt) (bl p) (by rw [hx]; simp only [List.append_assoc]) (by simp only [List.length_append]; omega) (by omega)),
    bl4_inj (seg4 (a ++ b ++ c ++ d ++ e ++ f ++ g ++ h ++ bl src ++ bl dst ++ bl opt) (bl p) [] (by rw [hx]; simp only [List.append_assoc, List.append_nil]) (by simp only [List.length_append]; omega) (by omega)),
    seg4 [] (a ++ b ++ c ++ d ++ e ++ f ++ g ++ h ++ (bl src ++ bl dst ++ bl opt)) (bl p) (by rw [hx]; simp only [List.nil_append]) rfl (by simp only [List.length_append]; omega)⟩
theorem one4 (v : Nat) (h : v < 256) : be (nb 1 v) = v := by rw [be_nb]; omega
theorem two4 (v : Nat) (h : v < 65536) : be (nb 2 v) = v := by rw [be_nb]; omega
theorem head4_mid (tos id off ttl proto : Nat) (df mf : Bool) (src dst opt : ByteArray) (T C : Nat) :
    head4 tos id off ttl proto df mf src dst opt T C = (nb 1 (64 + (20 + opt.size) / 4) ++ nb 1 tos ++ nb 2 T ++ nb 2 id ++ nb 2 (fl df mf off) ++ nb 1 ttl ++ nb 1 proto) ++ nb 2 C ++ (bl src ++ bl dst ++ bl opt) := rfl
theorem head4_seal (tos id off ttl proto : Nat) (df mf : Bool) (src dst opt : ByteArray) (T : Nat) : csum (head4 tos id off ttl proto df mf src dst opt T (csum (head4 tos id off ttl proto df mf src dst opt T 0))) = 0 := by
  rw [head4_mid, head4_mid]
  refine inSealed _ _ ?_
  unfold odd
  simp only [List.length_append, nb_length]
  rfl
theorem fl_parts (df mf : Bool) (off : Nat) (h : off < 8192) : fl df mf off % 8192 = off ∧ (fl df mf off / 16384 % 2 == 1) = df ∧ (fl df mf off / 8192 % 2 == 1) = mf ∧ fl df mf off / 32768 = 0 := by
  have b1 : ∀ x : Nat, x = 1 → (x == 1) = true := fun x hx => by rw [hx]; rfl
  have b0 : ∀ x : Nat, x = 0 → (x == 1) = false := fun x hx => by rw [hx]; rfl
  cases df <;> cases mf <;> simp only [fl, Bool.false_eq_true, if_false, if_true]
  · exact ⟨by omega, b0 _ (by omega), b0 _ (by omega), by omega⟩
  · exact ⟨by omega, b0 _ (by omega), b1 _ (by omega), by omega⟩
  · exact ⟨by omega, b1 _ (by omega), b0 _ (by omega), by omega⟩
  · exact ⟨by omega, b1 _ (by omega), b1 _ (by omega), by omega⟩
/-- What is put is got. -/
theorem get_put4 {tos id off ttl proto : Nat} {df mf : Bool} {src dst opt p x : ByteArray} (h : ok4 tos id off ttl proto src dst opt) (hp : 20 + opt.size + p.size ≤ 65535) (hx : bl x = put4 tos id off ttl proto df mf src dst opt p) :
    ip4_Get.f x = some ((tos : Int), (id : Int), (off : Int), (ttl : Int), (proto : Int), df, mf, src, dst, opt, p, 0) := by
  obtain ⟨h1, h2, h3, h4, h5, h6, h7, h8, h9⟩ := h
  have hseal := head4_seal tos id off ttl proto df mf src dst opt (20 + opt.size + p.size)
  have hC := csum_bound (head4 tos id off ttl proto df mf src dst opt (20 + opt.size + p.size) 0)
  unfold put4 at hx
  generalize csum (head4 tos id off ttl proto df mf src dst opt (20 + opt.size + p.size) 0) = C at hseal hC hx
  have hx' := hx
  unfold head4 at hx' hseal
  obtain ⟨z, q1, q2, q3, q4, q5, q6, q7, q8, q9, q10, q11, q12, q13⟩ := parts4 hx' (nb_length _ _) (nb_length _ _) (nb_length _ _) (nb_length _ _) (nb_length _ _) (nb_length _ _) (nb_length _ _) (nb_length _ _) h6 h7
  obtain ⟨f1, f2, f3, f4⟩ := fl_parts df mf off (by omega)
  have hb : be (bl (x.extract 0 1)) = 64 + (20 + opt.size) / 4 := by rw [q1]; exact one4 _ (by omega)
  have hh : hl4 x = 20 + opt.size := by unfold hl4; rw [hb]; omega
  have hF : be (bl (x.extract 6 8)) = fl df mf off := by rw [q5]; exact two4 _ (by have := fl_lt (df := df) (mf := mf) (show off < 8192 by omega); omega)
  have hT : be (bl (x.extract 2 4)) = x.size := by rw [q3, z]; exact two4 _ (by omega)
  have he : ip4Err x = 0 := by
    unfold ip4Err
    rw [if_neg (by omega), if_pos (by rw [hb]; omega), if_pos ⟨by omega, by omega, hT⟩, hh, q13, hseal, if_pos rfl, hF, if_pos f4]
  unfold ip4_Get.f
  rw [if_pos (by omega), if_pos he, hF, f1, f2, f3, hh, q9, q10, q11, q12, q2, q4, q6, q7, one4 tos (by omega), two4 id (by omega), one4 ttl (by omega), one4 proto (by omega)]
theorem fl_back (F : Nat) (h : F < 32768) : fl (F / 16384 % 2 == 1) (F / 8192 % 2 == 1) (F % 8192) = F := by
  have h1 : F / 16384 % 2 = 0 ∨ F / 16384 % 2 = 1 := by omega
  have h2 : F / 8192 % 2 = 0 ∨ F / 8192 % 2 = 1 := by omega
  rcases h1 with h1 | h1 <;> rcases h2 with h2 | h2 <;> rw [h1, h2] <;> simp [fl] <;> omega
theorem err4_zero {s : ByteArray} (h : ip4Err s = 0) : 20 ≤ s.size ∧ be (bl (s.extract 0 1)) / 16 = 4 ∧ (20 ≤ hl4 s ∧ hl4 s ≤ s.size ∧ be (bl (s.extract 2 4)) = s.size) ∧ csum (bl (s.extract 0 (hl4 s))) = 0 ∧ be (bl (s.extract 6 8)) / 32768 = 0 := by
  unfold ip4Err at h
  by_cases h1 : s.size < 20
  · rw [if_pos h1] at h; exact absurd h (by decide)
  rw [if_neg h1] at h
  by_cases h2 : be (bl (s.extract 0 1)) / 16 = 4
  case neg => rw [if_neg h2] at h; exact absurd h (by decide)
  rw [if_pos h2] at h
  by_cases h3 : 20 ≤ hl4 s ∧ hl4 s ≤ s.size ∧ be (bl (s.extract 2 4)) = s.size
  case neg => rw [if_neg h3] at h; exact absurd h (by decide)
  rw [if_pos h3] at h
  by_cases h4 : csum (bl (s.extract 0 (hl4 s))) = 0
  case neg => rw [if_neg h4] at h; exact absurd h (by decide)
  rw [if_pos h4] at h
  by_cases h5 : be (bl (s.extract 6 8)) / 32768 = 0
  case neg => rw [if_neg h5] at h; exact absurd h (by decide)
  exact ⟨by omega, h2, h3, h4, h5⟩
/-- The fields of a packet that is got may be a header's. -/
theorem got4_ok {s : ByteArray} (h : ip4Err s = 0) : ok4 ((be (bl (s.extract 1 2)) : Nat) : Int) ((be (bl (s.extract 4 6)) : Nat) : Int) ((be (bl (s.extract 6 8)) % 8192 : Nat) : Int) ((be (bl (s.extract 8 9)) : Nat) : Int) ((be (bl (s.extract 9 10)) : Nat) : Int) (s.extract 12 16) (s.extract 16 20) (s.extract 20 (hl4 s)) ∧ s.size ≤ 65535 ∧ (s.extract 20 (hl4 s)).size = hl4 s - 20 ∧ (s.extract (hl4 s) s.size).size = s.size - hl4 s := by
  obtain ⟨h20, hv, ⟨hl, hm, hT⟩, hc, hf⟩ := err4_zero h
  have z : ∀ i j, (bl (s.extract i j)).length = min j s.size - i := fun i j => by rw [bl_length]; simp only [ByteArray.size_extract]
  have b1 : be (bl (s.extract 1 2)) < 256 := be_lt_of _ 1 (by rw [z]; omega)
  have b2 : be (bl (s.extract 4 6)) < 65536 := be_lt_of _ 2 (by rw [z]; omega)
  have b3 : be (bl (s.extract 8 9)) < 256 := be_lt_of _ 1 (by rw [z]; omega)
  have b4 : be (bl (s.extract 9 10)) < 256 := be_lt_of _ 1 (by rw [z]; omega)
  have b5 : be (bl (s.extract 2 4)) < 65536 := be_lt_of _ 2 (by rw [z]; omega)
  have e1 : (s.extract 20 (hl4 s)).size = hl4 s - 20 := by simp only [ByteArray.size_extract]; omega
  have e2 : (s.extract (hl4 s) s.size).size = s.size - hl4 s := by simp only [ByteArray.size_extract]; omega
  have hd : hl4 s % 4 = 0 ∧ hl4 s ≤ 60 := by unfold hl4; omega
  refine ⟨⟨by omega, by omega, by omega, by omega, by omega, by simp only [ByteArray.size_extract]; omega, by simp only [ByteArray.size_extract]; omega, by omega, by omega⟩, by omega, e1, e2⟩
/-- What is got is put, but where its sum is FFFF. -/
theorem put_get4 {s : ByteArray} (h : ip4Err s = 0) (hc : be (bl (s.extract 10 12)) ≠ 65535) :
    ip4_Put.f ((be (bl (s.extract 1 2)) : Nat) : Int) ((be (bl (s.extract 4 6)) : Nat) : Int) ((be (bl (s.extract 6 8)) % 8192 : Nat) : Int) ((be (bl (s.extract 8 9)) : Nat) : Int) ((be (bl (s.extract 9 10)) : Nat) : Int) (be (bl (s.extract 6 8)) / 16384 % 2 == 1) (be (bl (s.extract 6 8)) / 8192 % 2 == 1) (s.extract 12 16) (s.extract 16 20) (s.extract 20 (hl4 s)) (s.extract (hl4 s) s.size) = some (s, 0) := by
  obtain ⟨ok, hs, e1, e2⟩ := got4_ok h
  obtain ⟨h20, hv, ⟨hl, hm, hT⟩, hz, hf⟩ := err4_zero h
  have z : ∀ i j, (bl (s.extract i j)).length = min j s.size - i := fun i j => by rw [bl_length]; simp only [ByteArray.size_extract]
  have bF : be (bl (s.extract 6 8)) < 65536 := be_lt_of _ 2 (by rw [z]; omega)
  have bc : be (bl (s.extract 10 12)) < 65536 := be_lt_of _ 2 (by rw [z]; omega)
  have b0 : be (bl (s.extract 0 1)) < 256 := be_lt_of _ 1 (by rw [z]; omega)
  have e : ∀ i j m, min j s.size - i = m → nb m (be (bl (s.extract i j))) = bl (s.extract i j) := fun i j m h => by rw [← h, ← z]; exact nb_be _
  have hfirst : 64 + (20 + (s.extract 20 (hl4 s)).size) / 4 = be (bl (s.extract 0 1)) := by rw [e1]; unfold hl4 at hl ⊢; omega
  have hlen : 20 + (s.extract 20 (hl4 s)).size + (s.extract (hl4 s) s.size).size = be (bl (s.extract 2 4)) := by rw [e1, e2, hT]; omega
  rw [put4_ok ok (by rw [e1, e2]; omega)]
  refine congrArg some (Prod.ext (bl4_inj ?_) rfl)
  refine Eq.trans (bl4_mk _) ?_
  have full : ∀ c, head4 (be (bl (s.extract 1 2))) (be (bl (s.extract 4 6))) (be (bl (s.extract 6 8)) % 8192) (be (bl (s.extract 8 9))) (be (bl (s.extract 9 10))) (be (bl (s.extract 6 8)) / 16384 % 2 == 1) (be (bl (s.extract 6 8)) / 8192 % 2 == 1) (s.extract 12 16) (s.extract 16 20) (s.extract 20 (hl4 s)) (be (bl (s.extract 2 4))) c =
      (bl (s.extract 0 1) ++ bl (s.extract 1 2) ++ bl (s.extract 2 4) ++ bl (s.extract 4 6) ++ bl (s.extract 6 8) ++ bl (s.extract 8 9) ++ bl (s.extract 9 10)) ++ nb 2 c ++ (bl (s.extract 12 16) ++ bl (s.extract 16 20) ++ bl (s.extract 20 (hl4 s))) := fun c => by
    unfold head4
    rw [hfirst, fl_back _ (by omega), e 0 1 1 (by omega), e 1 2 1 (by omega), e 2 4 2 (by omega), e 4 6 2 (by omega), e 6 8 2 (by omega), e 8 9 1 (by omega), e 9 10 1 (by omega)]
  have cat' : ∀ (l : List UInt8) i j, i ≤ j → l.take i ++ (l.take j).drop i = l.take j := fun l i j h => by
    conv => rhs; rw [← List.take_append_drop i (l.take j)]
    rw [List.take_take, Nat.min_eq_left h]
  have whole : (bl (s.extract 0 1) ++ bl (s.extract 1 2) ++ bl (s.extract 2 4) ++ bl (s.extract 4 6) ++ bl (s.extract 6 8) ++ bl (s.extract 8 9) ++ bl (s.extract 9 10)) ++ bl (s.extract 10 12) ++ (bl (s.extract 12 16) ++ bl (s.extract 16 20) ++ bl (s.extract 20 (hl4 s))) = bl (s.extract 0 (hl4 s)) := by
    simp only [cut4, List.drop_zero, ← List.append_assoc]
    rw [cat' _ 1 2 (by decide), cat' _ 2 4 (by decide), cat' _ 4 6 (by decide), cat' _ 6 8 (by decide), cat' _ 8 9 (by decide), cat' _ 9 10 (by decide), cat' _ 10 12 (by decide), cat' _ 12 16 (by decide), cat' _ 16 20 (by decide), cat' _ 20 _ hl]
  have hun := outSealed (bl (s.extract 0 1) ++ bl (s.extract 1 2) ++ bl (s.extract 2 4) ++ bl (s.extract 4 6) ++ bl (s.extract 6 8) ++ bl (s.extract 8 9) ++ bl (s.extract 9 10)) (bl (s.extract 12 16) ++ bl (s.extract 16 20) ++ bl (s.extract 20 (hl4 s))) (be (bl (s.extract 10 12)))
    (by unfold odd; simp only [List.length_append, z]; rw [beq_eq_false_iff_ne]; omega) (by omega) (by rw [e 10 12 2 (by omega), whole]; exact hz)
  unfold put4
  rw [hlen, full, full, hun, e 10 12 2 (by omega), whole, cut4, cut4, List.drop_zero, List.take_of_length_le (l := bl s) (i := s.size) (Nat.le_of_eq (bl_length s)), List.take_append_drop]
end Go.Proofs.Ytejmipoolbodgaa.Pure
end

section
/- By hand: frag.parts, an iterator over a payload's parts. -/
namespace Go.Proofs.Ytejmipoolbodgaa.G
open Go.RowKit Go.Shelf Go.Proofs.YtejmipoolbodgaaW.PrintWords Go.Proofs.YtejmipoolbodgaaW.PrintLast Go.Proofs.YtejmipoolbodgaaW.PrintMore Go.Proofs.Ytejmipoolbodgaa.Pal
attribute [local go_sem] Oper.semAt_some
attribute [local go_sem] max2_int min2_int max_two min_two
set_option linter.unusedVariables false
set_option linter.unusedSimpArgs false
set_option maxRecDepth 100000 in
set_option maxHeartbeats 2000000 in
theorem parts_in (n : Nat) (s : ByteArray) (z : Int) (w : World) :
    CallsIn Fence.wide n Try.prog 157 #[.string s, .int .i64 z] w fun e w' => e = .returned (.func (.func 163) #[] #[.pointer (some ⟨w.heap.size, 0, none⟩), .pointer (some ⟨w.heap.size + 1, 0, none⟩)]) ∧ w' = (w.alloc (.cells #[.string s] 9)).alloc (.cells #[.int .i64 z] 3) := by
  have hmf : ∀ (fn : Fn) (first cap : Array Value) (w : World), (Instr.makeFunc fn first cap).run Try.prog w = .ok (.func fn first cap) w := fun _ _ _ _ => rfl
  refine callsIn_of_wp Try.func157 rfl trivial ?_ rfl
  simp only [Try.ntmps157, List.size_toArray, List.length_cons, List.length_nil, Nat.reduceAdd, Nat.reduceSub, Array.replicate_succ, Array.replicate_zero, List.push_toArray, List.append_toArray, List.nil_append, List.cons_append]
  gi_wp2
  go_ret
  exact ⟨rfl, rfl⟩
/-- Both of the iterator's variables are as they were. -/
def keep2 (B1 B2 : Nat) (W W' : World) : Prop := W'.cell? ⟨B1, 0, none⟩ = W.cell? ⟨B1, 0, none⟩ ∧ W'.cell? ⟨B2, 0, none⟩ = W.cell? ⟨B2, 0, none⟩
theorem keep2_t {B1 B2 : Nat} {A B C : World} (h : keep2 B1 B2 A B) (k : keep2 B1 B2 B C) : keep2 B1 B2 A C := ⟨k.1.trans h.1, k.2.trans h.2⟩
theorem keep2_b {B1 B2 n : Nat} (h1 : B1 < n) (h2 : B2 < n) (W : World) (l : Nat) (o o' : Obj) (hl : n ≤ l) (_ : W.heap[l]? = some o) (_ : o.isCells = false) (_ : o.isWalk = false) : keep2 B1 B2 W (W.putObj l o') :=
  ⟨World.cell?_of_block (World.putObj_heap_other (Nat.ne_of_gt (Nat.lt_of_lt_of_le h1 hl)).symm), World.cell?_of_block (World.putObj_heap_other (Nat.ne_of_gt (Nat.lt_of_lt_of_le h2 hl)).symm)⟩
theorem keep2_below {B1 B2 n : Nat} {W W' : World} (h1 : B1 < n) (h2 : B2 < n) (h : Below n W W') : keep2 B1 B2 W W' := ⟨h.cell (p := ⟨B1, 0, none⟩) h1, h.cell (p := ⟨B2, 0, none⟩) h2⟩
/-- A part, by its number. -/
abbrev PartI (s : ByteArray) (z : Nat) := { k : Nat // k < cntP s z }
abbrev encP (s : ByteArray) (z : Nat) (k : PartI s z) : Array Value := #[.int .i64 ((k.1 * z : Nat) : Int), .string (partP s z k.1)]
theorem fr_wrap (a b : Nat) (h : a + b ≤ 140737488351232 + 65536) : wrap64 ((a : Int) + (b : Int)) = ((a + b : Nat) : Int) ∧ IntKind.i64.wrap ((a : Int) + (b : Int)) = ((a + b : Nat) : Int) := by
  refine ⟨by unfold wrap64; omega, by rw [IntKind.wrap_i64]; omega⟩
theorem fr_le {a z S : Nat} (h : a + z ≤ S) : (a : Int) + (z : Int) ≤ (S : Int) := by omega
theorem fr_nlt {a z S : Nat} (h : a + z ≤ S) : ¬ (S : Int) < (a : Int) + (z : Int) := by omega
theorem fr_nle {a z S : Nat} (h : ¬ a + z ≤ S) : ¬ (a : Int) + (z : Int) ≤ (S : Int) := by omega
theorem fr_lt {a z S : Nat} (h : ¬ a + z ≤ S) : (S : Int) < (a : Int) + (z : Int) := by omega
theorem fr_lt' {a S : Nat} (h : a < S) : (a : Int) ≤ (S : Int) := by omega
theorem fr_le2 (a z : Nat) : (a : Int) ≤ (a : Int) + (z : Int) := by omega
theorem fr_toNat (a z : Nat) : ((a : Int) + (z : Int)).toNat = a + z := by omega
theorem fr_min {a z S : Nat} (h : a < S) : (a : Int) ≤ ((min (a + z) S : Nat) : Int) ∧ ((min (a + z) S : Nat) : Int) ≤ (S : Int) := by omega
theorem fr_less {a z S : Nat} (h : a < S) (hz : 0 < z) : S + z - (((a + z : Nat)) : Int).toNat < S + z - ((a : Nat) : Int).toNat := by omega

set_option maxRecDepth 100000 in
set_option maxHeartbeats 4000000 in
theorem parts1_in (n : Nat) (hn : 1 ≤ n) (l B1 B2 : Nat) (s : ByteArray) (z : Nat) (hz : 0 < z) (hz2 : z ≤ 65536) (hs : s.size ≤ 140737488351232) (J Jx : List (PartI s z) → World → Prop)
    (hY : ∀ pre (x : PartI s z) W, J pre W → pre.length < cntP s z → YieldAt Fence.wide (n - 1) Try.prog l (encP s z x) W fun e W' =>
      (e = .returned (.bool true) ∧ J (pre ++ [x]) W' ∧ keep2 B1 B2 W W') ∨ (e = .returned (.bool false) ∧ Jx (pre ++ [x]) W'))
    (W : World) (hc1 : W.cell? ⟨B1, 0, none⟩ = some (.string s)) (hc2 : W.cell? ⟨B2, 0, none⟩ = some (.int .i64 (z : Int))) (h0 : J [] W) :
    CallsIn Fence.wide n Try.prog 163 #[.func (.yield l) #[] #[], .pointer (some ⟨B1, 0, none⟩), .pointer (some ⟨B2, 0, none⟩)] W fun e W' => (∃ v, e = .returned v) ∧
      ((∃ ys : List (PartI s z), ys.map (·.1) = List.range (cntP s z) ∧ J ys W') ∨ (∃ pre, True ∧ Jx pre W')) := by
  refine callsIn_of_wp Try.func163 rfl trivial ?_ rfl
  simp only [Try.ntmps163, List.size_toArray, List.length_cons, List.length_nil, Nat.reduceAdd, Nat.reduceSub, Array.replicate_succ, Array.replicate_zero, List.push_toArray, List.append_toArray, List.nil_append, List.cons_append]
  have HS := Aside0.mk (show s.size ≤ 140737488351232 ∧ 0 < z ∧ z ≤ 65536 from ⟨hs, hz, hz2⟩)
  clear hs hz hz2
  gi_wp2
  gi_loopw [4] (fun p wr => ∃ (a k : Nat) (pre : List (PartI s z)), p = .int .i64 (a : Int) ∧ Aside0 (a = k * z ∧ k ≤ cntP s z) ∧ Aside0 (pre.map (·.1) = List.range k) ∧ J pre wr ∧ wr.cell? ⟨B1, 0, none⟩ = some (.string s) ∧ wr.cell? ⟨B2, 0, none⟩ = some (.int .i64 (z : Int)))
    (fun p wr => s.size + z - (intOf p).toNat)
  case atStart => exact ⟨0, 0, [], rfl, ⟨by omega, by omega⟩, ⟨rfl⟩, h0, hc1, hc2⟩
  case round =>
    obtain ⟨a, k, pre, rfl, HA, HP, hJ, hc1, hc2⟩ := hrel
    by_cases hlt : a < s.size
    case neg =>
      have q1 : decide ((a : Int) < (s.size : Int)) = false := decide_eq_false (by omega)
      have q2 : decide (a < s.size) = false := decide_eq_false hlt
      have hk : k = cntP s z := by
        have h1 := cntP_lt s HS.out.2.1 k
        rw [← HA.out.1] at h1
        have := HA.out.2
        omega
      clear hlt
      gi_wp2
      go_end0
      exact ⟨⟨_, rfl⟩, .inl ⟨pre, by rw [HP.out, hk], hJ⟩⟩
    have q1 : decide ((a : Int) < (s.size : Int)) = true := decide_eq_true (by omega)
    have q2 : decide (a < s.size) = true := decide_eq_true hlt
    have hk : k < cntP s z := (cntP_lt s HS.out.2.1 k).mpr (by rw [← HA.out.1]; exact hlt)
    have hlen : pre.length < cntP s z := by
      have := congrArg List.length HP.out
      rw [List.length_map, List.length_range] at this
      rw [this]; exact hk
    have w1 := fr_wrap a z (by have := HS.out; omega)
    have w2 := w1.2
    replace w1 := w1.1
    obtain ⟨fn, tmps, assign, body, hy, hR⟩ := hY pre ⟨k, hk⟩ wr hJ hlen
    have HY := Aside0.mk hY
    dsimp only [encP] at hy
    rw [← HA.out.1] at hy
    have HL := Aside0.mk hlt
    by_cases hm : a + z ≤ s.size
    · have hpart : partP s z k = s.extract a (a + z) := by unfold partP; rw [← HA.out.1, Nat.min_eq_left hm]
      rw [hpart] at hy
      have m1 := fr_le hm
      have m2 := fr_nlt hm
      have hsl : ∀ wx : World, (Instr.slice 9 (.string s) (some (.int .i64 (a : Int))) (some (.int .i64 ((a : Int) + (z : Int)))) none).run Try.prog wx = .ok (.string (s.extract a (a + z))) wx := fun wx => by
        have := run_slice_string (P := Try.prog) wx 9 s .i64 .i64 (a : Int) ((a : Int) + (z : Int)) Try.underlying9 (Int.natCast_nonneg _) (fr_le2 a z) m1
        rwa [Int.toNat_natCast, fr_toNat] at this
      clear hY hlt hpart hm
      gi_wp2
      clear hsl
      refine hR.mono ?_
      rintro e W3 (⟨rfl, hJ3, hk3⟩ | ⟨rfl, hJx3⟩)
      · have hc3 := hk3.1.trans hc1
        have hc4 := hk3.2.trans hc2
        gi_wp2
        go_roundw
        case rel => exact ⟨a + z, k + 1, pre ++ [⟨k, hk⟩], by simp, ⟨by rw [HA.out.1, Nat.succ_mul], hk⟩, ⟨by rw [List.map_append, HP.out, List.range_succ]; rfl⟩, hJ3, hc3, hc4⟩
        case measure => simp only [intOf]; exact fr_less HL.out HS.out.2.1
      · gi_wp2
        refine bodyPost_ret (results_none rfl _ _ _) rfl ?_
        exact ⟨⟨_, rfl⟩, .inr ⟨_, trivial, hJx3⟩⟩
    · have hpart : partP s z k = s.extract a s.size := by unfold partP; rw [← HA.out.1, Nat.min_eq_right (Nat.le_of_not_le hm)]
      rw [hpart] at hy
      have m1 := fr_nle hm
      have m2 := fr_lt hm
      have hsl : ∀ wx : World, (Instr.slice 9 (.string s) (some (.int .i64 (a : Int))) (some (.int .i64 (s.size : Int))) none).run Try.prog wx = .ok (.string (s.extract a s.size)) wx := fun wx => by
        have := run_slice_string (P := Try.prog) wx 9 s .i64 .i64 (a : Int) (s.size : Int) Try.underlying9 (Int.natCast_nonneg _) (fr_lt' HL.out) (Int.le_refl _)
        rwa [Int.toNat_natCast, Int.toNat_natCast] at this
      clear hY hlt hpart hm
      gi_wp2
      clear hsl
      refine hR.mono ?_
      rintro e W3 (⟨rfl, hJ3, hk3⟩ | ⟨rfl, hJx3⟩)
      · have hc3 := hk3.1.trans hc1
        have hc4 := hk3.2.trans hc2
        gi_wp2
        go_roundw
        case rel => exact ⟨a + z, k + 1, pre ++ [⟨k, hk⟩], by simp, ⟨by rw [HA.out.1, Nat.succ_mul], hk⟩, ⟨by rw [List.map_append, HP.out, List.range_succ]; rfl⟩, hJ3, hc3, hc4⟩
        case measure => simp only [intOf]; exact fr_less HL.out HS.out.2.1
      · gi_wp2
        refine bodyPost_ret (results_none rfl _ _ _) rfl ?_
        exact ⟨⟨_, rfl⟩, .inr ⟨_, trivial, hJx3⟩⟩
theorem parts_stops (n : Nat) (hn : 1 ≤ n) (B1 B2 : Nat) (s : ByteArray) (z : Nat) (hz : 0 < z) (hz2 : z ≤ 65536) (hs : s.size ≤ 140737488351232) (w : World) (hB1 : B1 < w.heap.size) (hB2 : B2 < w.heap.size) (hc1 : w.cell? ⟨B1, 0, none⟩ = some (.string s)) (hc2 : w.cell? ⟨B2, 0, none⟩ = some (.int .i64 (z : Int))) :
    SeqStopsK Fence.wide n Try.prog 163 #[.pointer (some ⟨B1, 0, none⟩), .pointer (some ⟨B2, 0, none⟩)] (encP s z) (keep2 B1 B2) (fun ys => ys.map (·.1) = List.range (cntP s z)) (fun _ => True) (cntP s z) w := fun l J Jx W hW hJ _ hY h0 =>
  parts1_in n hn l B1 B2 s z hz hz2 hs J Jx (fun pre x W h1 h2 => hY pre x W h1 h2) W ((hW.cell (p := ⟨B1, 0, none⟩) hB1).trans hc1) ((hW.cell (p := ⟨B2, 0, none⟩) hB2).trans hc2) h0
end Go.Proofs.Ytejmipoolbodgaa.G
end

section
/- By hand: wire.Read: whatever closure reads, its end is the error that is told: OK where it comes back, the number where a Need stopped it. -/
namespace Go.Proofs.Ytejmipoolbodgaa.G
open Go.RowKit Go.Proofs.YtejmipoolbodgaaW.PrintWords Go.Proofs.YtejmipoolbodgaaW.PrintLast Go.Proofs.YtejmipoolbodgaaW.PrintMore Go.Proofs.Ytejmipoolbodgaa.Pal
set_option linter.unusedVariables false
set_option linter.unusedSimpArgs false

/-- How a reading's closure ends: it comes back (0), or is stopped with an error. -/
def did (e : Int) : Ending := if e = 0 then .returned (.tuple #[]) else stopped e

theorem stop_is (v : Value) (W : World) : (Instr.typeAssert (.iface 155 v) 20 155 true).run Try.prog W = .ok (.tuple #[v, .bool true]) W := by kernel_rfl

set_option maxHeartbeats 400000 in
theorem Read1_caught (p : Nat) (x e : Int) (w : World) (hc : w.cell? ⟨p, 0, none⟩ = some (.int .i64 x)) (hz : w.frozen? ⟨p, 0, none⟩ = false) (hp : p < w.heap.size) :
    CallsD Try.prog 128 #[.pointer (some ⟨p, 0, none⟩)] (.panicking [{ v := stopV e, recovered := false }]) w fun e1 u' w' =>
      e1 = .returned (.tuple #[]) ∧ u' = .panicking [{ v := stopV e, recovered := true }] ∧ w' = (w.setCell ⟨p, 0, none⟩ (.int .i64 e)).alloc (.cells #[.int .i64 e] 155) := by
  have hta : ∀ (v : Value) (W : World), (Instr.typeAssert (.iface 155 v) 20 155 true).run Try.prog W = .ok (.tuple #[v, .bool true]) W := stop_is
  refine callsD_of_wpS Try.func128 rfl fun c₀ cs hu => ?_
  simp only [Try.ntmps128, List.size_toArray, List.length_cons, List.length_nil, Nat.reduceAdd, Nat.reduceSub, Array.replicate_succ,
     Array.replicate_zero, List.push_toArray, List.append_toArray, List.nil_append, List.cons_append]
  apply wpS_seq
  apply wpS_region
  simp [wpOpsS, go_sem, recoverD, hu, Exit.thenS, stopV]
  apply wpS_of_wp
  go_wp2
  exact ⟨rfl, _, rfl, _, results_none rfl _ _ _, rfl, rfl, rfl⟩

set_option maxHeartbeats 400000 in
theorem Read1_idle (p : Nat) (w : World) :
    CallsD Try.prog 128 #[.pointer (some ⟨p, 0, none⟩)] .returning w fun e1 u' w' => e1 = .returned (.tuple #[]) ∧ u' = .returning ∧ w' = w := by
  refine callsD_of_wpS Try.func128 rfl fun c₀ cs hu => ?_
  simp only [Try.ntmps128, List.size_toArray, List.length_cons, List.length_nil, Nat.reduceAdd, Nat.reduceSub, Array.replicate_succ,
     Array.replicate_zero, List.push_toArray, List.append_toArray, List.nil_append, List.cons_append]
  apply wpS_seq
  apply wpS_region
  simp [wpOpsS, go_sem, recoverD, hu, Exit.thenS]
  apply wpS_of_wp
  go_wp2
  refine ⟨rfl, .returning, ?_, _, results_none rfl _ _ _, rfl, rfl, rfl⟩
  cases c₀
  simp_all

/-- The world in which the closure begins: the result's variable, then the reader. -/
def readW (w : World) (s : ByteArray) : World := (w.alloc (.cells #[.int .i64 0] 38)).alloc (.cells #[.string s, .int .i64 0] 157)
theorem readW_rd (w : World) (s : ByteArray) (hs : s.size ≤ 140737488351232) : Rd (readW w s) (w.heap.size + 1) s 0 := by
  have h := Blk.new (w.alloc (.cells #[.int .i64 0] 38)) 157 #[.string s, .int .i64 0]
  rw [World.size_alloc] at h
  exact ⟨h, by omega, hs⟩
theorem readW_res (w : World) (s : ByteArray) : Blk (readW w s) w.heap.size 38 #[.int .i64 0] := (Blk.new w _ _).alloc _
theorem readW_below (w : World) (s : ByteArray) : Below w.heap.size w (readW w s) := ((Below.refl _ _).alloc (Nat.le_refl _) _).alloc (by simp) _
theorem readW_size (w : World) (s : ByteArray) : (readW w s).heap.size = w.heap.size + 2 := by simp [readW]

set_option maxHeartbeats 800000 in
theorem Read_calls (g : FuncId) (cap : Array Value) (s : ByteArray) (er : Int) (w : World) (Q : World → Prop)
    (hg : ∀ args w, (callFunc g args).run Try.prog w = .ok (.enter g args) w)
    (hdo : Calls Try.prog g (#[.pointer (some ⟨w.heap.size + 1, 0, none⟩)] ++ cap) (readW w s) fun e w2 => e = did er ∧ Blk w2 w.heap.size 38 #[.int .i64 0] ∧ Q w2) :
    Calls Try.prog 46 #[.string s, .func (.func g) #[] cap] w fun e w' => e = .returned (.int .i64 er) ∧ ∃ w2, Q w2 ∧ w2.grownBy w' (some w.heap.size) := by
  have hmf : ∀ (fn : Fn) (first cap : Array Value) (w : World), (Instr.makeFunc fn first cap).run Try.prog w = .ok (.func fn first cap) w := fun _ _ _ _ => rfl
  have HD := Lib.hid hdo
  clear hdo
  go_enter_defers Try.func46, Try.ntmps46
  go_wp2_with fail
  refine HD.out.mono ?_
  rintro e w2 ⟨rfl, hb, hq⟩
  have HQ := Lib.hid hq
  clear hq HD
  have c0 := hb.cell 0 _ rfl
  have c1 := hb.free 0
  have HB := Aside0.mk hb
  clear hb
  by_cases h0 : er = 0
  · subst h0
    rw [show did 0 = .returned (.tuple #[]) from rfl]
    go_wp2
    refine leaves_cons (f := 128) (args := #[.pointer (some ⟨w.heap.size, 0, none⟩)]) (by simp) (by simp [go_sem]) ?_
    refine (Read1_idle w.heap.size _).mono ?_
    rintro e u' w'' ⟨rfl, rfl, rfl⟩
    have c2 := (HB.out.set 0 (.int .i64 0)).cell 0 _ rfl
    refine ⟨.int .i64 0, ?_, rfl, w2, HQ.out, grown_setCell _ _ _ _⟩
    simp [results, Try.results46, go_sem]
    rw [c2]
    rfl
  · rw [show did er = stopped er from if_neg h0]
    refine leaves_cons (f := 128) (args := #[.pointer (some ⟨w.heap.size, 0, none⟩)]) (by simp) (by simp [go_sem]) ?_
    refine (Read1_caught w.heap.size 0 er w2 c0 c1 HB.out.lt).mono ?_
    rintro e u' w'' ⟨rfl, rfl, rfl⟩
    have c2 := (((HB.out.set 0 (.int .i64 er))).alloc (.cells #[.int .i64 er] 155)).cell 0 _ rfl
    refine ⟨.int .i64 er, ?_, rfl, w2, HQ.out, grown_alloc (grown_setCell _ _ _ _) _⟩
    simp [results, Try.results46, go_sem]
    rw [c2]
    rfl
end Go.Proofs.Ytejmipoolbodgaa.G
end

section
namespace Go.Proofs.Ytejmipoolbodgaa.G
open Go.RowKit Go.Proofs.YtejmipoolbodgaaW.PrintWords Go.Proofs.YtejmipoolbodgaaW.PrintLast Go.Proofs.YtejmipoolbodgaaW.PrintMore
attribute [local go_sem] max2_int min2_int max_two min_two max_three min_three max_four min_four   -- for this text's walks alone
set_option linter.unusedVariables false
set_option linter.unusedSimpArgs false

def sum_Right.f (l0 : List ByteArray) : Option (Bool) := (sum_Sum.f l0).bind fun t106 => (some (t106 == 0))
set_option maxHeartbeats 8000000 in
set_option maxRecDepth 100000 in
theorem sum_Right.calls (A0 : Option Addr) (c0 : Nat) (l0 : List ByteArray) (r : Bool) (w : World) (hr0 : Kd.C Kd.string w A0 l0.length l0) (hc0 : l0.length ≤ c0) (h : sum_Right.f l0 = some r) :
  Calls Try.prog 38 #[.slice A0 l0.length c0] w fun e w' => e = .returned (.bool r) ∧ Below w.heap.size w w' := by
 have HR0 := mA hr0
 have HC0 := mA hc0
 clear hr0 hc0
 have HB := mA (Below.refl w.heap.size w)
 have H : ((sum_Sum.f l0).bind fun t106 => (some (t106 == 0))) = some r := h
 clear h
 replace H := Option.bind_eq_some_iff.mp H
 obtain ⟨t106, A20, H⟩ := H
 replace H : (some (t106 == 0)) = some r := H
 have A2 := mA A20
 clear A20
 obtain rfl := Option.some.inj H
 go_enter Try.func38, Try.ntmps38
 go_wp2_with (first | ((with_reducible refine gate_callee (f := 37) rfl ?_); refine goesL_ (some 4) rfl rfl Try.func37 (by kernel_rfl) rfl #[.slice A0 l0.length c0] rfl (by (try simp only [List.map_toArray, List.map_cons, List.map_nil]); first | done | rfl | (simp only [List.length_drop, List.length_take]; rfl)) ?_; (with_reducible refine (sum_Sum.calls _ _ l0 t106 _ ?side1 ?side2 A2.out).mono ?_); (case side1 => repeat (first | exact HR0.out | (with_reducible refine Kd.C_alloc ?_ _) | (with_reducible refine Kd.C_drewN ?_ _) | (with_reducible refine Kd.C_drew ?_))); (case side2 => exact HC0.out); rintro e w3 ⟨rfl, hb⟩; refine ⟨_, rfl, ?_⟩; have n0_ := mA (bP (by repeat (first | (with_reducible first | exact HB.out | apply bA | apply bN | apply bD) | exact HB.out)) hb); clear HB; have HB := n0_; clear n0_; (try clear hb); (try clear hb2); (try clear hk); (try clear hi)))
 go_ret
 exact ⟨by first | rfl | (simp [errW_none, errW_some] <;> rfl) | (simp [*, errW_none, errW_some] <;> rfl), by repeat (first | (with_reducible first | exact HB.out | apply bA | apply bN | apply bD) | exact HB.out)⟩

def sum_Update.f (a0 : Int) (a1 : Int) (a2 : Int) : Option (Int) := (sum_fold.f (IntKind.u64.wrap ((IntKind.u64.wrap ((IntKind.u64.wrap (Go.bits .xor .i64 (Go.bits .and .i64 a0 65535) 65535)) + (IntKind.u64.wrap (Go.bits .xor .i64 (Go.bits .and .i64 a1 65535) 65535)))) + (IntKind.u64.wrap (Go.bits .and .i64 a2 65535))))).bind fun t147 => (some (Go.bits .xor .i64 t147 65535))
set_option maxHeartbeats 8000000 in
set_option maxRecDepth 100000 in
theorem sum_Update.calls (a0 : Int) (a1 : Int) (a2 : Int) (r : Int) (w : World) (h : sum_Update.f a0 a1 a2 = some r) :
  Calls Try.prog 39 #[.int .i64 a0, .int .i64 a1, .int .i64 a2] w fun e w' => e = .returned (.int .i64 r) ∧ Below w.heap.size w w' := by
 have HB := mA (Below.refl w.heap.size w)
 have H : ((sum_fold.f (IntKind.u64.wrap ((IntKind.u64.wrap ((IntKind.u64.wrap (Go.bits .xor .i64 (Go.bits .and .i64 a0 65535) 65535)) + (IntKind.u64.wrap (Go.bits .xor .i64 (Go.bits .and .i64 a1 65535) 65535)))) + (IntKind.u64.wrap (Go.bits .and .i64 a2 65535))))).bind fun t147 => (some (Go.bits .xor .i64 t147 65535))) = some r := h
 clear h
 replace H := Option.bind_eq_some_iff.mp H
 obtain ⟨t147, A40, H⟩ := H
 replace H : (some (Go.bits .xor .i64 t147 65535)) = some r := H
 have A4 := mA A40
 clear A40
 obtain rfl := Option.some.inj H
 go_enter Try.func39, Try.ntmps39
 go_wp2_with (first | ((with_reducible refine gate_callee (f := 121) rfl ?_); refine goesL_ (some 20) rfl rfl Try.func121 (by kernel_rfl) rfl #[.int .u64 (IntKind.u64.wrap ((IntKind.u64.wrap ((IntKind.u64.wrap (Go.bits .xor .i64 (Go.bits .and .i64 a0 65535) 65535)) + (IntKind.u64.wrap (Go.bits .xor .i64 (Go.bits .and .i64 a1 65535) 65535)))) + (IntKind.u64.wrap (Go.bits .and .i64 a2 65535))))] rfl (by (try simp only [List.map_toArray, List.map_cons, List.map_nil]); first | done | rfl | (simp only [List.length_drop, List.length_take]; rfl)) ?_; (with_reducible refine (sum_fold.calls (IntKind.u64.wrap ((IntKind.u64.wrap ((IntKind.u64.wrap (Go.bits .xor .i64 (Go.bits .and .i64 a0 65535) 65535)) + (IntKind.u64.wrap (Go.bits .xor .i64 (Go.bits .and .i64 a1 65535) 65535)))) + (IntKind.u64.wrap (Go.bits .and .i64 a2 65535)))) t147 _ A4.out).mono ?_); rintro e w5 ⟨rfl, hb⟩; refine ⟨_, rfl, ?_⟩; have n0_ := mA (bP (by repeat (first | (with_reducible first | exact HB.out | apply bA | apply bN | apply bD) | exact HB.out)) hb); clear HB; have HB := n0_; clear n0_; (try clear hb); (try clear hb2); (try clear hk); (try clear hi)))
 go_ret
 exact ⟨by first | rfl | (simp [errW_none, errW_some] <;> rfl) | (simp [*, errW_none, errW_some] <;> rfl), by repeat (first | (with_reducible first | exact HB.out | apply bA | apply bN | apply bD) | exact HB.out)⟩

def sum_Pseudo.f (a0 : ByteArray) (a1 : ByteArray) (a2 : Int) (a3 : Int) : Option (ByteArray) := if (a0.size : Int) = 16 then (if a0.size + a1.size ≤ 9223372036854775807 then ((some (([(a3 / 16777216) % 256, (a3 / 65536) % 256, (a3 / 256) % 256, (a3) % 256, 0, 0, 0, (a2) % 256] : List Int) : List Int)).bind fun y178 => (if (a0 ++ a1).size + (strOfNums y178).size ≤ 9223372036854775807 then (some ((a0 ++ a1) ++ (strOfNums y178))) else (none))) else (none)) else (if a0.size + a1.size ≤ 9223372036854775807 then ((some (([0, (a2) % 256, (a3 / 256) % 256, (a3) % 256] : List Int) : List Int)).bind fun y181 => (if (a0 ++ a1).size + (strOfNums y181).size ≤ 9223372036854775807 then (some ((a0 ++ a1) ++ (strOfNums y181))) else (none))) else (none))
set_option maxHeartbeats 8000000 in
set_option maxRecDepth 100000 in
theorem sum_Pseudo.calls (a0 : ByteArray) (a1 : ByteArray) (a2 : Int) (a3 : Int) (r : ByteArray) (w : World) (h : sum_Pseudo.f a0 a1 a2 a3 = some r) :
  Calls Try.prog 43 #[.string a0, .string a1, .int .i64 a2, .int .i64 a3] w fun e w' => e = .returned (.string r) ∧ Below w.heap.size w w' := by
 have HB := mA (Below.refl w.heap.size w)
 have H : (if (a0.size : Int) = 16 then (if a0.size + a1.size ≤ 9223372036854775807 then ((some (([(a3 / 16777216) % 256, (a3 / 65536) % 256, (a3 / 256) % 256, (a3) % 256, 0, 0, 0, (a2) % 256] : List Int) : List Int)).bind fun y178 => (if (a0 ++ a1).size + (strOfNums y178).size ≤ 9223372036854775807 then (some ((a0 ++ a1) ++ (strOfNums y178))) else (none))) else (none)) else (if a0.size + a1.size ≤ 9223372036854775807 then ((some (([0, (a2) % 256, (a3 / 256) % 256, (a3) % 256] : List Int) : List Int)).bind fun y181 => (if (a0 ++ a1).size + (strOfNums y181).size ≤ 9223372036854775807 then (some ((a0 ++ a1) ++ (strOfNums y181))) else (none))) else (none))) = some r := h
 clear h
 by_cases c5 : (a0.size : Int) = 16
 ·rw [if_pos c5] at H
  have c5b0 : ((a0.size : Int) == 16) = true := beq_iff_eq.mpr c5
  have c5b1 : ((a0.size : Int) != 16) = false := bne_eq_false_iff_eq.mpr c5
  clear c5
  by_cases c6 : a0.size + a1.size ≤ 9223372036854775807
  ·rw [if_pos c6] at H
   have c6b0 := eq_true c6
   have c6b1 : decide (a0.size + a1.size ≤ 9223372036854775807) = true := decide_eq_true c6
   try have c6b2 : (9223372036854775807 < a0.size + a1.size) = False := eq_false (Nat.not_lt.2 c6)
   obtain ⟨y178, hy178⟩ : ∃ y_ : List Int, y_ = (([(a3 / 16777216) % 256, (a3 / 65536) % 256, (a3 / 256) % 256, (a3) % 256, 0, 0, 0, (a2) % 256] : List Int)) := ⟨_, rfl⟩
   replace H : (if (a0 ++ a1).size + (strOfNums y178).size ≤ 9223372036854775807 then (some ((a0 ++ a1) ++ (strOfNums y178))) else (none)) = some r := by first | (rw [hy178]; with_reducible exact H) | (have H2_ := (Option.bind_some _ _).symm.trans H; rw [hy178]; with_reducible exact H2_) | (have H2_ := (Option.bind_some _ _).symm.trans H; with_reducible exact H2_) | with_reducible exact H | (rw [hy178]; exact H) | exact H
   have Ny178 := mA hy178
   clear hy178
   by_cases c7 : (a0 ++ a1).size + (strOfNums y178).size ≤ 9223372036854775807
   ·rw [if_pos c7] at H
    have c7b0 := eq_true c7
    have c7b1 : decide ((a0 ++ a1).size + (strOfNums y178).size ≤ 9223372036854775807) = true := decide_eq_true c7
    try have c7b2 : (9223372036854775807 < (a0 ++ a1).size + (strOfNums y178).size) = False := eq_false (Nat.not_lt.2 c7)
    try have c7b3 : (9223372036854775807 < (a0.size) + (a1.size) + (strOfNums y178).size) = False := eq_false (by have h_ := c7; simp only [ByteArray.size_append] at h_; omega)
    try have c7b4 : ((a0.size) + (a1.size) + (strOfNums y178).size ≤ 9223372036854775807) = True := eq_true (by have h_ := c7; simp only [ByteArray.size_append] at h_; omega)
    obtain rfl := Option.some.inj H
    go_enter Try.func43, Try.ntmps43
    go_wp2_with (first | ((with_reducible refine gate_dst (N := 28) rfl ?_); refine Kd.R_lit (Kd.int .u8) _ 5 ?hg (N := 28) ?hd (xs := ([(a3 / 16777216) % 256, (a3 / 65536) % 256, (a3 / 256) % 256, (a3) % 256, 0, 0, 0, (a2) % 256] : List Int)) (inner := [.int .u8 ((a3 / 16777216) % 256), .int .u8 ((a3 / 65536) % 256), .int .u8 ((a3 / 256) % 256), .int .u8 ((a3) % 256), .int .u8 0, .int .u8 0, .int .u8 0, .int .u8 ((a2) % 256)]) (ok := fun _ => True) (okp := fun _ => True) ?hr ?hp (fun _ hk => hk) trivial (Below.refl _ _) (Nat.le_refl _) (by simp) ?_; (case hd => rfl); (case hg => rfl); (case hr => first | (go_simp; done) | (go_simp; rfl)); (case hp => exact (Reps.one (show Kd.M (Kd.int .u8) _ _ _ ((a3 / 16777216) % 256) [.int .u8 ((a3 / 16777216) % 256)] from rfl) (Reps.one (show Kd.M (Kd.int .u8) _ _ _ ((a3 / 65536) % 256) [.int .u8 ((a3 / 65536) % 256)] from rfl) (Reps.one (show Kd.M (Kd.int .u8) _ _ _ ((a3 / 256) % 256) [.int .u8 ((a3 / 256) % 256)] from rfl) (Reps.one (show Kd.M (Kd.int .u8) _ _ _ ((a3) % 256) [.int .u8 ((a3) % 256)] from rfl) (Reps.one (show Kd.M (Kd.int .u8) _ _ _ 0 [.int .u8 0] from rfl) (Reps.one (show Kd.M (Kd.int .u8) _ _ _ 0 [.int .u8 0] from rfl) (Reps.one (show Kd.M (Kd.int .u8) _ _ _ 0 [.int .u8 0] from rfl) (Reps.one (show Kd.M (Kd.int .u8) _ _ _ ((a2) % 256) [.int .u8 ((a2) % 256)] from rfl) (Reps.none _ _)))))))))); intro v179 w8 ho9 hb hg_ hnew_; clear hg_ hnew_; (first | rw [← Ny178.out] at ho9 | (simp only [Int.reduceToNat] at ho9; rw [← Ny178.out] at ho9)); have n0_ := mA (Kd.R_lower ho9 (below_size (by repeat (first | (with_reducible first | exact HB.out | apply bA | apply bN | apply bD) | exact HB.out)))); have n1_ := mA (bP (by repeat (first | (with_reducible first | exact HB.out | apply bA | apply bN | apply bD) | exact HB.out)) hb); clear HB; have HO180 := n0_; have HB := n1_; clear n0_ n1_; clear hb ho9; have hcv10 := own_string (P := Try.prog) Try.underlying25 Try.underlying5 Try.underlying9 (Kd.own_of_R HO180.out)))
    go_ret
    exact ⟨by first | rfl | (simp [errW_none, errW_some] <;> rfl) | (simp [*, errW_none, errW_some] <;> rfl), by repeat (first | (with_reducible first | exact HB.out | apply bA | apply bN | apply bD) | exact HB.out)⟩
   ·rw [if_neg c7] at H
    exact absurd H (by simp)
  ·rw [if_neg c6] at H
   exact absurd H (by simp)
 ·rw [if_neg c5] at H
  have c5b0 : ((a0.size : Int) == 16) = false := beq_eq_false_iff_ne.mpr c5
  have c5b1 : ((a0.size : Int) != 16) = true := bne_iff_ne.mpr c5
  by_cases c11 : a0.size + a1.size ≤ 9223372036854775807
  ·rw [if_pos c11] at H
   have c11b0 := eq_true c11
   have c11b1 : decide (a0.size + a1.size ≤ 9223372036854775807) = true := decide_eq_true c11
   try have c11b2 : (9223372036854775807 < a0.size + a1.size) = False := eq_false (Nat.not_lt.2 c11)
   obtain ⟨y181, hy181⟩ : ∃ y_ : List Int, y_ = (([0, (a2) % 256, (a3 / 256) % 256, (a3) % 256] : List Int)) := ⟨_, rfl⟩
   replace H : (if (a0 ++ a1).size + (strOfNums y181).size ≤ 9223372036854775807 then (some ((a0 ++ a1) ++ (strOfNums y181))) else (none)) = some r := by first | (rw [hy181]; with_reducible exact H) | (have H2_ := (Option.bind_some _ _).symm.trans H; rw [hy181]; with_reducible exact H2_) | (have H2_ := (Option.bind_some _ _).symm.trans H; with_reducible exact H2_) | with_reducible exact H | (rw [hy181]; exact H) | exact H
   have Ny181 := mA hy181
   clear hy181
   by_cases c12 : (a0 ++ a1).size + (strOfNums y181).size ≤ 9223372036854775807
   ·rw [if_pos c12] at H
    have c12b0 := eq_true c12
    have c12b1 : decide ((a0 ++ a1).size + (strOfNums y181).size ≤ 9223372036854775807) = true := decide_eq_true c12
    try have c12b2 : (9223372036854775807 < (a0 ++ a1).size + (strOfNums y181).size) = False := eq_false (Nat.not_lt.2 c12)
    try have c12b3 : (9223372036854775807 < (a0.size) + (a1.size) + (strOfNums y181).size) = False := eq_false (by have h_ := c12; simp only [ByteArray.size_append] at h_; omega)
    try have c12b4 : ((a0.size) + (a1.size) + (strOfNums y181).size ≤ 9223372036854775807) = True := eq_true (by have h_ := c12; simp only [ByteArray.size_append] at h_; omega)
    obtain rfl := Option.some.inj H
    go_enter Try.func43, Try.ntmps43
    go_wp2_with (first | ((with_reducible refine gate_dst (N := 41) rfl ?_); refine Kd.R_lit (Kd.int .u8) _ 5 ?hg (N := 41) ?hd (xs := ([0, (a2) % 256, (a3 / 256) % 256, (a3) % 256] : List Int)) (inner := [.int .u8 0, .int .u8 ((a2) % 256), .int .u8 ((a3 / 256) % 256), .int .u8 ((a3) % 256)]) (ok := fun _ => True) (okp := fun _ => True) ?hr ?hp (fun _ hk => hk) trivial (Below.refl _ _) (Nat.le_refl _) (by simp) ?_; (case hd => rfl); (case hg => rfl); (case hr => first | (go_simp; done) | (go_simp; rfl)); (case hp => exact (Reps.one (show Kd.M (Kd.int .u8) _ _ _ 0 [.int .u8 0] from rfl) (Reps.one (show Kd.M (Kd.int .u8) _ _ _ ((a2) % 256) [.int .u8 ((a2) % 256)] from rfl) (Reps.one (show Kd.M (Kd.int .u8) _ _ _ ((a3 / 256) % 256) [.int .u8 ((a3 / 256) % 256)] from rfl) (Reps.one (show Kd.M (Kd.int .u8) _ _ _ ((a3) % 256) [.int .u8 ((a3) % 256)] from rfl) (Reps.none _ _)))))); intro v182 w13 ho14 hb hg_ hnew_; clear hg_ hnew_; (first | rw [← Ny181.out] at ho14 | (simp only [Int.reduceToNat] at ho14; rw [← Ny181.out] at ho14)); have n0_ := mA (Kd.R_lower ho14 (below_size (by repeat (first | (with_reducible first | exact HB.out | apply bA | apply bN | apply bD) | exact HB.out)))); have n1_ := mA (bP (by repeat (first | (with_reducible first | exact HB.out | apply bA | apply bN | apply bD) | exact HB.out)) hb); clear HB; have HO183 := n0_; have HB := n1_; clear n0_ n1_; clear hb ho14; have hcv15 := own_string (P := Try.prog) Try.underlying25 Try.underlying5 Try.underlying9 (Kd.own_of_R HO183.out)))
    go_ret
    exact ⟨by first | rfl | (simp [errW_none, errW_some] <;> rfl) | (simp [*, errW_none, errW_some] <;> rfl), by repeat (first | (with_reducible first | exact HB.out | apply bA | apply bN | apply bD) | exact HB.out)⟩
   ·rw [if_neg c12] at H
    exact absurd H (by simp)
  ·rw [if_neg c11] at H
   exact absurd H (by simp)

end Go.Proofs.Ytejmipoolbodgaa.G
end

section
/- By hand: ip4.Get: its closure, walked once, with a branch at each Need; then wire.Read round it, and Get. Laid by wip/gen/ip4get.py of this session. -/
namespace Go.Proofs.Ytejmipoolbodgaa.G
open Go.RowKit Go.Proofs.YtejmipoolbodgaaW.PrintWords Go.Proofs.YtejmipoolbodgaaW.PrintLast Go.Proofs.YtejmipoolbodgaaW.PrintMore Go.Proofs.Ytejmipoolbodgaa.Pal
set_option linter.unusedVariables false
set_option linter.unusedSimpArgs false
/-- A region's walk that ends in a panic: told as a walk with nothing left. -/
theorem panicOut4 {P : Program} {fn : Func} {R : Ending → World → Prop} {ch : List PanicEntry} {a : Act} {w : World} (h : wpAny P .any #[] (fun _ a w => bodyPost P fn R (.panic ch) a w) 0 #[] a w) : bodyPost P fn R (.panic ch) a w := h.2

theorem Take4.went (R : Nat) (s : ByteArray) (n m : Nat) (w : World) (h : Rd w R s n) (hm : n + m ≤ s.size) :
    Calls Try.prog 49 #[.pointer (some ⟨R, 0, none⟩), .int .i64 (m : Int)] w fun e w' => e = .returned (.string (s.extract n (n + m))) ∧ Went w w' R s (n + m) := by
  refine (Reader_Take.yes R s n m w h hm).mono ?_
  rintro e w' ⟨rfl, k, j, rfl⟩
  exact ⟨rfl, grown_drewN (World.grownBy.trans (grown_drewN (grown_refl w _) k) (grown_setCell _ _ _ _)) j, (((h.1.drewN k).set 1 (.int .i64 ((n + m : Nat) : Int))).drewN j), hm, h.2.2⟩
/-- What ip4.Get's closure works on: the text, the named result, the header, the payload, Read's result; then the reader. -/
def VG4 (k : Nat) (s : ByteArray) (w w1 : World) (n : Nat) (cs : Array Value) (x : ByteArray) : Prop :=
  Rd w1 (k + 5) s n ∧ Hp w1 [(k, 9, #[.string s]), (k + 1, 93, #[.int .i64 0, .int .i64 0, .int .i64 0, .int .i64 0, .int .i64 0, .bool false, .bool false, .string ⟨#[]⟩, .string ⟨#[]⟩, .string ⟨#[]⟩]), (k + 2, 93, cs), (k + 3, 9, #[.string x]), (k + 4, 38, #[.int .i64 0])] ∧ Below k w w1
theorem VG4.went {k : Nat} {s : ByteArray} {w w1 w2 : World} {n m : Nat} {cs : Array Value} {x : ByteArray} (h : VG4 k s w w1 n cs x) (hw : Went w1 w2 (k + 5) s m) : VG4 k s w w2 m cs x :=
  ⟨hw.2, h.2.1.grown hw.1 (by simp), h.2.2.trans (below_of_grown hw.1 (by have := h.1.1.lt; omega) (by omega))⟩
theorem VG4.put {k : Nat} {s : ByteArray} {w w1 : World} {n : Nat} {cs : Array Value} {x : ByteArray} (h : VG4 k s w w1 n cs x) (j : Nat) (v : Value) : VG4 k s w (w1.setCell ⟨k + 2, j, none⟩ v) n (cs.setIfInBounds j v) x :=
  ⟨⟨h.1.1.other _ (by simp) _, h.1.2⟩, h.2.1.set (l1 := [_, _]) (l2 := [_, _]) j v (by simp) (by simp), h.2.2.setCell (by simp) _⟩
theorem VG4.putSum {k : Nat} {s : ByteArray} {w w1 : World} {n : Nat} {cs : Array Value} {x : ByteArray} (h : VG4 k s w w1 n cs x) (y : ByteArray) : VG4 k s w (w1.setCell ⟨k + 3, 0, none⟩ (.string y)) n cs y :=
  ⟨⟨h.1.1.other _ (by simp) _, h.1.2⟩, h.2.1.set (l1 := [_, _, _]) (l2 := [_]) 0 (.string y) (by simp) (by simp), h.2.2.setCell (by simp) _⟩
theorem VG4.drew {k : Nat} {s : ByteArray} {w w1 : World} {n : Nat} {cs : Array Value} {x : ByteArray} (h : VG4 k s w w1 n cs x) : VG4 k s w w1.drew n cs x := ⟨h.1, h.2.1, h.2.2.drew⟩
theorem VG4.drewN {k : Nat} {s : ByteArray} {w w1 : World} {n : Nat} {cs : Array Value} {x : ByteArray} (h : VG4 k s w w1 n cs x) (j : Nat) : VG4 k s w (w1.drewN j) n cs x := ⟨h.1, h.2.1, pw_below_drewN h.2.2 j⟩
theorem VG4.facts {k : Nat} {s : ByteArray} {w w1 : World} {n : Nat} {cs : Array Value} {x : ByteArray} (h : VG4 k s w w1 n cs x) :
    w1.cell? ⟨k, 0, none⟩ = some (.string s) ∧ (∀ j, w1.frozen? ⟨k + 2, j, none⟩ = false) ∧ (∀ j, w1.cell? ⟨k + 2, j, none⟩ = cs[j]?) ∧ w1.cell? ⟨k + 3, 0, none⟩ = some (.string x) ∧ w1.frozen? ⟨k + 3, 0, none⟩ = false :=
  ⟨h.2.1.head.cell 0 _ rfl, h.2.1.tail.tail.head.frees, h.2.1.tail.tail.head.cells, h.2.1.tail.tail.tail.head.cell 0 _ rfl, h.2.1.tail.tail.tail.head.free 0⟩

def zero4 : Array Value := #[.int .i64 0, .int .i64 0, .int .i64 0, .int .i64 0, .int .i64 0, .bool false, .bool false, .string ⟨#[]⟩, .string ⟨#[]⟩, .string ⟨#[]⟩]

theorem VG4.step {k : Nat} {s : ByteArray} {w w1 w2 : World} {n : Nat} {cs : Array Value} {x : ByteArray} (h : VG4 k s w w1 n cs x) (hb : Below w1.heap.size w1 w2) : VG4 k s w w2 n cs x :=
  ⟨⟨h.1.1.below hb h.1.1.lt, h.1.2⟩, h.2.1.below hb (fun y hy => (h.2.1 y hy).lt), h.2.2.trans (hb.mono (by have := h.1.1.lt; omega))⟩
theorem right_one (t : ByteArray) (h : t.size ≤ 1099511627776) : sum_Right.f [t] = some (csum (bl t) == 0) := by
  have e : cat [t] = bl t := by rw [cat_cons, cat_nil, List.append_nil]
  unfold sum_Right.f sum_Sum.f
  rw [if_pos (by rw [e, bl_length]; exact h), e, Option.bind_some]
  congr 1
  rw [Bool.eq_iff_iff]; simp
theorem flagA (F : Nat) : (((F : Int) / 16384 % 2) == 1) = (F / 16384 % 2 == 1) := by rw [Bool.eq_iff_iff, beq_iff_eq, beq_iff_eq]; omega
theorem flagB (F : Nat) : (((F : Int) / 8192 % 2) == 1) = (F / 8192 % 2 == 1) := by rw [Bool.eq_iff_iff, beq_iff_eq, beq_iff_eq]; omega
theorem flagC (F : Nat) : ((F : Int) % 8192) = ((F % 8192 : Nat) : Int) := by omega
theorem less20 (N : Nat) (h : 20 ≤ N) (h2 : N ≤ 60) : ∃ M : Nat, 20 + M = N ∧ ((N : Int) - 20) = (M : Int) ∧ wrap64 ((N : Int) - 20) = (M : Int) ∧ IntKind.i64.wrap ((N : Int) - 20) = (M : Int) := by
  refine ⟨N - 20, by omega, by omega, ?_, ?_⟩
  · unfold wrap64; omega
  · rw [IntKind.wrap_i64]; omega
def final4 (s : ByteArray) : Array Value := #[(.int .i64 (be (bl (s.extract 1 2)) : Nat)), (.int .i64 (be (bl (s.extract 4 6)) : Nat)), (.int .i64 ((be (bl (s.extract 6 8)) % 8192 : Nat) : Int)), (.int .i64 (be (bl (s.extract 8 9)) : Nat)), (.int .i64 (be (bl (s.extract 9 10)) : Nat)), (.bool (be (bl (s.extract 6 8)) / 16384 % 2 == 1)), (.bool (be (bl (s.extract 6 8)) / 8192 % 2 == 1)), (.string (s.extract 12 16)), (.string (s.extract 16 20)), (.string (s.extract 20 (hl4 s)))]


set_option maxHeartbeats 8000000 in
set_option maxRecDepth 100000 in
theorem ip4_Get1.walk (k : Nat) (s : ByteArray) (w w1 : World) (h : VG4 k s w w1 0 zero4 ⟨#[]⟩) :
    Calls Try.prog 155 #[.pointer (some ⟨k + 5, 0, none⟩), .pointer (some ⟨k, 0, none⟩), .pointer (some ⟨k + 2, 0, none⟩), .pointer (some ⟨k + 3, 0, none⟩)] w1 fun e w2 => e = did (ip4Err s) ∧ ∃ n cs x, VG4 k s w w2 n cs x ∧ (ip4Err s = 0 → cs = final4 s ∧ x = s.extract (hl4 s) s.size) := by
  have HG := Aside0.mk h
  obtain ⟨c0, c1, c2, c3, c4⟩ := h.facts
  clear h c1 c2 c3 c4
  go_enter Try.func155, Try.ntmps155
  by_cases h20 : s.size < 20
  · have he : ip4Err s = 2 := if_pos h20
    have d1 : decide ((20 : Int) ≤ (s.size : Int)) = false := decide_eq_false (by omega)
    have d2 : decide (20 ≤ s.size) = false := decide_eq_false (by omega)
    clear h20
    go_wp2_with fail
    refine (Reader_Need.no _ _ _).mono ?_
    rintro e w2 ⟨rfl, rfl⟩
    exact ⟨rfl, by rw [he]; rfl, _, _, _, HG.out, fun h0 => absurd (he.symm.trans h0) (by decide)⟩
  have d1 : decide ((20 : Int) ≤ (s.size : Int)) = true := decide_eq_true (by omega)
  have d2 : decide (20 ≤ s.size) = true := decide_eq_true (by omega)
  go_wp2_with fail
  refine (Reader_Need.yes _ _ _).mono ?_
  rintro e w2 ⟨rfl, rfl⟩
  clear d1 d2
  go_wp2_with fail
  refine (Reader_U8.yes _ _ _ _ HG.out.1 (by omega)).mono ?_
  rintro e w2 ⟨rfl, g1⟩
  replace HG := Aside0.mk (HG.out.went g1)
  clear g1 c0
  have hB : be (bl (s.extract 0 1)) < 256 := be_lt_of _ 1 (by rw [bl_length, ByteArray.size_extract]; omega)
  have m1 : Go.bits .and .i64 ((be (bl (s.extract 0 1)) : Nat) : Int) 15 = ((be (bl (s.extract 0 1)) % 16 : Nat) : Int) := by exact Pure.and15 _ (by omega)
  have m2 : wrap64 (4 * ((be (bl (s.extract 0 1)) % 16 : Nat) : Int)) = ((hl4 s : Nat) : Int) := by unfold hl4 wrap64; omega
  have m3 : IntKind.i64.wrap (4 * ((be (bl (s.extract 0 1)) % 16 : Nat) : Int)) = ((hl4 s : Nat) : Int) := by rw [IntKind.wrap_i64]; unfold hl4; omega
  have HN := Aside0.mk (show hl4 s ≤ 60 by unfold hl4; omega)
  by_cases hv : be (bl (s.extract 0 1)) / 16 = 4
  case neg =>
    have he : ip4Err s = 3 := by unfold ip4Err; rw [if_neg h20, if_neg hv]
    have v1 : (((be (bl (s.extract 0 1)) : Nat) : Int) / 16 == 4) = false := by rw [beq_eq_false_iff_ne]; omega
    have v2 : ((be (bl (s.extract 0 1))) / 16 == 4) = false := by rw [beq_eq_false_iff_ne]; exact hv
    go_wp2_with fail
    refine (Reader_Need.no _ _ _).mono ?_
    rintro e w3 ⟨rfl, rfl⟩
    exact ⟨rfl, by rw [he]; rfl, _, _, _, HG.out, fun h0 => absurd (he.symm.trans h0) (by decide)⟩
  have v1 : (((be (bl (s.extract 0 1)) : Nat) : Int) / 16 == 4) = true := by rw [beq_iff_eq]; omega
  have v2 : ((be (bl (s.extract 0 1))) / 16 == 4) = true := by rw [beq_iff_eq]; exact hv
  have HV := Aside0.mk hv
  clear hv
  have e4 : (4 * (((be (bl (s.extract 0 1)) : Nat) : Int) % 16)) = ((hl4 s : Nat) : Int) := by unfold hl4; omega
  go_wp2_with fail
  clear e4
  refine (Reader_Need.yes _ _ _).mono ?_
  rintro e w3 ⟨rfl, rfl⟩
  clear v1 v2 m1 m2 m3 hB
  go_wp2_with fail
  refine (Reader_U8.yes _ _ _ _ HG.out.1 (by omega)).mono ?_
  rintro e w3 ⟨rfl, g1⟩
  replace HG := Aside0.mk (HG.out.went g1)
  clear g1
  obtain ⟨c0, c1, c2, c3, c4⟩ := HG.out.facts
  simp only [zero4] at c2
  clear c0 c3 c4
  have HX := Aside0.mk h20
  clear h20
  go_wp2
  clear c1 c2
  replace HG := Aside0.mk (HG.out.put 0 (.int .i64 (be (bl (s.extract 1 2)) : Nat)))
  simp only [zero4, List.setIfInBounds_toArray, List.set_cons_zero, List.set_cons_succ] at HG
  generalize w3.setCell ⟨k + 2, 0, none⟩ (.int .i64 (be (bl (s.extract 1 2)) : Nat)) = w4 at HG ⊢
  generalize hN : hl4 s = N at HN ⊢
  have HNN := Aside0.mk hN
  clear hN
  have c0 := HG.out.facts.1
  by_cases hl : 20 ≤ N
  case neg =>
    have l1 : decide ((20 : Int) ≤ (N : Int)) = false := decide_eq_false (by omega)
    have l2 : decide (20 ≤ N) = false := decide_eq_false hl
    have he : ip4Err s = 4 := by unfold ip4Err; rw [if_neg HX.out, if_pos HV.out, if_neg (by rw [HNN.out]; exact fun h => hl h.1)]
    go_still_tail 16, (by kernel_rfl)
    change wpList _ _ _ _ _ w4.drew
    go_wp2_with fail
    refine (Reader_Need.no _ _ _).mono ?_
    rintro e w6 ⟨rfl, rfl⟩
    exact ⟨rfl, by rw [he]; rfl, _, _, _, HG.out.drew, fun h0 => absurd (he.symm.trans h0) (by decide)⟩
  have l1 : decide ((20 : Int) ≤ (N : Int)) = true := decide_eq_true (by omega)
  have l2 : decide (20 ≤ N) = true := decide_eq_true hl
  by_cases hm : N ≤ s.size
  case neg =>
    have m1 : decide ((N : Int) ≤ (s.size : Int)) = false := decide_eq_false (by omega)
    have m2 : decide (N ≤ s.size) = false := decide_eq_false hm
    have he : ip4Err s = 4 := by unfold ip4Err; rw [if_neg HX.out, if_pos HV.out, if_neg (by rw [HNN.out]; exact fun h => hm h.2.1)]
    go_still_tail 16, (by kernel_rfl)
    change wpList _ _ _ _ _ w4.drew
    go_wp2_with fail
    refine (Reader_Need.no _ _ _).mono ?_
    rintro e w6 ⟨rfl, rfl⟩
    exact ⟨rfl, by rw [he]; rfl, _, _, _, HG.out.drew, fun h0 => absurd (he.symm.trans h0) (by decide)⟩
  have m1 : decide ((N : Int) ≤ (s.size : Int)) = true := decide_eq_true (by omega)
  have m2 : decide (N ≤ s.size) = true := decide_eq_true hm
  by_cases ht : be (bl (s.extract 2 4)) = s.size
  case neg =>
    have t1 : (((be (bl (s.extract 2 4)) : Nat) : Int) == (s.size : Int)) = false := by rw [beq_eq_false_iff_ne]; omega
    have t2 : (be (bl (s.extract 2 4)) == s.size) = false := by rw [beq_eq_false_iff_ne]; exact ht
    have he : ip4Err s = 4 := by unfold ip4Err; rw [if_neg HX.out, if_pos HV.out, if_neg (fun h => ht h.2.2)]
    clear hl hm ht
    go_region_with ((first
      | (go_at_call 127; refine (Reader_U16.yes _ _ 2 _ HG.out.drew.1 ?_).mono ?_; (have := HX.out; omega); rintro e w5 ⟨rfl, g1⟩; have HG3 := Aside0.mk (HG.out.drew.went g1); have c3 := HG3.out.facts.1; clear g1)
      | (go_at_call 50; refine (Reader_Need.no _ _ _).mono ?_; rintro e w6 ⟨rfl, rfl⟩; refine panicOut4 ?_)))
    all_goals exact ⟨rfl, by rw [he]; rfl, _, _, _, HG3.out, fun h0 => absurd (he.symm.trans h0) (by decide)⟩
  have t1 : (((be (bl (s.extract 2 4)) : Nat) : Int) == (s.size : Int)) = true := by rw [beq_iff_eq]; omega
  have t2 : (be (bl (s.extract 2 4)) == s.size) = true := by rw [beq_iff_eq]; exact ht
  have HM := Aside0.mk (show 20 ≤ N ∧ N ≤ s.size ∧ be (bl (s.extract 2 4)) = s.size from ⟨hl, hm, ht⟩)
  clear hl hm ht
  go_region_with ((first
    | (go_at_call 127; refine (Reader_U16.yes _ _ 2 _ HG.out.drew.1 ?_).mono ?_; (have := HX.out; omega); rintro e w5 ⟨rfl, g1⟩; have HG3 := Aside0.mk (HG.out.drew.went g1); have c3 := HG3.out.facts.1; clear g1)
    | (go_at_call 50; refine (Reader_Need.yes _ _ _).mono ?_; rintro e w6 ⟨rfl, rfl⟩)))
  all_goals
    clear c0 l1 l2 m1 m2 t1 t2
    replace HG := HG3
    clear HG3
    have s1 : ((N : Int) ≤ (s.size : Int)) = True := eq_true (by have := HM.out; omega)
    have s2 : (N ≤ s.size) = True := eq_true HM.out.2.1
    go_wp2_with fail
    refine (sum_Right.calls _ _ [s.extract 0 N] (csum (bl (s.extract 0 N)) == 0) _ (C_one _ _ _) (by simp) (right_one _ (by simp only [ByteArray.size_extract]; have := HN.out; omega))).mono ?_
    rintro e w7 ⟨rfl, g1⟩
    replace HG := Aside0.mk (HG.out.step (((Below.refl w6.heap.size w6).alloc (Nat.le_refl _) _).trans (g1.mono (by simp))))
    clear g1 s1 s2
    by_cases hz : csum (bl (s.extract 0 N)) = 0
    case neg =>
      have z1 : (csum (bl (s.extract 0 N)) == 0) = false := by rw [beq_eq_false_iff_ne]; exact hz
      have he : ip4Err s = 5 := by unfold ip4Err; rw [if_neg HX.out, if_pos HV.out, HNN.out, if_pos HM.out, if_neg hz]
      rw [z1]
      clear hz z1
      go_wp2_with fail
      refine (Reader_Need.no _ _ _).mono ?_
      rintro e w8 ⟨rfl, rfl⟩
      exact ⟨rfl, by rw [he]; rfl, _, _, _, HG.out, fun h0 => absurd (he.symm.trans h0) (by decide)⟩
    have z1 : (csum (bl (s.extract 0 N)) == 0) = true := by rw [beq_iff_eq]; exact hz
    rw [z1]
    have HZ := Aside0.mk hz
    clear hz z1
    go_wp2_with fail
    refine (Reader_Need.yes _ _ _).mono ?_
    rintro e w8 ⟨rfl, rfl⟩
    go_wp2_with fail
    refine (Reader_U16.yes _ _ _ _ HG.out.1 (by have := HM.out; have := HX.out; omega)).mono ?_
    rintro e w9 ⟨rfl, g1⟩
    replace HG := Aside0.mk (HG.out.went g1)
    clear g1
    obtain ⟨c0, c1, c2, c3, c4⟩ := HG.out.facts
    clear c0 c3 c4
    go_wp2_with fail
    clear c1 c2
    replace HG := Aside0.mk (HG.out.put 1 (.int .i64 (be (bl (s.extract 4 6)) : Nat)))
    simp only [List.setIfInBounds_toArray, List.set_cons_zero, List.set_cons_succ] at HG
    generalize (w9.setCell ⟨k + 2, 1, none⟩ (.int .i64 (be (bl (s.extract 4 6)) : Nat))) = wa at HG ⊢
    refine (Reader_U16.yes _ _ _ _ HG.out.1 (by have := HM.out; have := HX.out; omega)).mono ?_
    rintro e w10 ⟨rfl, g1⟩
    replace HG := Aside0.mk (HG.out.went g1)
    clear g1
    have hF : be (bl (s.extract 6 8)) < 65536 := be_lt_of _ 2 (by rw [bl_length, ByteArray.size_extract]; have := HX.out; omega)
    by_cases hf : be (bl (s.extract 6 8)) / 32768 = 0
    case neg =>
      have z1 : (((be (bl (s.extract 6 8)) : Nat) : Int) / 32768 == 0) = false := by rw [beq_eq_false_iff_ne]; omega
      have z2 : (be (bl (s.extract 6 8)) / 32768 == 0) = false := by rw [beq_eq_false_iff_ne]; exact hf
      have he : ip4Err s = 9 := by unfold ip4Err; rw [if_neg HX.out, if_pos HV.out, HNN.out, if_pos HM.out, if_pos HZ.out, if_neg hf]
      clear hf hF
      go_wp2_with fail
      refine (Reader_Need.no _ _ _).mono ?_
      rintro e w11 ⟨rfl, rfl⟩
      exact ⟨rfl, by rw [he]; rfl, _, _, _, HG.out, fun h0 => absurd (he.symm.trans h0) (by decide)⟩
    have z1 : (((be (bl (s.extract 6 8)) : Nat) : Int) / 32768 == 0) = true := by rw [beq_iff_eq]; omega
    have z2 : (be (bl (s.extract 6 8)) / 32768 == 0) = true := by rw [beq_iff_eq]; exact hf
    have he : ip4Err s = 0 := by unfold ip4Err; rw [if_neg HX.out, if_pos HV.out, HNN.out, if_pos HM.out, if_pos HZ.out, if_pos hf]
    have HE := Aside0.mk he
    clear hf he
    go_wp2_with fail
    refine (Reader_Need.yes _ _ _).mono ?_
    rintro e w11 ⟨rfl, rfl⟩
    clear z1 z2
    have a1 : Go.bits .and .i64 (((be (bl (s.extract 6 8)) : Nat) : Int) / 16384) 1 = ((be (bl (s.extract 6 8)) / 16384 % 2 : Nat) : Int) := by rw [show ((be (bl (s.extract 6 8)) : Nat) : Int) / 16384 = ((be (bl (s.extract 6 8)) / 16384 : Nat) : Int) by omega]; exact Pure.and1 _ (by omega)
    have a2 : Go.bits .and .i64 (((be (bl (s.extract 6 8)) : Nat) : Int) / 8192) 1 = ((be (bl (s.extract 6 8)) / 8192 % 2 : Nat) : Int) := by rw [show ((be (bl (s.extract 6 8)) : Nat) : Int) / 8192 = ((be (bl (s.extract 6 8)) / 8192 : Nat) : Int) by omega]; exact Pure.and1 _ (by omega)
    have a3 : Go.bits .and .i64 ((be (bl (s.extract 6 8)) : Nat) : Int) 8191 = ((be (bl (s.extract 6 8)) % 8192 : Nat) : Int) := Pure.and8191 _ hF
    obtain ⟨c0, c1, c2, c3, c4⟩ := HG.out.facts
    clear c0 c3 c4
    go_wp2_with fail
    rw [flagA, flagB, flagC]
    clear c1 c2 a1 a2 a3 hF
    replace HG := Aside0.mk (((HG.out.put 5 (.bool (be (bl (s.extract 6 8)) / 16384 % 2 == 1))).put 6 (.bool (be (bl (s.extract 6 8)) / 8192 % 2 == 1))).put 2 (.int .i64 ((be (bl (s.extract 6 8)) % 8192 : Nat) : Int)))
    simp only [List.setIfInBounds_toArray, List.set_cons_zero, List.set_cons_succ] at HG
    generalize (((w11.setCell ⟨k + 2, 5, none⟩ (.bool (be (bl (s.extract 6 8)) / 16384 % 2 == 1))).setCell ⟨k + 2, 6, none⟩ (.bool (be (bl (s.extract 6 8)) / 8192 % 2 == 1))).setCell ⟨k + 2, 2, none⟩ (.int .i64 ((be (bl (s.extract 6 8)) % 8192 : Nat) : Int))) = wa at HG ⊢
    refine (Reader_U8.yes _ _ _ _ HG.out.1 (by have := HM.out; have := HX.out; omega)).mono ?_
    rintro e w12 ⟨rfl, g1⟩
    replace HG := Aside0.mk (HG.out.went g1)
    clear g1
    go_wp2_with fail
    refine (Reader_U8.yes _ _ _ _ HG.out.1 (by have := HM.out; have := HX.out; omega)).mono ?_
    rintro e w13 ⟨rfl, g1⟩
    replace HG := Aside0.mk (HG.out.went g1)
    clear g1
    obtain ⟨c0, c1, c2, c3, c4⟩ := HG.out.facts
    clear c0 c3 c4
    go_wp2_with fail
    clear c1 c2
    replace HG := Aside0.mk ((HG.out.put 3 (.int .i64 (be (bl (s.extract 8 9)) : Nat))).put 4 (.int .i64 (be (bl (s.extract 9 10)) : Nat)))
    simp only [List.setIfInBounds_toArray, List.set_cons_zero, List.set_cons_succ] at HG
    generalize ((w13.setCell ⟨k + 2, 3, none⟩ (.int .i64 (be (bl (s.extract 8 9)) : Nat))).setCell ⟨k + 2, 4, none⟩ (.int .i64 (be (bl (s.extract 9 10)) : Nat))) = wa at HG ⊢
    refine (Reader_U16.yes _ _ _ _ HG.out.1 (by have := HM.out; have := HX.out; omega)).mono ?_
    rintro e w14 ⟨rfl, g1⟩
    replace HG := Aside0.mk (HG.out.went g1)
    clear g1
    go_wp2_with fail
    refine (Take4.went _ _ _ 4 _ HG.out.1 (by have := HM.out; have := HX.out; omega)).mono ?_
    rintro e w15 ⟨rfl, g1⟩
    replace HG := Aside0.mk (HG.out.went g1)
    clear g1
    go_wp2_with fail
    refine (Take4.went _ _ _ 4 _ HG.out.1 (by have := HM.out; have := HX.out; omega)).mono ?_
    rintro e w16 ⟨rfl, g1⟩
    replace HG := Aside0.mk (HG.out.went g1)
    clear g1
    obtain ⟨c0, c1, c2, c3, c4⟩ := HG.out.facts
    clear c0 c3 c4
    obtain ⟨M, hM, e1, e2, e3⟩ := less20 N HM.out.1 HN.out
    have HS := Aside0.mk hM
    have HS2 := Aside0.mk e2
    clear hM e1 e2 e3
    go_wp2_with fail
    rw [HS2.out]
    clear c1 c2
    replace HG := Aside0.mk ((HG.out.put 7 (.string (s.extract 12 16))).put 8 (.string (s.extract 16 20)))
    simp only [List.setIfInBounds_toArray, List.set_cons_zero, List.set_cons_succ] at HG
    generalize ((w16.setCell ⟨k + 2, 7, none⟩ (.string (s.extract 12 16))).setCell ⟨k + 2, 8, none⟩ (.string (s.extract 16 20))) = wa at HG ⊢
    refine (Take4.went _ _ _ M _ HG.out.1 (by have := HM.out; have := HS.out; omega)).mono ?_
    rintro e w17 ⟨rfl, g1⟩
    replace HG := Aside0.mk (HG.out.went g1)
    clear g1
    go_wp2_with fail
    refine (Reader_Rest.calls _ _ _ _ HG.out.1).mono ?_
    rintro e w18 ⟨rfl, g1⟩
    replace HG := Aside0.mk (HG.out.went g1)
    clear g1
    obtain ⟨c0, c1, c2, c3, c4⟩ := HG.out.facts
    clear c0
    go_wp2
    go_end0
    refine ⟨by rw [HE.out]; rfl, _, _, _, (HG.out.put 9 _).putSum _, fun _ => ⟨?_, ?_⟩⟩
    · have h20 : 20 + M = N := HS.out
      simp only [List.setIfInBounds_toArray, List.set_cons_zero, List.set_cons_succ, final4, HNN.out, h20]
    · have h20 : 20 + M = N := HS.out
      simp only [HNN.out, h20]

end Go.Proofs.Ytejmipoolbodgaa.G
end

section
/- By hand: wire.Read round ip4.Get's closure, and ip4.Get. Turned from XHIp6. -/
namespace Go.Proofs.Ytejmipoolbodgaa.G
open Go.RowKit Go.Proofs.YtejmipoolbodgaaW.PrintWords Go.Proofs.YtejmipoolbodgaaW.PrintLast Go.Proofs.YtejmipoolbodgaaW.PrintMore Go.Proofs.Ytejmipoolbodgaa.Pal
set_option linter.unusedVariables false
set_option linter.unusedSimpArgs false
/-- What Get's closure leaves, and Read's end behind it. -/
def VR4 (k : Nat) (s : ByteArray) (w w1 : World) : Prop :=
  ∃ cs x, Hp w1 [(k, 9, #[.string s]), (k + 1, 93, #[.int .i64 0, .int .i64 0, .int .i64 0, .int .i64 0, .int .i64 0, .bool false, .bool false, .string ⟨#[]⟩, .string ⟨#[]⟩, .string ⟨#[]⟩]), (k + 2, 93, cs), (k + 3, 9, #[.string x])] ∧ Below k w w1 ∧
    (ip4Err s = 0 → cs = final4 s ∧ x = s.extract (hl4 s) s.size)
theorem VG4.done {k : Nat} {s : ByteArray} {w w1 w2 : World} {n : Nat} {cs : Array Value} {x : ByteArray} (h : VG4 k s w w1 n cs x) (hw : w1.grownBy w2 (some (k + 4)))
    (hx : ip4Err s = 0 → cs = final4 s ∧ x = s.extract (hl4 s) s.size) : VR4 k s w w2 :=
  ⟨cs, x, Hp.grown (R := k + 4) (fun y hy => h.2.1 y (by simp at hy ⊢; rcases hy with rfl | rfl | rfl | rfl <;> simp)) hw (by simp), h.2.2.trans (below_of_grown hw (by have := h.1.1.lt; omega) (by omega)), hx⟩

set_option maxRecDepth 100000 in
theorem ip4_Get.reads (s : ByteArray) (hs : s.size ≤ 140737488351232) (w : World) :
    Calls Try.prog 46 #[.string s, .func (.func 155) #[] #[.pointer (some ⟨w.heap.size, 0, none⟩), .pointer (some ⟨w.heap.size + 1 + 1, 0, none⟩), .pointer (some ⟨w.heap.size + 1 + 1 + 1, 0, none⟩)]]
      ((((w.alloc (.cells #[.string s] 9)).alloc (.cells #[.int .i64 0, .int .i64 0, .int .i64 0, .int .i64 0, .int .i64 0, .bool false, .bool false, .string ⟨#[]⟩, .string ⟨#[]⟩, .string ⟨#[]⟩] 93)).alloc (.cells #[.int .i64 0, .int .i64 0, .int .i64 0, .int .i64 0, .int .i64 0, .bool false, .bool false, .string ⟨#[]⟩, .string ⟨#[]⟩, .string ⟨#[]⟩] 93)).alloc (.cells #[.string ⟨#[]⟩] 9))
      fun e w' => e = .returned (.int .i64 (ip4Err s)) ∧ VR4 w.heap.size s w w' := by
  obtain ⟨W, hW⟩ : ∃ W, W = ((((w.alloc (.cells #[.string s] 9)).alloc (.cells #[.int .i64 0, .int .i64 0, .int .i64 0, .int .i64 0, .int .i64 0, .bool false, .bool false, .string ⟨#[]⟩, .string ⟨#[]⟩, .string ⟨#[]⟩] 93)).alloc (.cells #[.int .i64 0, .int .i64 0, .int .i64 0, .int .i64 0, .int .i64 0, .bool false, .bool false, .string ⟨#[]⟩, .string ⟨#[]⟩, .string ⟨#[]⟩] 93)).alloc (.cells #[.string ⟨#[]⟩] 9)) := ⟨_, rfl⟩
  have hk : W.heap.size = w.heap.size + 4 := by rw [hW]; simp
  have b0 : Blk W w.heap.size 9 #[.string s] := by rw [hW]; exact (((Blk.new w _ _).alloc _).alloc _).alloc _
  have b1 : Blk W (w.heap.size + 1) 93 #[.int .i64 0, .int .i64 0, .int .i64 0, .int .i64 0, .int .i64 0, .bool false, .bool false, .string ⟨#[]⟩, .string ⟨#[]⟩, .string ⟨#[]⟩] := by
    rw [hW]
    have := Blk.new (w.alloc (.cells #[.string s] 9)) 93 #[.int .i64 0, .int .i64 0, .int .i64 0, .int .i64 0, .int .i64 0, .bool false, .bool false, .string ⟨#[]⟩, .string ⟨#[]⟩, .string ⟨#[]⟩]
    rw [World.size_alloc] at this
    exact (this.alloc _).alloc _
  have b2 : Blk W (w.heap.size + 2) 93 #[.int .i64 0, .int .i64 0, .int .i64 0, .int .i64 0, .int .i64 0, .bool false, .bool false, .string ⟨#[]⟩, .string ⟨#[]⟩, .string ⟨#[]⟩] := by
    rw [hW]
    have := Blk.new ((w.alloc (.cells #[.string s] 9)).alloc (.cells #[.int .i64 0, .int .i64 0, .int .i64 0, .int .i64 0, .int .i64 0, .bool false, .bool false, .string ⟨#[]⟩, .string ⟨#[]⟩, .string ⟨#[]⟩] 93)) 93 #[.int .i64 0, .int .i64 0, .int .i64 0, .int .i64 0, .int .i64 0, .bool false, .bool false, .string ⟨#[]⟩, .string ⟨#[]⟩, .string ⟨#[]⟩]
    rw [World.size_alloc, World.size_alloc] at this
    exact this.alloc _
  have b3 : Blk W (w.heap.size + 3) 9 #[.string ⟨#[]⟩] := by
    rw [hW]
    have := Blk.new (((w.alloc (.cells #[.string s] 9)).alloc (.cells #[.int .i64 0, .int .i64 0, .int .i64 0, .int .i64 0, .int .i64 0, .bool false, .bool false, .string ⟨#[]⟩, .string ⟨#[]⟩, .string ⟨#[]⟩] 93)).alloc (.cells #[.int .i64 0, .int .i64 0, .int .i64 0, .int .i64 0, .int .i64 0, .bool false, .bool false, .string ⟨#[]⟩, .string ⟨#[]⟩, .string ⟨#[]⟩] 93)) 9 #[.string ⟨#[]⟩]
    rw [World.size_alloc, World.size_alloc, World.size_alloc] at this
    exact this
  have hb : Below w.heap.size w W := by
    rw [hW]
    exact ((((Below.refl _ _).alloc (Nat.le_refl _) _).alloc (by simp) _).alloc (by simp; omega) _).alloc (by simp; omega) _
  rw [← hW]
  clear hW
  have hrd := readW_rd W s hs
  have hres := readW_res W s
  have hbl := readW_below W s
  rw [hk] at hrd hres hbl
  have hG : VG4 w.heap.size s w (readW W s) 0 zero4 ⟨#[]⟩ :=
    ⟨hrd, .cons (b0.below hbl (by omega)) (.cons (b1.below hbl (by omega)) (.cons (b2.below hbl (by omega)) (.cons (b3.below hbl (by omega)) (.cons hres (.nil _))))), hb.trans (hbl.mono (by omega))⟩
  have hrd' : ∀ Q : World → Prop, Calls Try.prog 155 (#[.pointer (some ⟨W.heap.size + 1, 0, none⟩)] ++ #[.pointer (some ⟨w.heap.size, 0, none⟩), .pointer (some ⟨w.heap.size + 1 + 1, 0, none⟩), .pointer (some ⟨w.heap.size + 1 + 1 + 1, 0, none⟩)]) (readW W s) (fun e w2 => e = did (ip4Err s) ∧ Blk w2 W.heap.size 38 #[.int .i64 0] ∧ Q w2) →
      Calls Try.prog 46 #[.string s, .func (.func 155) #[] #[.pointer (some ⟨w.heap.size, 0, none⟩), .pointer (some ⟨w.heap.size + 1 + 1, 0, none⟩), .pointer (some ⟨w.heap.size + 1 + 1 + 1, 0, none⟩)]] W
        fun e w' => e = .returned (.int .i64 (ip4Err s)) ∧ ∃ w2, Q w2 ∧ w2.grownBy w' (some W.heap.size) :=
    fun Q h => Read_calls 155 _ s (ip4Err s) W Q (fun _ _ => rfl) h
  rw [hk] at hrd'
  clear hrd hres hbl b0 b1 b2 b3 hb
  refine (hrd' (fun w2 => ∃ n cs x, VG4 w.heap.size s w w2 n cs x ∧ (ip4Err s = 0 → cs = final4 s ∧ x = s.extract (hl4 s) s.size)) ?_).mono ?_
  · refine (ip4_Get1.walk w.heap.size s w (readW W s) hG).mono ?_
    rintro e w2 ⟨rfl, n, cs, x, hu, hx⟩
    exact ⟨rfl, hu.2.1.tail.tail.tail.tail.head, n, cs, x, hu, hx⟩
  · rintro e w' ⟨rfl, w2, ⟨n, cs, x, hu, hx⟩, hg⟩
    exact ⟨rfl, hu.done hg hx⟩

set_option maxHeartbeats 1000000 in
set_option maxRecDepth 100000 in
theorem ip4_Get.calls (s : ByteArray) (r1 r2 r3 r4 r5 : Int) (r6 r7 : Bool) (r8 r9 r10 r11 : ByteArray) (r12 : Int) (w : World) (h : ip4_Get.f s = some (r1, r2, r3, r4, r5, r6, r7, r8, r9, r10, r11, r12)) :
    Calls Try.prog 111 #[.string s] w fun e w' => e = .returned (.tuple #[.agg #[.int .i64 r1, .int .i64 r2, .int .i64 r3, .int .i64 r4, .int .i64 r5, .bool r6, .bool r7, .string r8, .string r9, .string r10], .string r11, .int .i64 r12]) ∧ Below w.heap.size w w' := by
  unfold ip4_Get.f at h
  by_cases hs : s.size ≤ 140737488351232
  case neg => rw [if_neg hs] at h; exact absurd h (by simp)
  rw [if_pos hs] at h
  have hmf : ∀ (fn : Fn) (first cap : Array Value) (w : World), (Instr.makeFunc fn first cap).run Try.prog w = .ok (.func fn first cap) w := fun _ _ _ _ => rfl
  have hu := Try.underlying93
  have HS := Aside0.mk hs
  clear hs
  by_cases h0 : ip4Err s = 0
  · rw [if_pos h0] at h
    replace h := Option.some.inj h
    simp only [Prod.mk.injEq] at h
    obtain ⟨rfl, rfl, rfl, rfl, rfl, rfl, rfl, rfl, rfl, rfl, rfl, rfl⟩ := h
    have d1 : (ip4Err s != 0) = false := bne_eq_false_iff_eq.mpr h0
    have h := Aside0.mk h0
    clear h0
    go_enter Try.func111, Try.ntmps111
    go_wp2_with fail
    refine (ip4_Get.reads s HS.out w).mono ?_
    rintro e w2 ⟨rfl, cs, x, hp, hb, hx⟩
    obtain ⟨rfl, rfl⟩ := hx h.out
    have HB := Aside0.mk hb
    have c1 := hp.tail.head.cells
    have c2 := hp.tail.head.frees
    have c3 := hp.tail.tail.head.cells
    simp only [final4] at c3
    have c4 := hp.tail.tail.tail.head.cell 0 _ rfl
    have HK := Aside0.mk hp.tail.head
    clear hp hb hx
    go_wp2_with fail
    go_region
    all_goals
      have c5 := ((((((((((HK.out.set 0 (.int .i64 (be (bl (s.extract 1 2)) : Nat))).set 1 (.int .i64 (be (bl (s.extract 4 6)) : Nat))).set 2 (.int .i64 (((be (bl (s.extract 6 8)) : Nat) : Int) % 8192))).set 3 (.int .i64 (be (bl (s.extract 8 9)) : Nat))).set 4 (.int .i64 (be (bl (s.extract 9 10)) : Nat))).set 5 (.bool (be (bl (s.extract 6 8)) / 16384 % 2 == 1))).set 6 (.bool (be (bl (s.extract 6 8)) / 8192 % 2 == 1))).set 7 (.string (s.extract 12 16))).set 8 (.string (s.extract 16 20))).set 9 (.string (s.extract 20 (hl4 s)))).drew.cells
      simp only [List.setIfInBounds_toArray, List.set_cons_zero, List.set_cons_succ] at c5
      clear c1 c2 c3 c4
      go_wp2
      refine ⟨rfl, _, ?_, rfl, ?_⟩
      rotate_left
      · exact ((((((((((HB.out.setCell (by simp) _).setCell (by simp) _).setCell (by simp) _).setCell (by simp) _).setCell (by simp) _).setCell (by simp) _).setCell (by simp) _).setCell (by simp) _).setCell (by simp) _).setCell (by simp) _).drew
      simp [results, Try.results111, go_sem, hu, c5]
  · rw [if_neg h0] at h
    replace h := Option.some.inj h
    simp only [Prod.mk.injEq] at h
    obtain ⟨rfl, rfl, rfl, rfl, rfl, rfl, rfl, rfl, rfl, rfl, rfl, rfl⟩ := h
    have d1 : (ip4Err s != 0) = true := bne_iff_ne.mpr h0
    clear h0
    go_enter Try.func111, Try.ntmps111
    go_wp2_with fail
    refine (ip4_Get.reads s HS.out w).mono ?_
    rintro e w2 ⟨rfl, cs, x, hp, hb, hx⟩
    have HB := Aside0.mk hb
    have c1 := hp.tail.head.cells
    have c2 := hp.tail.head.frees
    have HK := Aside0.mk hp.tail.head
    clear hp hb hx
    go_wp2
    have c5 := ((((((((((HK.out.set 0 (.int .i64 0)).set 1 (.int .i64 0)).set 2 (.int .i64 0)).set 3 (.int .i64 0)).set 4 (.int .i64 0)).set 5 (.bool false)).set 6 (.bool false)).set 7 (.string ⟨#[]⟩)).set 8 (.string ⟨#[]⟩)).set 9 (.string ⟨#[]⟩)).cells
    simp only [List.setIfInBounds_toArray, List.set_cons_zero, List.set_cons_succ] at c5
    clear c1 c2
    refine ⟨rfl, _, ?_, rfl, ?_⟩
    rotate_left
    · exact ((((((((((HB.out.setCell (by simp) _).setCell (by simp) _).setCell (by simp) _).setCell (by simp) _).setCell (by simp) _).setCell (by simp) _).setCell (by simp) _).setCell (by simp) _).setCell (by simp) _).setCell (by simp) _)
    simp [results, Try.results111, go_sem, hu, c5]
end Go.Proofs.Ytejmipoolbodgaa.G
end

section
/- Plain theory: a text with one bit turned. No program in it. -/
namespace Go.Proofs.Ytejmipoolbodgaa.Pal
def flipByte (b : UInt8) (k : Nat) : UInt8 := UInt8.ofNat (b.toNat ^^^ 2 ^ (k % 8))
/-- One bit turned: bit i stands in byte i / 8, and is its bit i % 8. -/
def flip (l : List UInt8) (i : Nat) : List UInt8 := l.set (i / 8) (flipByte (l.getD (i / 8) 0) i)
theorem flip_length (l : List UInt8) (i : Nat) : (flip l i).length = l.length := by simp [flip]
theorem flip_fin : ∀ b : Fin 256, ∀ k : Fin 8, (b.val ^^^ 2 ^ k.val) < 256 ∧ ((b.val ^^^ 2 ^ k.val) = b.val + 2 ^ k.val ∨ b.val = (b.val ^^^ 2 ^ k.val) + 2 ^ k.val) ∧ 1 ≤ 2 ^ k.val ∧ 2 ^ k.val ≤ 128 := by decide +kernel
theorem flipByte_is (b : UInt8) (k : Nat) : ∃ d, 1 ≤ d ∧ d ≤ 128 ∧ d = 2 ^ (k % 8) ∧ ((flipByte b k).toNat = b.toNat + d ∨ b.toNat = (flipByte b k).toNat + d) := by
  have h := flip_fin ⟨b.toNat, b.toNat_lt⟩ ⟨k % 8, Nat.mod_lt _ (by decide)⟩
  dsimp only at h
  have e : (flipByte b k).toNat = b.toNat ^^^ 2 ^ (k % 8) := by
    unfold flipByte
    simp only [UInt8.toNat_ofNat']
    exact Nat.mod_eq_of_lt h.1
  rw [e]
  exact ⟨2 ^ (k % 8), h.2.2.1, h.2.2.2, rfl, h.2.1⟩
theorem flipByte_ne (b : UInt8) (k : Nat) : flipByte b k ≠ b := fun h => by
  obtain ⟨d, h1, _, _, h2⟩ := flipByte_is b k
  rw [h] at h2; omega
theorem tot_set (b : UInt8) : ∀ (l : List UInt8) (j : Nat) (o : Bool), j < l.length → ∃ w, (w = 1 ∨ w = 256) ∧ tot o (l.set j b) + w * (l.getD j 0).toNat = tot o l + w * b.toNat
  | [], _, _, h => absurd h (by simp)
  | x :: l, 0, false, _ => ⟨256, .inr rfl, by simp [tot]; omega⟩
  | x :: l, 0, true, _ => ⟨1, .inl rfl, by simp [tot]; omega⟩
  | x :: l, j + 1, false, h => by
    obtain ⟨w, h1, h2⟩ := tot_set b l j true (by simpa using h)
    exact ⟨w, h1, by simp only [List.set_cons_succ, tot, List.getD_cons_succ]; omega⟩
  | x :: l, j + 1, true, h => by
    obtain ⟨w, h1, h2⟩ := tot_set b l j false (by simpa using h)
    exact ⟨w, h1, by simp only [List.set_cons_succ, tot, List.getD_cons_succ]; omega⟩
theorem flip_tot (l : List UInt8) (i : Nat) (h : i / 8 < l.length) (o : Bool) : ∃ D, 1 ≤ D ∧ D ≤ 32768 ∧ (tot o (flip l i) = tot o l + D ∨ tot o l = tot o (flip l i) + D) := by
  obtain ⟨w, hw, h1⟩ := tot_set (flipByte (l.getD (i / 8) 0) i) l (i / 8) o h
  obtain ⟨d, d1, d2, _, h2⟩ := flipByte_is (l.getD (i / 8) 0) i
  unfold flip
  rcases hw with rfl | rfl
  · exact ⟨d, d1, by omega, by omega⟩
  · exact ⟨256 * d, by omega, by omega, by omega⟩
/-- A text that is right isn't with one bit turned. -/
theorem flip_wrong (l : List UInt8) (i : Nat) (h : i / 8 < l.length) (h0 : csum l = 0) : csum (flip l i) ≠ 0 := by
  obtain ⟨D, d1, d2, h1⟩ := flip_tot l i h false
  unfold csum fold16 at *
  split at h0
  · omega
  · split
    · omega
    · omega
theorem cut_bl (s : ByteArray) (n m : Nat) : bl (s.extract n m) = ((bl s).take m).drop n := by simp [bl, ByteArray.data_extract, List.drop_take]
theorem take_bl (s : ByteArray) : (bl s).take s.size = bl s := List.take_of_length_le (by rw [bl_length]; exact Nat.le_refl _)
theorem flip_bits_fin : ∀ b : Fin 256, ∀ k : Fin 8, Go.bits .xor .u8 (b.val : Int) (2 ^ k.val % 256) = ((b.val ^^^ 2 ^ k.val : Nat) : Int) := by decide +kernel
theorem flip_bits (b : UInt8) (i : Nat) : Go.bits .xor .u8 (b.toNat : Int) (2 ^ (i % 8) % 256) = ((flipByte b i).toNat : Int) := by
  have h := flip_bits_fin ⟨b.toNat, b.toNat_lt⟩ ⟨i % 8, Nat.mod_lt _ (by decide)⟩
  have h2 := flip_fin ⟨b.toNat, b.toNat_lt⟩ ⟨i % 8, Nat.mod_lt _ (by decide)⟩
  dsimp only at h h2
  rw [h]
  unfold flipByte
  simp only [UInt8.toNat_ofNat']
  rw [Nat.mod_eq_of_lt h2.1]
/-- A text's bytes in memory, one of them turned: what stands there then. -/
theorem flip_cells {w : World} {b : Nat} {l : List UInt8} (h : ∀ j, j < l.length → w.cell? ⟨b, j, none⟩ = some (.int .u8 (l.getD j 0).toNat)) (i : Nat) (hi : i / 8 < l.length) :
    ∀ j (hj : j < (flip l i).length), (w.setCell ⟨b, i / 8, none⟩ (.int .u8 ((flipByte (l.getD (i / 8) 0) i).toNat : Int))).cell? ((⟨b, 0, none⟩ : Addr).add j) = some (.int .u8 ((flip l i)[j].toNat : Int)) := fun j hj => by
  have e : (⟨b, 0, none⟩ : Addr).add j = ⟨b, j, none⟩ := by cases j <;> simp [Addr.add]
  have hj' : j < l.length := by rw [flip_length] at hj; exact hj
  rw [e]
  by_cases c : j = i / 8
  · subst c
    rw [World.cell?_setCell_same' _ _ _ (by rw [h _ hj']; rfl)]
    simp [flip]
  · rw [World.cell?_setCell_other w ⟨b, i / 8, none⟩ ⟨b, j, none⟩ _ (by intro h; injection h with h1 h2; exact c h2.symm), h j hj']
    simp [flip, List.getElem_set, c, Ne.symm c, List.getD_eq_getElem?_getD, List.getElem?_eq_getElem hj']
end Go.Proofs.Ytejmipoolbodgaa.Pal
end

section
/- Plain theory: a packet with one bit of its header turned, but of how long the header is, is none. -/
namespace Go.Proofs.Ytejmipoolbodgaa.Pure
open Go.RowKit Go.Proofs.YtejmipoolbodgaaW.PrintWords Go.Proofs.YtejmipoolbodgaaW.PrintLast Go.Proofs.Ytejmipoolbodgaa.G Go.Proofs.Ytejmipoolbodgaa.Pal
theorem flip_take (l : List UInt8) (i n : Nat) (h : i / 8 < n) : (Pal.flip l i).take n = Pal.flip (l.take n) i := by
  unfold Pal.flip
  rw [List.take_set]
  congr 2
  simp [List.getD_eq_getElem?_getD, List.getElem?_take, h]
theorem flip_take_out (l : List UInt8) (i n : Nat) (h : n ≤ i / 8) : (Pal.flip l i).take n = l.take n := by
  unfold Pal.flip
  rw [List.take_set]
  exact List.set_eq_of_length_le (by rw [List.length_take]; omega)
theorem flip_low_fin : ∀ b : Fin 256, ∀ k : Fin 8, 4 ≤ k.val → (b.val ^^^ 2 ^ k.val) % 16 = b.val % 16 := by decide +kernel
theorem flipByte_low (b : UInt8) (k : Nat) (h : 4 ≤ k % 8) : (flipByte b k).toNat % 16 = b.toNat % 16 := by
  have h1 := flip_low_fin ⟨b.toNat, b.toNat_lt⟩ ⟨k % 8, Nat.mod_lt _ (by decide)⟩ h
  have h2 := flip_fin ⟨b.toNat, b.toNat_lt⟩ ⟨k % 8, Nat.mod_lt _ (by decide)⟩
  dsimp only at h1 h2
  unfold flipByte
  simp only [UInt8.toNat_ofNat']
  rw [Nat.mod_eq_of_lt h2.1, h1]
theorem be_one (l : List UInt8) (h : 0 < l.length) : be (l.take 1) = (l.getD 0 0).toNat := by
  cases l with
  | nil => exact absurd h (by simp)
  | cons x l => simp [be]
theorem hl4_flip {x z : ByteArray} {i : Nat} (hz : bl z = Pal.flip (bl x) i) (h4 : 4 ≤ i) (h0 : 0 < x.size) : hl4 z = hl4 x := by
  unfold hl4
  rw [cut_bl, cut_bl, List.drop_zero, List.drop_zero, hz]
  by_cases c : i / 8 = 0
  · have hx : 0 < (bl x).length := by rw [bl_length]; exact h0
    rw [be_one _ (by rw [flip_length]; exact hx), be_one _ hx]
    have e : (Pal.flip (bl x) i).getD 0 0 = flipByte ((bl x).getD 0 0) i := by
      unfold Pal.flip
      rw [c]
      cases hb : bl x with
      | nil => rw [hb] at hx; exact absurd hx (by simp)
      | cons a l => simp
    rw [e, flipByte_low _ _ (by omega)]
  · rw [flip_take_out _ _ _ (by omega)]
theorem err4_flip {x z : ByteArray} {i : Nat} (hx : ip4Err x = 0) (hz : bl z = Pal.flip (bl x) i) (h4 : 4 ≤ i) (hi : i / 8 < hl4 x) : ip4Err z ≠ 0 := fun h => by
  obtain ⟨h20, _, ⟨_, hl, _⟩, hc, _⟩ := err4_zero hx
  obtain ⟨_, _, _, hc', _⟩ := err4_zero h
  rw [hl4_flip hz h4 (by omega), cut_bl, List.drop_zero, hz, flip_take _ _ _ hi] at hc'
  rw [cut_bl, List.drop_zero] at hc
  exact flip_wrong _ i (by rw [List.length_take, bl_length]; omega) hc hc'
theorem get4_bad {z : ByteArray} (hs : z.size ≤ 140737488351232) (h : ip4Err z ≠ 0) : ip4_Get.f z = some (0, 0, 0, 0, 0, false, false, ⟨#[]⟩, ⟨#[]⟩, ⟨#[]⟩, ⟨#[]⟩, ip4Err z) := by
  unfold ip4_Get.f
  rw [if_pos hs, if_neg h]
/-- What is put has no error, and as long a header as it has options. -/
theorem put4_err {tos id off ttl proto : Nat} {df mf : Bool} {src dst opt p x : ByteArray} (h : ok4 tos id off ttl proto src dst opt) (hp : 20 + opt.size + p.size ≤ 65535) (hx : bl x = put4 tos id off ttl proto df mf src dst opt p) :
    ip4Err x = 0 ∧ hl4 x = 20 + opt.size ∧ x.size = 20 + opt.size + p.size := by
  have hg := get_put4 h hp hx
  have hsz : x.size = 20 + opt.size + p.size := by
    obtain ⟨_, _, _, _, _, h6, h7, _, _⟩ := h
    rw [← bl_length, hx]
    unfold put4 head4
    simp only [List.length_append, nb_length, bl_length]
    omega
  unfold ip4_Get.f at hg
  rw [if_pos (by omega)] at hg
  by_cases he : ip4Err x = 0
  · rw [if_pos he] at hg
    have h10 := congrArg (fun o => (o.map fun t => t.2.2.2.2.2.2.2.2.2.1.size).getD 0) hg
    dsimp only [Option.map_some, Option.getD_some] at h10
    obtain ⟨_, hl, hm⟩ := (err4_zero he).2.2.1
    rw [ByteArray.size_extract] at h10
    exact ⟨he, by omega, hsz⟩
  · rw [if_neg he] at hg
    have h12 := congrArg (fun o => (o.map fun t => t.2.2.2.2.2.2.2.2.2.2.2).getD 0) hg
    dsimp only [Option.map_some, Option.getD_some] at h12
    exact absurd h12 he
end Go.Proofs.Ytejmipoolbodgaa.Pure
end

section
/- By hand: frag.Cut: a range over frag.parts. Printed by wip/gen/fragcut.py. -/
namespace Go.Proofs.Ytejmipoolbodgaa.G
open Go.RowKit Go.Shelf Go.Proofs.YtejmipoolbodgaaW.PrintWords Go.Proofs.YtejmipoolbodgaaW.PrintLast Go.Proofs.YtejmipoolbodgaaW.PrintMore Go.Proofs.Ytejmipoolbodgaa.Pal
attribute [local go_sem] Oper.semAt_some
set_option linter.unusedVariables false
set_option linter.unusedSimpArgs false
/-- What frag.Cut hands back. -/
abbrev cutEnds (w : World) (L : List ByteArray) (er : Int) : Ending → World → Prop := fun e w' => ∃ v0_ : Value, e = .returned (.tuple #[v0_, .int .i64 er]) ∧ Kd.R Kd.string 9 w' w.heap.size (fun _ => True) v0_ L ∧ Below w.heap.size w w'
theorem cut_nil {w w' : World} (er : Int) (h : Below w.heap.size w w') : cutEnds w [] er (.returned (.tuple #[.slice none 0 0, .int .i64 er])) w' := ⟨_, rfl, Kd.R_nil _ _ _ _ _, h⟩
theorem cut_one {w W : World} (s : ByteArray) (h : Below w.heap.size w W) : cutEnds w [s] 0 (.returned (.tuple #[.slice (some ⟨W.heap.size, 0, none⟩) 1 1, .int .i64 0])) (W.alloc (.cells #[.string s] 9)) :=
  ⟨_, rfl, Kd.R_of_own ⟨rfl, .inr ⟨W.heap.size, 1, #[.string s], rfl, h.size, Blk.new W _ _, Nat.le_refl _, by decide, rfl, rfl⟩⟩ (fun _ _ => trivial), h.alloc h.size _⟩

theorem far_facts (N z F : Nat) (hz : 0 < z) (hz2 : z ≤ 65536) (hN : N ≤ 70000) (h0 : 0 < N) (hF : F ≤ 8191) : ∃ A B C D E : Nat, E = F + (N - 1) / z * z / 8 ∧
    (IntKind.i64.wrap ((N : Int) - 1) = (A : Int) ∧ wrap64 ((N : Int) - 1) = (A : Int)) ∧ (Int.tdiv (A : Int) (z : Int) = (B : Int) ∧ (A : Int) / (z : Int) = (B : Int)) ∧ (IntKind.i64.wrap (B : Int) = (B : Int) ∧ wrap64 (B : Int) = (B : Int)) ∧ (IntKind.i64.wrap ((B : Int) * (z : Int)) = (C : Int) ∧ wrap64 ((B : Int) * (z : Int)) = (C : Int)) ∧ (Int.tdiv (C : Int) 8 = (D : Int) ∧ (C : Int) / 8 = (D : Int)) ∧ (IntKind.i64.wrap (D : Int) = (D : Int) ∧ wrap64 (D : Int) = (D : Int)) ∧ (IntKind.i64.wrap ((F : Int) + (D : Int)) = (E : Int) ∧ wrap64 ((F : Int) + (D : Int)) = (E : Int)) := by
  have hC : (N - 1) / z * z ≤ N - 1 := Nat.div_mul_le_self _ _
  have hB : (N - 1) / z ≤ N - 1 := Nat.div_le_self _ _
  refine ⟨N - 1, (N - 1) / z, (N - 1) / z * z, (N - 1) / z * z / 8, F + (N - 1) / z * z / 8, rfl, ?_⟩
  have e1 : Int.tdiv ((N - 1 : Nat) : Int) (z : Int) = (((N - 1) / z : Nat) : Int) := rfl
  have e2 : ((N - 1 : Nat) : Int) / (z : Int) = (((N - 1) / z : Nat) : Int) := rfl
  have e3 : Int.tdiv (((N - 1) / z * z : Nat) : Int) 8 = (((N - 1) / z * z / 8 : Nat) : Int) := rfl
  have e4 : (((N - 1) / z * z : Nat) : Int) / 8 = (((N - 1) / z * z / 8 : Nat) : Int) := rfl
  have e5 : (((N - 1) / z : Nat) : Int) * (z : Int) = (((N - 1) / z * z : Nat) : Int) := (Int.natCast_mul _ _).symm
  rw [e5]
  clear e5
  generalize (N - 1) / z * z = C at *
  generalize (N - 1) / z = B at *
  refine ⟨⟨by rw [IntKind.wrap_i64]; omega, by unfold wrap64; omega⟩, ⟨e1, e2⟩, ⟨by rw [IntKind.wrap_i64]; omega, by unfold wrap64; omega⟩, ⟨by rw [IntKind.wrap_i64]; omega, by unfold wrap64; omega⟩, ⟨e3, e4⟩, ⟨by rw [IntKind.wrap_i64]; omega, by unfold wrap64; omega⟩, ⟨by rw [IntKind.wrap_i64]; omega, by unfold wrap64; omega⟩⟩

set_option maxRecDepth 100000 in
set_option maxHeartbeats 4000000 in
theorem cut_bad (s : ByteArray) (mtu P : Int) (t i o tt p : Int) (df mf : Bool) (src dst opt pay : ByteArray) (er : Int) (hget : ip4_Get.f s = some (t, i, o, tt, p, df, mf, src, dst, opt, pay, er)) (hpart : frag_Part.f (wrap64 ((s.size : Int) - (pay.size : Int))) mtu = some P) (he : er ≠ 0) (w : World) :
    Calls Try.prog 114 #[.string s, .int .i64 mtu] w (cutEnds w [] er) := by
  have HGET := Aside0.mk hget
  have HPART := Aside0.mk hpart
  clear hget hpart
  have hu := Try.underlying93
  refine (callsIn_wide (n := 4)).1 ?_
  refine callsIn_of_wp_marks Try.func114 rfl trivial ?_ rfl
  simp only [Try.ntmps114, List.size_toArray, List.length_cons, List.length_nil, Nat.reduceAdd, Nat.reduceSub, Array.replicate_succ, Array.replicate_zero, List.push_toArray, List.append_toArray, List.nil_append, List.cons_append]
  gi_wp2_with (refine ⟨trivial, ?_⟩; gi_at_call 111; refine (callsIn_wide.2 (ip4_Get.calls s _ _ _ _ _ _ _ _ _ _ _ _ _ HGET.out)).mono ?_; rintro e w2 ⟨rfl, g1⟩; have HB := Aside0.mk g1; clear g1)
  refine ⟨trivial, ?_⟩
  refine (callsIn_wide.2 (frag_Part.calls _ _ _ _ HPART.out)).mono ?_
  rintro e w3 ⟨rfl, g2⟩
  have HZ := Aside0.mk (show w2.heap.size + 2 ≤ w3.heap.size by have := g2.size; simp at this; omega)
  have b1 := Blk.new (w2.alloc (.cells #[.int .i64 t, .int .i64 i, .int .i64 o, .int .i64 tt, .int .i64 p, .bool df, .bool mf, .string src, .string dst, .string opt] 93)) 9 #[.string pay]
  rw [World.size_alloc] at b1
  have HK := Aside0.mk (show Hp w3 [(w2.heap.size, 93, #[.int .i64 t, .int .i64 i, .int .i64 o, .int .i64 tt, .int .i64 p, .bool df, .bool mf, .string src, .string dst, .string opt]), (w2.heap.size + 1, 9, #[.string pay])] from .cons (((Blk.new w2 _ _).alloc _).below g2 (by simp; omega)) (.cons (b1.below g2 (by simp)) (.nil _)))
  replace HB := Aside0.mk ((((HB.out.alloc HB.out.size (.cells #[.int .i64 t, .int .i64 i, .int .i64 o, .int .i64 tt, .int .i64 p, .bool df, .bool mf, .string src, .string dst, .string opt] 93)).alloc (by have := HB.out.size; simp; omega) (.cells #[.string pay] 9))).trans (g2.mono (by have := HB.out.size; simp; omega)))
  clear g2 b1
  have d1 : (er != 0) = true := bne_iff_ne.mpr he
  clear he
  gi_wp2
  refine ⟨.tuple #[.slice none 0 0, .int .i64 er], ?_, cut_nil _ HB.out⟩
  simp [results, Try.f114, go_sem]

set_option maxRecDepth 100000 in
set_option maxHeartbeats 4000000 in
theorem cut_range (s : ByteArray) (mtu P : Int) (hget : ip4_Get.f s = some ((hTos s : Int), (hId s : Int), (hOff s : Int), (hTtl s : Int), (hProto s : Int), hDF s, hMF s, hSrc s, hDst s, hOpt s, hPay s, 0)) (hpart : frag_Part.f (wrap64 ((s.size : Int) - ((hPay s).size : Int))) mtu = some P) (he : ¬ (28 ≤ mtu ∧ mtu ≤ 65535)) (w : World) :
    Calls Try.prog 114 #[.string s, .int .i64 mtu] w (cutEnds w [] 1) := by
  have HGET := Aside0.mk hget
  have HPART := Aside0.mk hpart
  clear hget hpart
  have hu := Try.underlying93
  refine (callsIn_wide (n := 4)).1 ?_
  refine callsIn_of_wp_marks Try.func114 rfl trivial ?_ rfl
  simp only [Try.ntmps114, List.size_toArray, List.length_cons, List.length_nil, Nat.reduceAdd, Nat.reduceSub, Array.replicate_succ, Array.replicate_zero, List.push_toArray, List.append_toArray, List.nil_append, List.cons_append]
  gi_wp2_with (refine ⟨trivial, ?_⟩; gi_at_call 111; refine (callsIn_wide.2 (ip4_Get.calls s _ _ _ _ _ _ _ _ _ _ _ _ _ HGET.out)).mono ?_; rintro e w2 ⟨rfl, g1⟩; have HB := Aside0.mk g1; clear g1)
  refine ⟨trivial, ?_⟩
  refine (callsIn_wide.2 (frag_Part.calls _ _ _ _ HPART.out)).mono ?_
  rintro e w3 ⟨rfl, g2⟩
  have HZ := Aside0.mk (show w2.heap.size + 2 ≤ w3.heap.size by have := g2.size; simp at this; omega)
  have b1 := Blk.new (w2.alloc (.cells #[.int .i64 (hTos s : Int), .int .i64 (hId s : Int), .int .i64 (hOff s : Int), .int .i64 (hTtl s : Int), .int .i64 (hProto s : Int), .bool (hDF s), .bool (hMF s), .string (hSrc s), .string (hDst s), .string (hOpt s)] 93)) 9 #[.string (hPay s)]
  rw [World.size_alloc] at b1
  have HK := Aside0.mk (show Hp w3 [(w2.heap.size, 93, #[.int .i64 (hTos s : Int), .int .i64 (hId s : Int), .int .i64 (hOff s : Int), .int .i64 (hTtl s : Int), .int .i64 (hProto s : Int), .bool (hDF s), .bool (hMF s), .string (hSrc s), .string (hDst s), .string (hOpt s)]), (w2.heap.size + 1, 9, #[.string (hPay s)])] from .cons (((Blk.new w2 _ _).alloc _).below g2 (by simp; omega)) (.cons (b1.below g2 (by simp)) (.nil _)))
  replace HB := Aside0.mk ((((HB.out.alloc HB.out.size (.cells #[.int .i64 (hTos s : Int), .int .i64 (hId s : Int), .int .i64 (hOff s : Int), .int .i64 (hTtl s : Int), .int .i64 (hProto s : Int), .bool (hDF s), .bool (hMF s), .string (hSrc s), .string (hDst s), .string (hOpt s)] 93)).alloc (by have := HB.out.size; simp; omega) (.cells #[.string (hPay s)] 9))).trans (g2.mono (by have := HB.out.size; simp; omega)))
  clear g2 b1
  by_cases q1 : mtu < 28
  · have d1 : decide (mtu < 28) = true := decide_eq_true q1
    clear he q1
    gi_wp2
    refine ⟨.tuple #[.slice none 0 0, .int .i64 1], ?_, cut_nil _ HB.out⟩
    simp [results, Try.f114, go_sem]
  have d1 : decide (mtu < 28) = false := decide_eq_false q1
  have d2 : decide (65535 < mtu) = true := decide_eq_true (by omega)
  clear he q1
  gi_wp2
  refine ⟨.tuple #[.slice none 0 0, .int .i64 1], ?_, cut_nil _ HB.out⟩
  simp [results, Try.f114, go_sem]

set_option maxRecDepth 100000 in
set_option maxHeartbeats 4000000 in
theorem cut_whole (s : ByteArray) (mtu P : Int) (hget : ip4_Get.f s = some ((hTos s : Int), (hId s : Int), (hOff s : Int), (hTtl s : Int), (hProto s : Int), hDF s, hMF s, hSrc s, hDst s, hOpt s, hPay s, 0)) (hpart : frag_Part.f (wrap64 ((s.size : Int) - ((hPay s).size : Int))) mtu = some P) (he : 28 ≤ mtu ∧ mtu ≤ 65535) (hs : (s.size : Int) ≤ mtu) (w : World) :
    Calls Try.prog 114 #[.string s, .int .i64 mtu] w (cutEnds w [s] 0) := by
  have HGET := Aside0.mk hget
  have HPART := Aside0.mk hpart
  clear hget hpart
  have hu := Try.underlying93
  refine (callsIn_wide (n := 4)).1 ?_
  refine callsIn_of_wp_marks Try.func114 rfl trivial ?_ rfl
  simp only [Try.ntmps114, List.size_toArray, List.length_cons, List.length_nil, Nat.reduceAdd, Nat.reduceSub, Array.replicate_succ, Array.replicate_zero, List.push_toArray, List.append_toArray, List.nil_append, List.cons_append]
  gi_wp2_with (refine ⟨trivial, ?_⟩; gi_at_call 111; refine (callsIn_wide.2 (ip4_Get.calls s _ _ _ _ _ _ _ _ _ _ _ _ _ HGET.out)).mono ?_; rintro e w2 ⟨rfl, g1⟩; have HB := Aside0.mk g1; clear g1)
  refine ⟨trivial, ?_⟩
  refine (callsIn_wide.2 (frag_Part.calls _ _ _ _ HPART.out)).mono ?_
  rintro e w3 ⟨rfl, g2⟩
  have HZ := Aside0.mk (show w2.heap.size + 2 ≤ w3.heap.size by have := g2.size; simp at this; omega)
  have b1 := Blk.new (w2.alloc (.cells #[.int .i64 (hTos s : Int), .int .i64 (hId s : Int), .int .i64 (hOff s : Int), .int .i64 (hTtl s : Int), .int .i64 (hProto s : Int), .bool (hDF s), .bool (hMF s), .string (hSrc s), .string (hDst s), .string (hOpt s)] 93)) 9 #[.string (hPay s)]
  rw [World.size_alloc] at b1
  have HK := Aside0.mk (show Hp w3 [(w2.heap.size, 93, #[.int .i64 (hTos s : Int), .int .i64 (hId s : Int), .int .i64 (hOff s : Int), .int .i64 (hTtl s : Int), .int .i64 (hProto s : Int), .bool (hDF s), .bool (hMF s), .string (hSrc s), .string (hDst s), .string (hOpt s)]), (w2.heap.size + 1, 9, #[.string (hPay s)])] from .cons (((Blk.new w2 _ _).alloc _).below g2 (by simp; omega)) (.cons (b1.below g2 (by simp)) (.nil _)))
  replace HB := Aside0.mk ((((HB.out.alloc HB.out.size (.cells #[.int .i64 (hTos s : Int), .int .i64 (hId s : Int), .int .i64 (hOff s : Int), .int .i64 (hTtl s : Int), .int .i64 (hProto s : Int), .bool (hDF s), .bool (hMF s), .string (hSrc s), .string (hDst s), .string (hOpt s)] 93)).alloc (by have := HB.out.size; simp; omega) (.cells #[.string (hPay s)] 9))).trans (g2.mono (by have := HB.out.size; simp; omega)))
  clear g2 b1
  have d1 : decide (mtu < 28) = false := decide_eq_false (by omega)
  have d2 : decide (65535 < mtu) = false := decide_eq_false (by omega)
  have d3 : decide ((s.size : Int) ≤ mtu) = true := decide_eq_true hs
  clear he hs
  gi_wp2
  refine ⟨.tuple #[.slice (some ⟨w3.heap.size, 0, none⟩) 1 1, .int .i64 0], ?_, cut_one s HB.out⟩
  simp [results, Try.f114, go_sem]

set_option maxRecDepth 100000 in
set_option maxHeartbeats 4000000 in
theorem cut_df (s : ByteArray) (mtu P : Int) (hget : ip4_Get.f s = some ((hTos s : Int), (hId s : Int), (hOff s : Int), (hTtl s : Int), (hProto s : Int), hDF s, hMF s, hSrc s, hDst s, hOpt s, hPay s, 0)) (hpart : frag_Part.f (wrap64 ((s.size : Int) - ((hPay s).size : Int))) mtu = some P) (he : 28 ≤ mtu ∧ mtu ≤ 65535) (hs : ¬ (s.size : Int) ≤ mtu) (hd : hDF s = true) (w : World) :
    Calls Try.prog 114 #[.string s, .int .i64 mtu] w (cutEnds w [] 8) := by
  have HD := Aside0.mk hd
  clear hd
  have HSS := Aside0.mk hs
  clear hs
  have HGET := Aside0.mk hget
  have HPART := Aside0.mk hpart
  clear hget hpart
  have hu := Try.underlying93
  refine (callsIn_wide (n := 4)).1 ?_
  refine callsIn_of_wp_marks Try.func114 rfl trivial ?_ rfl
  simp only [Try.ntmps114, List.size_toArray, List.length_cons, List.length_nil, Nat.reduceAdd, Nat.reduceSub, Array.replicate_succ, Array.replicate_zero, List.push_toArray, List.append_toArray, List.nil_append, List.cons_append]
  gi_wp2_with (refine ⟨trivial, ?_⟩; gi_at_call 111; refine (callsIn_wide.2 (ip4_Get.calls s _ _ _ _ _ _ _ _ _ _ _ _ _ HGET.out)).mono ?_; rintro e w2 ⟨rfl, g1⟩; have HB := Aside0.mk g1; clear g1)
  refine ⟨trivial, ?_⟩
  refine (callsIn_wide.2 (frag_Part.calls _ _ _ _ HPART.out)).mono ?_
  rintro e w3 ⟨rfl, g2⟩
  have HZ := Aside0.mk (show w2.heap.size + 2 ≤ w3.heap.size by have := g2.size; simp at this; omega)
  have b1 := Blk.new (w2.alloc (.cells #[.int .i64 (hTos s : Int), .int .i64 (hId s : Int), .int .i64 (hOff s : Int), .int .i64 (hTtl s : Int), .int .i64 (hProto s : Int), .bool (hDF s), .bool (hMF s), .string (hSrc s), .string (hDst s), .string (hOpt s)] 93)) 9 #[.string (hPay s)]
  rw [World.size_alloc] at b1
  have HK := Aside0.mk (show Hp w3 [(w2.heap.size, 93, #[.int .i64 (hTos s : Int), .int .i64 (hId s : Int), .int .i64 (hOff s : Int), .int .i64 (hTtl s : Int), .int .i64 (hProto s : Int), .bool (hDF s), .bool (hMF s), .string (hSrc s), .string (hDst s), .string (hOpt s)]), (w2.heap.size + 1, 9, #[.string (hPay s)])] from .cons (((Blk.new w2 _ _).alloc _).below g2 (by simp; omega)) (.cons (b1.below g2 (by simp)) (.nil _)))
  replace HB := Aside0.mk ((((HB.out.alloc HB.out.size (.cells #[.int .i64 (hTos s : Int), .int .i64 (hId s : Int), .int .i64 (hOff s : Int), .int .i64 (hTtl s : Int), .int .i64 (hProto s : Int), .bool (hDF s), .bool (hMF s), .string (hSrc s), .string (hDst s), .string (hOpt s)] 93)).alloc (by have := HB.out.size; simp; omega) (.cells #[.string (hPay s)] 9))).trans (g2.mono (by have := HB.out.size; simp; omega)))
  clear g2 b1
  have d1 : decide (mtu < 28) = false := decide_eq_false (by omega)
  have d2 : decide (65535 < mtu) = false := decide_eq_false (by omega)
  have d3 : decide ((s.size : Int) ≤ mtu) = false := decide_eq_false (by first | exact HSS.out | exact Int.not_le.mpr HSS.out)
  have c0 := HK.out.head.cells
  have c1 := HK.out.tail.head.cell 0 _ rfl
  rw [HD.out] at c0
  clear he
  gi_wp2
  refine ⟨.tuple #[.slice none 0 0, .int .i64 8], ?_, cut_nil _ HB.out⟩
  simp [results, Try.f114, go_sem]

set_option maxRecDepth 100000 in
set_option maxHeartbeats 4000000 in
theorem cut_none (s : ByteArray) (mtu P : Int) (hget : ip4_Get.f s = some ((hTos s : Int), (hId s : Int), (hOff s : Int), (hTtl s : Int), (hProto s : Int), hDF s, hMF s, hSrc s, hDst s, hOpt s, hPay s, 0)) (hpart : frag_Part.f (wrap64 ((s.size : Int) - ((hPay s).size : Int))) mtu = some P) (he : 28 ≤ mtu ∧ mtu ≤ 65535) (hs : ¬ (s.size : Int) ≤ mtu) (hd : hDF s = false) (hP : P = 0) (w : World) :
    Calls Try.prog 114 #[.string s, .int .i64 mtu] w (cutEnds w [] 1) := by
  have HD := Aside0.mk hd
  clear hd
  have HSS := Aside0.mk hs
  clear hs
  have HGET := Aside0.mk hget
  have HPART := Aside0.mk hpart
  clear hget hpart
  have hu := Try.underlying93
  refine (callsIn_wide (n := 4)).1 ?_
  refine callsIn_of_wp_marks Try.func114 rfl trivial ?_ rfl
  simp only [Try.ntmps114, List.size_toArray, List.length_cons, List.length_nil, Nat.reduceAdd, Nat.reduceSub, Array.replicate_succ, Array.replicate_zero, List.push_toArray, List.append_toArray, List.nil_append, List.cons_append]
  gi_wp2_with (refine ⟨trivial, ?_⟩; gi_at_call 111; refine (callsIn_wide.2 (ip4_Get.calls s _ _ _ _ _ _ _ _ _ _ _ _ _ HGET.out)).mono ?_; rintro e w2 ⟨rfl, g1⟩; have HB := Aside0.mk g1; clear g1)
  refine ⟨trivial, ?_⟩
  refine (callsIn_wide.2 (frag_Part.calls _ _ _ _ HPART.out)).mono ?_
  rintro e w3 ⟨rfl, g2⟩
  have HZ := Aside0.mk (show w2.heap.size + 2 ≤ w3.heap.size by have := g2.size; simp at this; omega)
  have b1 := Blk.new (w2.alloc (.cells #[.int .i64 (hTos s : Int), .int .i64 (hId s : Int), .int .i64 (hOff s : Int), .int .i64 (hTtl s : Int), .int .i64 (hProto s : Int), .bool (hDF s), .bool (hMF s), .string (hSrc s), .string (hDst s), .string (hOpt s)] 93)) 9 #[.string (hPay s)]
  rw [World.size_alloc] at b1
  have HK := Aside0.mk (show Hp w3 [(w2.heap.size, 93, #[.int .i64 (hTos s : Int), .int .i64 (hId s : Int), .int .i64 (hOff s : Int), .int .i64 (hTtl s : Int), .int .i64 (hProto s : Int), .bool (hDF s), .bool (hMF s), .string (hSrc s), .string (hDst s), .string (hOpt s)]), (w2.heap.size + 1, 9, #[.string (hPay s)])] from .cons (((Blk.new w2 _ _).alloc _).below g2 (by simp; omega)) (.cons (b1.below g2 (by simp)) (.nil _)))
  replace HB := Aside0.mk ((((HB.out.alloc HB.out.size (.cells #[.int .i64 (hTos s : Int), .int .i64 (hId s : Int), .int .i64 (hOff s : Int), .int .i64 (hTtl s : Int), .int .i64 (hProto s : Int), .bool (hDF s), .bool (hMF s), .string (hSrc s), .string (hDst s), .string (hOpt s)] 93)).alloc (by have := HB.out.size; simp; omega) (.cells #[.string (hPay s)] 9))).trans (g2.mono (by have := HB.out.size; simp; omega)))
  clear g2 b1
  have d1 : decide (mtu < 28) = false := decide_eq_false (by omega)
  have d2 : decide (65535 < mtu) = false := decide_eq_false (by omega)
  have d3 : decide ((s.size : Int) ≤ mtu) = false := decide_eq_false (by first | exact HSS.out | exact Int.not_le.mpr HSS.out)
  have c0 := HK.out.head.cells
  have c1 := HK.out.tail.head.cell 0 _ rfl
  rw [HD.out] at c0
  subst hP
  clear he
  gi_wp2
  refine ⟨.tuple #[.slice none 0 0, .int .i64 1], ?_, cut_nil _ HB.out⟩
  simp [results, Try.f114, go_sem]

set_option maxRecDepth 100000 in
set_option maxHeartbeats 4000000 in
theorem cut_far (s : ByteArray) (mtu P : Int) (hget : ip4_Get.f s = some ((hTos s : Int), (hId s : Int), (hOff s : Int), (hTtl s : Int), (hProto s : Int), hDF s, hMF s, hSrc s, hDst s, hOpt s, hPay s, 0)) (hpart : frag_Part.f (wrap64 ((s.size : Int) - ((hPay s).size : Int))) mtu = some P) (he : 28 ≤ mtu ∧ mtu ≤ 65535) (hs : ¬ (s.size : Int) ≤ mtu) (hd : hDF s = false) (z : Nat) (hP : P = (z : Int)) (hz : 0 < z) (hz2 : z ≤ 65536) (hp : (hPay s).size ≤ 70000) (hp0 : 0 < (hPay s).size) (hof : 8191 < hOff s + ((hPay s).size - 1) / z * z / 8) (hof2 : hOff s ≤ 8191) (w : World) :
    Calls Try.prog 114 #[.string s, .int .i64 mtu] w (cutEnds w [] 4) := by
  have HN := Aside0.mk (show 0 < z ∧ z ≤ 65536 ∧ (hPay s).size ≤ 70000 ∧ 0 < (hPay s).size ∧ 8191 < hOff s + ((hPay s).size - 1) / z * z / 8 ∧ hOff s ≤ 8191 from ⟨hz, hz2, hp, hp0, hof, hof2⟩)
  have d4 : ((z : Int) == 0) = false := by rw [beq_eq_false_iff_ne]; omega
  clear hz hz2 hp hp0 hof hof2
  have HD := Aside0.mk hd
  clear hd
  have HSS := Aside0.mk hs
  clear hs
  have HGET := Aside0.mk hget
  have HPART := Aside0.mk hpart
  clear hget hpart
  have hu := Try.underlying93
  refine (callsIn_wide (n := 4)).1 ?_
  refine callsIn_of_wp_marks Try.func114 rfl trivial ?_ rfl
  simp only [Try.ntmps114, List.size_toArray, List.length_cons, List.length_nil, Nat.reduceAdd, Nat.reduceSub, Array.replicate_succ, Array.replicate_zero, List.push_toArray, List.append_toArray, List.nil_append, List.cons_append]
  gi_wp2_with (refine ⟨trivial, ?_⟩; gi_at_call 111; refine (callsIn_wide.2 (ip4_Get.calls s _ _ _ _ _ _ _ _ _ _ _ _ _ HGET.out)).mono ?_; rintro e w2 ⟨rfl, g1⟩; have HB := Aside0.mk g1; clear g1)
  refine ⟨trivial, ?_⟩
  refine (callsIn_wide.2 (frag_Part.calls _ _ _ _ HPART.out)).mono ?_
  rintro e w3 ⟨rfl, g2⟩
  have HZ := Aside0.mk (show w2.heap.size + 2 ≤ w3.heap.size by have := g2.size; simp at this; omega)
  have b1 := Blk.new (w2.alloc (.cells #[.int .i64 (hTos s : Int), .int .i64 (hId s : Int), .int .i64 (hOff s : Int), .int .i64 (hTtl s : Int), .int .i64 (hProto s : Int), .bool (hDF s), .bool (hMF s), .string (hSrc s), .string (hDst s), .string (hOpt s)] 93)) 9 #[.string (hPay s)]
  rw [World.size_alloc] at b1
  have HK := Aside0.mk (show Hp w3 [(w2.heap.size, 93, #[.int .i64 (hTos s : Int), .int .i64 (hId s : Int), .int .i64 (hOff s : Int), .int .i64 (hTtl s : Int), .int .i64 (hProto s : Int), .bool (hDF s), .bool (hMF s), .string (hSrc s), .string (hDst s), .string (hOpt s)]), (w2.heap.size + 1, 9, #[.string (hPay s)])] from .cons (((Blk.new w2 _ _).alloc _).below g2 (by simp; omega)) (.cons (b1.below g2 (by simp)) (.nil _)))
  replace HB := Aside0.mk ((((HB.out.alloc HB.out.size (.cells #[.int .i64 (hTos s : Int), .int .i64 (hId s : Int), .int .i64 (hOff s : Int), .int .i64 (hTtl s : Int), .int .i64 (hProto s : Int), .bool (hDF s), .bool (hMF s), .string (hSrc s), .string (hDst s), .string (hOpt s)] 93)).alloc (by have := HB.out.size; simp; omega) (.cells #[.string (hPay s)] 9))).trans (g2.mono (by have := HB.out.size; simp; omega)))
  clear g2 b1
  have d1 : decide (mtu < 28) = false := decide_eq_false (by omega)
  have d2 : decide (65535 < mtu) = false := decide_eq_false (by omega)
  have d3 : decide ((s.size : Int) ≤ mtu) = false := decide_eq_false (by first | exact HSS.out | exact Int.not_le.mpr HSS.out)
  have c0 := HK.out.head.cells
  have c1 := HK.out.tail.head.cell 0 _ rfl
  rw [HD.out] at c0
  subst hP
  clear he
  obtain ⟨A, B, C, D, E, hE, ⟨f1, f2⟩, ⟨f3, f4⟩, ⟨f5, f6⟩, ⟨f7, f8⟩, ⟨f9, f10⟩, ⟨f11, f12⟩, ⟨f13, f14⟩⟩ := far_facts (hPay s).size z (hOff s) HN.out.1 HN.out.2.1 HN.out.2.2.1 HN.out.2.2.2.1 HN.out.2.2.2.2.2
  have zf : (z = 0) = False := eq_false (Nat.ne_of_gt HN.out.1)
  have zf2 : ((z : Int) = 0) = False := eq_false (fun h => Nat.ne_of_gt HN.out.1 (Int.natCast_eq_zero.mp h))
  have hgt : 8191 < E := by rw [hE]; exact HN.out.2.2.2.2.1
  have x1 : decide ((8191 : Int) < (E : Int)) = true := decide_eq_true (Int.ofNat_lt.mpr hgt)
  have x2 : decide (8191 < E) = true := decide_eq_true hgt
  clear hgt
  clear hE
  gi_wp2
  refine wpIn_wide.2 ?_
  go_region
  clear f1 f2 f3 f4 f5 f6 f7 f8 f9 f10 f11 f12 f13 f14 zf zf2
  gi_wp2
  refine ⟨.tuple #[.slice none 0 0, .int .i64 4], ?_, cut_nil _ HB.out.drew⟩
  simp [results, Try.f114, go_sem]

end Go.Proofs.Ytejmipoolbodgaa.G
end
