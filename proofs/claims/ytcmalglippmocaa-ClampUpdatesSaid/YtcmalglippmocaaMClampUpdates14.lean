/- Texts of this session, joined: each is a section. -/
import Derived.Test.YtcmalglippmocaaMClampUpdates11
import Derived.Test.YtcmalglippmocaaMClampUpdates13
import Derived.Test.YtcmalglippmocaaMClampUpdates8
import Derived.Test.YtcmalglippmocaaMClampUpdates12
import Derived.Test.YtcmalglippmocaaMClampUpdates2
import Derived.Test.YtcmalglippmocaaMClampUpdates7
import Derived.Test.YtcmalglippmocaaMClampUpdates5
import Derived.Test.YtcmalglippmocaaMClampUpdates4
import Derived.Test.YtcmalglippmocaaMClampUpdates3
import Derived.Test.YtcmalglippmocaaMClampUpdates6
import Derived.Test.YtcmalglippmocaaMClampUpdates9
set_option linter.unusedVariables false
set_option linter.unusedSimpArgs false
section
namespace Go.Proofs.Ytcmalglippmocaa.Pure
open Go.RowKit Go.Proofs.YtcmalglippmocaaW.PrintWords Go.Proofs.YtcmalglippmocaaW.PrintLast Go.Proofs.Ytcmalglippmocaa.G Go.Proofs.Ytcmalglippmocaa.Pal
namespace FG
theorem bt_one (s : ByteArray) (i : Nat) (h : i < s.size) : bt s (i : Int) = ((be (bl (s.extract i (i + 1))) : Nat) : Int) := by
  have e : ((bl s).take (i + 1)).drop i = [(bl s)[i]'(by rw [bl_length]; exact h)] := by
    rw [List.drop_take, show i + 1 - i = 1 by omega, List.drop_eq_getElem_cons (by rw [bl_length]; exact h)]; rfl
  rw [bt_bl s i h, cut_bl, e]
  simp [be]
def okR (proto p3 : Int) (src dst pay : ByteArray) (bare : Bool) : Bool := if proto = 17 ∧ p3 = 0 then bare else decide (csum (bl (psB src dst proto (pay.size : Int)) ++ bl pay) = 0)
theorem fin_some {proto p1 p2 p3 : Int} {src dst pay : ByteArray} (bare : Bool) (hp : proto = 6 ∨ proto = 17) (hports : flow_ports.f proto pay = some (p1, p2, p3, 0)) (hs : src.size ≤ 300) (hd : dst.size ≤ 300) (hz : pay.size ≤ 1000000000) :
    flow_fin proto src dst pay false bare = some (if okR proto p3 src dst pay bare = true then (proto, src, dst, p1, p2, 0) else flow_bad 5) := by
  have hz1 := psB_size src dst proto pay.size
  have hz2 := (psT_size (src.size == 16) proto pay.size).2
  unfold flow_fin okR
  rw [if_neg (by decide), if_neg (by rcases hp with rfl | rfl <;> decide), hports, Option.bind_some]
  dsimp +instances only
  rw [if_neg (fun h => h rfl), pseudo_some src dst hs hd, Option.bind_some, right2 _ _ (by omega), Option.bind_some]
  split <;> split <;> rfl
theorem fin_err {proto p1 p2 p3 p4 : Int} {src dst pay : ByteArray} (bare : Bool) (hp : proto = 6 ∨ proto = 17) (hports : flow_ports.f proto pay = some (p1, p2, p3, p4)) (h4 : p4 ≠ 0) : flow_fin proto src dst pay false bare = some (flow_bad p4) := by
  unfold flow_fin
  rw [if_neg (by decide), if_neg (by rcases hp with rfl | rfl <;> decide), hports, Option.bind_some]
  dsimp +instances only
  rw [if_pos h4]
theorem fin_other {proto : Int} {src dst pay : ByteArray} (bare : Bool) (hp : proto ≠ 6 ∧ proto ≠ 17) : flow_fin proto src dst pay false bare = some (flow_bad 6) := by
  unfold flow_fin
  rw [if_neg (by decide), if_pos hp]
theorem fin_piece {proto : Int} {src dst pay : ByteArray} (bare : Bool) : flow_fin proto src dst pay true bare = some (flow_bad 14) := by
  unfold flow_fin; rw [if_pos rfl]
theorem err4_of {x : ByteArray} {a b c d e : Int} {df mf : Bool} {src dst opt p : ByteArray} (h : ip4_Get.f x = some (a, b, c, d, e, df, mf, src, dst, opt, p, 0)) : ip4Err x = 0 := by
  unfold ip4_Get.f at h
  split at h
  · have := Option.some.inj h
    by_cases h0 : ip4Err x = 0
    · exact h0
    · rw [if_neg h0] at this
      simp only [Prod.mk.injEq] at this
      exact this.2.2.2.2.2.2.2.2.2.2.2
  · exact absurd h (by simp)
theorem err6_of {x : ByteArray} {a b c d : Int} {src dst p : ByteArray} (h : ip6_Get.f x = some (a, b, c, d, src, dst, p, 0)) : ip6Err x = 0 := by
  unfold ip6_Get.f at h
  split at h
  · have := Option.some.inj h
    by_cases h0 : ip6Err x = 0
    · exact h0
    · rw [if_neg h0] at this
      simp only [Prod.mk.injEq] at this
      exact this.2.2.2.2.2.2.2
  · exact absurd h (by simp)
theorem bt0_four {x : ByteArray} (h : ip4Err x = 0) : ¬ x.size = 0 ∧ bt x 0 / 16 = 4 := by
  obtain ⟨h1, h2, _⟩ := err4_zero h
  refine ⟨by omega, ?_⟩
  have := bt_one x 0 (by omega)
  rw [show (0 : Int) = ((0 : Nat) : Int) from rfl, this, show (0 + 1 : Nat) = 1 from rfl]
  generalize be (bl (x.extract 0 1)) = y at h2 ⊢
  omega
theorem first_four (x : ByteArray) (h : 4 ≤ x.size) : be (bl (x.extract 0 4)) / 268435456 = be (bl (x.extract 0 1)) / 16 := by
  have hl := bl_length x
  obtain ⟨a, b, c, d, r, hx⟩ : ∃ a b c d r, bl x = a :: b :: c :: d :: r := by
    match hb : bl x with
    | [] => rw [hb] at hl; simp at hl; omega
    | [_] => rw [hb] at hl; simp at hl; omega
    | [_, _] => rw [hb] at hl; simp at hl; omega
    | [_, _, _] => rw [hb] at hl; simp at hl; omega
    | a :: b :: c :: d :: r => exact ⟨a, b, c, d, r, rfl⟩
  rw [cut_bl, cut_bl, hx]
  have e1 : ((a :: b :: c :: d :: r).take 4).drop 0 = [a] ++ [b] ++ [c] ++ [d] := rfl
  have e2 : ((a :: b :: c :: d :: r).take 1).drop 0 = [a] := rfl
  rw [e1, e2, be_snoc, be_snoc, be_snoc]
  have hb := b.toNat_lt
  have hc := c.toNat_lt
  have hd := d.toNat_lt
  generalize be [a] = y
  omega
theorem bt0_six {x : ByteArray} (h : ip6Err x = 0) : ¬ x.size = 0 ∧ bt x 0 / 16 = 6 := by
  unfold ip6Err at h
  split at h
  · exact absurd h (by decide)
  rename_i h40
  split at h
  case isFalse => exact absurd h (by decide)
  rename_i h6
  refine ⟨by omega, ?_⟩
  rw [first_four x (by omega)] at h6
  have := bt_one x 0 (by omega)
  rw [show (0 : Int) = ((0 : Nat) : Int) from rfl, this, show (0 + 1 : Nat) = 1 from rfl]
  generalize be (bl (x.extract 0 1)) = y at h6 ⊢
  omega
theorem get_of4 {x : ByteArray} {a b c d e : Int} {df mf : Bool} {src dst opt p : ByteArray} (h : ip4_Get.f x = some (a, b, c, d, e, df, mf, src, dst, opt, p, 0)) : flow_Get.f x = flow_fin e src dst p (c != 0 || mf) true := by
  obtain ⟨h1, h2⟩ := bt0_four (err4_of h)
  unfold flow_Get.f
  rw [if_neg h1, if_pos h2, h, Option.bind_some]
  dsimp +instances only
  rw [if_neg (fun h => h rfl)]
theorem get_of6 {x : ByteArray} {a b c d : Int} {src dst p : ByteArray} (h : ip6_Get.f x = some (a, b, c, d, src, dst, p, 0)) : flow_Get.f x = flow_fin c src dst p false false := by
  obtain ⟨h1, h2⟩ := bt0_six (err6_of h)
  unfold flow_Get.f
  rw [if_neg h1, if_neg (by omega), if_pos h2, h, Option.bind_some]
  dsimp +instances only
  rw [if_neg (fun h => h rfl)]
theorem ports_ex (proto : Int) {pay : ByteArray} (hz : pay.size ≤ 1000000) : ∃ p1 p2 p3 p4, flow_ports.f proto pay = some (p1, p2, p3, p4) := by
  unfold flow_ports.f
  by_cases h6 : proto = 6
  · obtain ⟨⟨d1, d2, d3, d4, d5, d6, d7, d8, d9, d10, d11⟩, hd'⟩ : ∃ d, tcp_Get.f pay = some d := ⟨_, getT_is (by omega)⟩
    rw [if_pos h6, hd', Option.bind_some]; exact ⟨_, _, _, _, rfl⟩
  · obtain ⟨⟨d1, d2, d3, d4, d5⟩, hd'⟩ : ∃ d, udp_Get.f pay = some d := ⟨_, get_is (by omega)⟩
    rw [if_neg h6, hd', Option.bind_some]; exact ⟨_, _, _, _, rfl⟩
theorem fin_ex (proto : Int) {src dst pay : ByteArray} (piece bare : Bool) (hs : src.size ≤ 300) (hd : dst.size ≤ 300) (hz : pay.size ≤ 1000000) : ∃ r, flow_fin proto src dst pay piece bare = some r := by
  cases piece with
  | true => exact ⟨_, fin_piece bare⟩
  | false =>
    by_cases hp : proto ≠ 6 ∧ proto ≠ 17
    · exact ⟨_, fin_other bare hp⟩
    · have hp' : proto = 6 ∨ proto = 17 := by omega
      obtain ⟨p1, p2, p3, p4, h⟩ := ports_ex proto hz
      by_cases h4 : p4 = 0
      · subst h4; exact ⟨_, fin_some bare hp' h hs hd (by omega)⟩
      · exact ⟨_, fin_err bare hp' h h4⟩
theorem flow_some (s : ByteArray) (hs : s.size ≤ 1000000) : ∃ r, flow_Get.f s = some r := by
  unfold flow_Get.f
  split
  · exact ⟨_, rfl⟩
  split
  · unfold ip4_Get.f
    rw [if_pos (by omega)]
    by_cases he : ip4Err s = 0
    · have hE := (err4_zero he).1
      rw [if_pos he, Option.bind_some]
      dsimp +instances only
      rw [if_neg (fun h => h rfl)]
      exact fin_ex _ _ _ (by rw [ByteArray.size_extract]; omega) (by rw [ByteArray.size_extract]; omega) (by rw [ByteArray.size_extract]; omega)
    · rw [if_neg he, Option.bind_some]
      dsimp +instances only
      rw [if_pos he]
      exact ⟨_, rfl⟩
  split
  · unfold ip6_Get.f
    rw [if_pos (by omega)]
    by_cases he : ip6Err s = 0
    · rw [if_pos he, Option.bind_some]
      dsimp +instances only
      rw [if_neg (fun h => h rfl)]
      exact fin_ex _ _ _ (by rw [ByteArray.size_extract]; omega) (by rw [ByteArray.size_extract]; omega) (by rw [ByteArray.size_extract]; omega)
    · rw [if_neg he, Option.bind_some]
      dsimp +instances only
      rw [if_pos he]
      exact ⟨_, rfl⟩
  · exact ⟨_, rfl⟩
end FG
end Go.Proofs.Ytcmalglippmocaa.Pure
end

section
namespace Go.Proofs.Ytcmalglippmocaa.Pure
open Go.RowKit Go.Proofs.YtcmalglippmocaaW.PrintWords Go.Proofs.YtcmalglippmocaaW.PrintLast Go.Proofs.Ytcmalglippmocaa.G Go.Proofs.Ytcmalglippmocaa.Pal
open FG F2
namespace FS
theorem fin_ok_inv {proto a d e : Int} {src dst pay b c : ByteArray} {piece bare : Bool} (h : flow_fin proto src dst pay piece bare = some (a, b, c, d, e, 0)) (hs : src.size ≤ 300) (hd : dst.size ≤ 300) (hz : pay.size ≤ 1000000) :
    piece = false ∧ (proto = 6 ∨ proto = 17) ∧ a = proto ∧ b = src ∧ c = dst ∧ ∃ p3, flow_ports.f proto pay = some (d, e, p3, 0) ∧ okR proto p3 src dst pay bare = true := by
  have bad : ∀ x : Int, some (flow_bad x) = some (a, b, c, d, e, 0) → x = 0 := fun x hx => by
    have := Option.some.inj hx
    simp only [flow_bad, Prod.mk.injEq] at this
    exact this.2.2.2.2.2
  cases piece with
  | true => rw [fin_piece] at h; exact absurd (bad _ h) (by decide)
  | false =>
    by_cases hp : proto ≠ 6 ∧ proto ≠ 17
    · rw [fin_other bare hp] at h; exact absurd (bad _ h) (by decide)
    · have hp' : proto = 6 ∨ proto = 17 := by omega
      obtain ⟨p1, p2, p3, p4, hq⟩ := ports_ex proto hz
      by_cases h4 : p4 = 0
      · subst h4
        rw [fin_some bare hp' hq hs hd (by omega)] at h
        by_cases ho : okR proto p3 src dst pay bare = true
        · rw [if_pos ho] at h
          have := Option.some.inj h
          simp only [Prod.mk.injEq] at this
          obtain ⟨h1, h2, h3, h4, h5, _⟩ := this
          exact ⟨rfl, hp', h1.symm, h2.symm, h3.symm, p3, by rw [hq, h4, h5], ho⟩
        · rw [if_neg ho] at h; exact absurd (bad _ h) (by decide)
      · rw [fin_err bare hp' hq h4] at h; exact absurd (bad _ h) h4
theorem same4 {p q : ByteArray} (he : ip4Err p = 0) (hz : q.size = p.size) (hx : ∀ i j, j ≤ hl4 p → q.extract i j = p.extract i j) : ip4Err q = 0 ∧ hl4 q = hl4 p := by
  obtain ⟨h1, h2, ⟨h3, h4, h5⟩, h6, h7⟩ := err4_zero he
  have e0 := hx 0 1 (by omega)
  have eh : hl4 q = hl4 p := by unfold hl4; rw [e0]
  refine ⟨?_, eh⟩
  unfold ip4Err
  rw [eh, e0, hx 2 4 (by omega), hx 6 8 (by omega), hx 0 (hl4 p) (by omega), hz, if_neg (by omega), if_pos h2, if_pos ⟨h3, h4, h5⟩, if_pos h6, if_pos h7]
theorem get4_is {p : ByteArray} (he : ip4Err p = 0) (hs : p.size ≤ 1000000) : flow_Get.f p = flow_fin ((be (bl (p.extract 9 10)) : Nat) : Int) (p.extract 12 16) (p.extract 16 20) (p.extract (hl4 p) p.size) (((be (bl (p.extract 6 8)) % 8192 : Nat) : Int) != 0 || (be (bl (p.extract 6 8)) / 8192 % 2 == 1)) true := by
  have h : ip4_Get.f p = some (((be (bl (p.extract 1 2)) : Nat) : Int), ((be (bl (p.extract 4 6)) : Nat) : Int), ((be (bl (p.extract 6 8)) % 8192 : Nat) : Int), ((be (bl (p.extract 8 9)) : Nat) : Int), ((be (bl (p.extract 9 10)) : Nat) : Int), (be (bl (p.extract 6 8)) / 16384 % 2 == 1), (be (bl (p.extract 6 8)) / 8192 % 2 == 1), p.extract 12 16, p.extract 16 20, p.extract 20 (hl4 p), p.extract (hl4 p) p.size, 0) := by
    unfold ip4_Get.f
    rw [if_pos (by omega), if_pos he]
  exact get_of4 h
theorem same6 {p q : ByteArray} (he : ip6Err p = 0) (hz : q.size = p.size) (hx : ∀ i j, j ≤ 40 → q.extract i j = p.extract i j) : ip6Err q = 0 := by
  unfold ip6Err at he ⊢
  rw [hz, hx 0 4 (by decide), hx 4 6 (by decide)]
  exact he
theorem get6_is {p : ByteArray} (he : ip6Err p = 0) (hs : p.size ≤ 1000000) : flow_Get.f p = flow_fin ((be (bl (p.extract 6 7)) : Nat) : Int) (p.extract 8 24) (p.extract 24 40) (p.extract 40 p.size) false false := by
  have h : ip6_Get.f p = some (Go.bits .and .i64 (((be (bl (p.extract 0 4)) : Nat) : Int) / 1048576) 255, Go.bits .and .i64 ((be (bl (p.extract 0 4)) : Nat) : Int) 1048575, ((be (bl (p.extract 6 7)) : Nat) : Int), ((be (bl (p.extract 7 8)) : Nat) : Int), p.extract 8 24, p.extract 24 40, p.extract 40 p.size, 0) := by
    unfold ip6_Get.f
    rw [if_pos (by omega), if_pos he]
  exact get_of6 h
theorem size6 {p : ByteArray} (he : ip6Err p = 0) : 40 ≤ p.size := by
  unfold ip6Err at he
  split at he
  · exact absurd he (by decide)
  · omega
theorem err_of_flow {p : ByteArray} {a d e : Int} {b c : ByteArray} (hs : p.size ≤ 1000000) (h : flow_Get.f p = some (a, b, c, d, e, 0)) : ip4Err p = 0 ∨ ip6Err p = 0 := by
  have bad : ∀ x : Int, some (flow_bad x) = some (a, b, c, d, e, 0) → x = 0 := fun x hx => by
    have := Option.some.inj hx
    simp only [flow_bad, Prod.mk.injEq] at this
    exact this.2.2.2.2.2
  unfold flow_Get.f at h
  split at h
  · exact absurd (bad _ h) (by decide)
  split at h
  · unfold ip4_Get.f at h
    rw [if_pos (by omega)] at h
    by_cases he : ip4Err p = 0
    · exact .inl he
    · rw [if_neg he, Option.bind_some] at h
      dsimp +instances only at h
      rw [if_pos he] at h
      exact absurd (bad _ h) he
  split at h
  · unfold ip6_Get.f at h
    rw [if_pos (by omega)] at h
    by_cases he : ip6Err p = 0
    · exact .inr he
    · rw [if_neg he, Option.bind_some] at h
      dsimp +instances only at h
      rw [if_pos he] at h
      exact absurd (bad _ h) he
  · exact absurd (bad _ h) (by decide)
theorem flow_valid {p : ByteArray} {a d e : Int} {b c : ByteArray} (hs : p.size ≤ 1000000) (h : flow_Get.f p = some (a, b, c, d, e, 0)) :
    ∃ n, 20 ≤ n ∧ n ≤ p.size ∧ b.size = c.size ∧ ((b.size = 4 ∧ bt p 0 / 16 = 4 ∧ (n : Int) = bt p 0 % 16 * 4) ∨ (b.size = 16 ∧ bt p 0 / 16 = 6 ∧ n = 40)) ∧ (a = 6 ∨ a = 17) ∧
      (∃ p3, flow_ports.f a (p.extract n p.size) = some (d, e, p3, 0) ∧ okR a p3 b c (p.extract n p.size) (decide (b.size = 4)) = true) ∧
      ∀ q : ByteArray, q.size = p.size → (∀ i j, j ≤ n → q.extract i j = p.extract i j) → flow_Get.f q = flow_fin a b c (q.extract n q.size) false (decide (b.size = 4)) := by
  rcases err_of_flow hs h with he | he
  · obtain ⟨h1, h2, ⟨h3, h4, h5⟩, h6, h7⟩ := err4_zero he
    have z1 : (p.extract 12 16).size = 4 := by rw [ByteArray.size_extract]; omega
    have z2 : (p.extract 16 20).size = 4 := by rw [ByteArray.size_extract]; omega
    have z3 : (p.extract (hl4 p) p.size).size ≤ 1000000 := by rw [ByteArray.size_extract]; omega
    rw [get4_is he hs] at h
    obtain ⟨hpc, hpr, rfl, rfl, rfl, p3, hp3, hok⟩ := fin_ok_inv h (by omega) (by omega) z3
    obtain ⟨h0, hb⟩ := bt0_four he
    have hbt := bt_one p 0 (by omega)
    refine ⟨hl4 p, h3, h4, by omega, .inl ⟨z1, hb, ?_⟩, hpr, ⟨p3, hp3, by rw [decide_eq_true z1]; exact hok⟩, fun q hz hx => ?_⟩
    · rw [show (0 : Int) = ((0 : Nat) : Int) from rfl, hbt, show (0 + 1 : Nat) = 1 from rfl]
      unfold hl4
      omega
    · obtain ⟨hq, hl⟩ := same4 he hz hx
      rw [get4_is hq (by omega), hl, hx 9 10 (by omega), hx 12 16 (by omega), hx 16 20 (by omega), hx 6 8 (by omega), hpc, decide_eq_true z1]
  · have h40 := size6 he
    have z1 : (p.extract 8 24).size = 16 := by rw [ByteArray.size_extract]; omega
    have z2 : (p.extract 24 40).size = 16 := by rw [ByteArray.size_extract]; omega
    have z3 : (p.extract 40 p.size).size ≤ 1000000 := by rw [ByteArray.size_extract]; omega
    rw [get6_is he hs] at h
    obtain ⟨hpc, hpr, rfl, rfl, rfl, p3, hp3, hok⟩ := fin_ok_inv h (by omega) (by omega) z3
    obtain ⟨h0, hb⟩ := bt0_six he
    refine ⟨40, by decide, h40, by omega, .inr ⟨z1, hb, rfl⟩, hpr, ⟨p3, hp3, by rw [decide_eq_false (by omega)]; exact hok⟩, fun q hz hx => ?_⟩
    rw [get6_is (same6 he hz hx) (by omega), hx 6 7 (by omega), hx 8 24 (by omega), hx 24 40 (by omega), decide_eq_false (by omega)]
end FS
end Go.Proofs.Ytcmalglippmocaa.Pure
end

section
namespace Go.Proofs.Ytcmalglippmocaa.Pure
open Go.RowKit Go.Proofs.YtcmalglippmocaaW.PrintWords Go.Proofs.YtcmalglippmocaaW.PrintLast Go.Proofs.Ytcmalglippmocaa.G Go.Proofs.Ytcmalglippmocaa.Pal
open FG F2 FS
namespace FT
theorem ports6 {pay : ByteArray} {d e p3 : Int} (h : flow_ports.f 6 pay = some (d, e, p3, 0)) (hz : pay.size ≤ 1000000) : tcpErr pay = 0 := by
  unfold flow_ports.f at h
  rw [if_pos rfl, getT_is (by omega), Option.bind_some] at h
  by_cases hu : tcpErr pay = 0
  · exact hu
  · rw [if_neg hu] at h
    have := Option.some.inj h
    simp only [Prod.mk.injEq] at this
    exact absurd this.2.2.2 hu
theorem and15 (x : Int) (h0 : 0 ≤ x) (h1 : x < 256) : Go.bits .and .u8 x 15 = x % 16 := by
  have h : ∀ b : Fin 256, Go.bits .and .u8 (b.val : Int) 15 = ((b.val % 16 : Nat) : Int) := by decide +kernel
  obtain ⟨n, rfl⟩ := Int.eq_ofNat_of_zero_le h0
  have := h ⟨n, by omega⟩
  dsimp only at this
  rw [this]; omega
theorem bt_range (s : ByteArray) (i : Nat) (h : i < s.size) : 0 ≤ bt s (i : Int) ∧ bt s (i : Int) < 256 := by
  rw [bt_bl s i h]
  have := ((bl s)[i]'(by rw [bl_length]; exact h)).toNat_lt
  omega
theorem be_two (s : ByteArray) (i : Nat) (h : i + 1 < s.size) : be (bl (s.extract i (i + 2))) = ((bl s)[i]'(by rw [bl_length]; omega)).toNat * 256 + ((bl s)[i + 1]'(by rw [bl_length]; omega)).toNat := by
  have hb := bl_length s
  have d0 := List.drop_eq_getElem_cons (l := bl s) (i := i) (by omega)
  have d1 := List.drop_eq_getElem_cons (l := bl s) (i := i + 1) (by omega)
  have e : bl (s.extract i (i + 2)) = [(bl s)[i]'(by omega), (bl s)[i + 1]'(by omega)] := by
    rw [cut_bl, List.drop_take, show i + 2 - i = 2 by omega, d0, d1]
    rfl
  have e2 : ∀ x y : UInt8, be [x, y] = x.toNat * 256 + y.toNat := fun x y => by
    rw [show [x, y] = [x] ++ [y] from rfl, be_snoc]
    simp [be]
  rw [e, e2]
end FT
end Go.Proofs.Ytcmalglippmocaa.Pure
end

section
namespace Go.Proofs.Ytcmalglippmocaa.Pure
open Go.RowKit Go.Proofs.YtcmalglippmocaaW.PrintWords Go.Proofs.YtcmalglippmocaaW.PrintLast Go.Proofs.Ytcmalglippmocaa.G Go.Proofs.Ytcmalglippmocaa.Pal
open FG F2 FS FT
namespace CL
theorem awake10 : palanquinlaw10_awake.f 80000 = some true := by decide +kernel
theorem and2i (x : Int) (h0 : 0 ≤ x) (h1 : x < 256) : Go.bits .and .i64 x 2 = x / 2 % 2 * 2 := by
  have h : ∀ b : Fin 256, Go.bits .and .i64 (b.val : Int) 2 = ((b.val / 2 % 2 * 2 : Nat) : Int) := by decide +kernel
  obtain ⟨n, rfl⟩ := Int.eq_ofNat_of_zero_le h0
  have := h ⟨n, by omega⟩
  dsimp only at this
  rw [this]; omega
theorem wrap_hd (y : Int) {n : Nat} (h : (n : Int) = y % 16 * 4) (_ : True) : wrap64 (wrap64 (y % 16) * 4) = (n : Int) := by unfold wrap64; omega
theorem wrap_hq (n q : Nat) (hn : n ≤ 60) (hq : q ≤ 1000000) : wrap64 (wrap64 ((n : Int) + 20) + (q : Int)) = ((n + 20 + q : Nat) : Int) := by unfold wrap64; omega
def findR (n : Nat) (s : ByteArray) : Int × Int × Bool :=
  match mssOf (bl (s.extract 20 (ht s))) with
  | none => (0, 0, false)
  | some (m, q) => if be (bl (s.extract 13 14)) / 2 % 2 = 0 then (0, 0, false) else (((n + 20 + q : Nat) : Int), (m : Int), true)
theorem mssOf_lt {l : List UInt8} {m q : Nat} (h : mssOf l = some (m, q)) : q + 2 ≤ l.length ∧ m ≤ 65535 := by
  obtain ⟨L1, L2, j, _, rfl, hj, _, _, hn, _⟩ := mssOf_some h
  have b2 := UInt8.toNat_lt (l.getD (j + 2) 0)
  have b3 := UInt8.toNat_lt (l.getD (j + 3) 0)
  omega
theorem find_not {p : ByteArray} {a d e x : Int} {b c : ByteArray} (h : flow_Get.f p = some (a, b, c, d, e, x)) (hx : x ≠ 0 ∨ a ≠ 6) (k : Nat) : clamp_find.f (k + 1) p = some (0, 0, false) := by
  unfold clamp_find.f
  rw [h, Option.bind_some]
  dsimp +instances only
  by_cases h0 : x = 0
  · have ha : a ≠ 6 := by rcases hx with hx | hx
                          · exact absurd h0 hx
                          · exact hx
    rw [if_pos h0, show (a != 6) = true by simp [ha], clamp_find.j0, if_pos rfl]
  · rw [if_neg h0, clamp_find.j0, if_pos rfl]
theorem head_is {p b : ByteArray} {n : Nat} (hp : 0 < p.size) (h : (b.size = 4 ∧ bt p 0 / 16 = 4 ∧ (n : Int) = bt p 0 % 16 * 4) ∨ (b.size = 16 ∧ bt p 0 / 16 = 6 ∧ n = 40)) : clamp_head.f p = some (n : Int) := by
  unfold clamp_head.f
  have hr := bt_range p 0 hp
  rw [show ((0 : Nat) : Int) = 0 from rfl] at hr
  rw [if_pos (by omega)]
  rcases h with ⟨_, h1, h2⟩ | ⟨_, h1, h2⟩
  · rw [if_neg (by omega), FT.and15 _ hr.1 hr.2, wrap_hd _ h2 trivial]
  · rw [if_pos h1, h2]; rfl
theorem find_seg {p : ByteArray} {d e : Int} {b c : ByteArray} {n : Nat} (hs : p.size ≤ 1000000) (h : flow_Get.f p = some (6, b, c, d, e, 0)) (hn : n ≤ p.size) (hp : 0 < p.size)
    (hh : (b.size = 4 ∧ bt p 0 / 16 = 4 ∧ (n : Int) = bt p 0 % 16 * 4) ∨ (b.size = 16 ∧ bt p 0 / 16 = 6 ∧ n = 40)) (ht0 : tcpErr (p.extract n p.size) = 0) (k : Nat) :
    clamp_find.f (k + 1) p = some (findR n (p.extract n p.size)) := by
  have hz : (p.extract n p.size).size = p.size - n := by rw [ByteArray.size_extract]; omega
  obtain ⟨g1, g2, _, _⟩ := errT_zero ht0
  have hn40 : n ≤ 60 := by
    have hr := bt_range p 0 hp
    rw [show ((0 : Nat) : Int) = 0 from rfl] at hr
    rcases hh with ⟨_, _, h2⟩ | ⟨_, _, h2⟩ <;> omega
  unfold clamp_find.f
  rw [h, Option.bind_some]
  dsimp +instances only
  rw [if_pos rfl, show ((6 : Int) != 6) = false by decide, clamp_find.j0, if_neg (by decide), head_is hp hh, Option.bind_some, if_pos (by omega), if_pos (by omega), Int.toNat_natCast, getT_is (by omega), if_pos ht0, Option.bind_some]
  dsimp +instances only
  clear ht0
  generalize hsg : p.extract n p.size = s at *
  clear hsg
  have hb : be (bl (s.extract 13 14)) < 256 := by
    have := be_lt_of (bl (s.extract 13 14)) 1 (by rw [bl_length, ByteArray.size_extract]; omega)
    omega
  rw [mss_is _ (by rw [ByteArray.size_extract]; omega), Option.bind_some]
  unfold findR
  cases hm : mssOf (bl (s.extract 20 (ht s))) with
  | none => rfl
  | some r =>
    obtain ⟨m, q⟩ := r
    have hq := (mssOf_lt hm).1
    rw [bl_length, ByteArray.size_extract] at hq
    have hq2 : q ≤ 1000000 := by clear hm; omega
    rw [show mssR (some (m, q)) = ((m : Int), (q : Int), true) from rfl]
    dsimp +instances only
    rw [if_pos rfl, and2i _ (by omega) (by omega)]
    by_cases hf : be (bl (s.extract 13 14)) / 2 % 2 = 0
    · rw [if_pos (by omega), if_pos hf]
    · rw [if_neg (by omega), if_neg hf]
      rw [wrap_hq n q hn40 hq2]
theorem clamp_same {p : ByteArray} {i m : Int} (h : clamp_find.f 1 p = some (i, m, false)) (l : Int) : clamp_Clamp.f p l = some p := by
  unfold clamp_Clamp.f
  rw [h, Option.bind_some, if_pos (.inl rfl)]
end CL
end Go.Proofs.Ytcmalglippmocaa.Pure
end

section
namespace Go.Proofs.Ytcmalglippmocaa.Pure
open Go.RowKit Go.Proofs.YtcmalglippmocaaW.PrintWords Go.Proofs.YtcmalglippmocaaW.PrintLast Go.Proofs.Ytcmalglippmocaa.G Go.Proofs.Ytcmalglippmocaa.Pal
open FG F2 FS FT
namespace CL
theorem getD_take {l : List UInt8} {j q : Nat} (h : j < q) : (l.take q).getD j 0 = l.getD j 0 := by simp [List.getD_eq_getElem?_getD, h]
theorem getD_drop (l : List UInt8) (q k : Nat) : (l.drop q).getD k 0 = l.getD (q + k) 0 := by simp [List.getD_eq_getElem?_getD, List.getElem?_drop]
theorem getD_over {l : List UInt8} {j : Nat} (h : l.length ≤ j) : l.getD j 0 = 0 := by simp [List.getD_eq_getElem?_getD, h]
theorem cut_getD (s : ByteArray) (n m k : Nat) : (bl (s.extract n m)).getD k 0 = if n + k < m then (bl s).getD (n + k) 0 else 0 := by
  rw [cut_bl, getD_drop]
  by_cases h : n + k < m
  · rw [if_pos h, getD_take h]
  · rw [if_neg h, getD_over (by rw [List.length_take]; omega)]
theorem getD_at {l : List UInt8} {i : Nat} (h : i < l.length) : l.getD i 0 = l[i] := by simp [List.getD_eq_getElem?_getD, h]
theorem ext_getD {x y : ByteArray} (hz : x.size = y.size) (h : ∀ k, (bl x).getD k 0 = (bl y).getD k 0) : x = y := by
  apply bl_inj
  apply List.ext_getElem (by rw [bl_length, bl_length, hz])
  intro i h1 h2
  have := h i
  rw [getD_at h1, getD_at h2] at this
  exact this
theorem putAt_getD {s : ByteArray} {q : Nat} (c : Nat) {j : Nat} (h : q + 2 ≤ s.size) (hj : j < q ∨ q + 2 ≤ j) : (bl (putAt s q c)).getD j 0 = (bl s).getD j 0 := by
  rcases hj with h1 | h2
  · rw [← getD_take (l := bl (putAt s q c)) h1, take_putAt s q c h, getD_take h1]
  · obtain ⟨k, rfl⟩ := Nat.exists_eq_add_of_le h2
    rw [← getD_drop, drop_putAt s q c h, getD_drop]
theorem putAt_in {s : ByteArray} {q c : Nat} {j : Nat} (h : q + 2 ≤ s.size) (hj : j < 2) : (bl (putAt s q c)).getD (q + j) 0 = (nb 2 c).getD j 0 := by
  have hl : ((bl s).take q).length = q := by rw [List.length_take, bl_length]; omega
  rw [← getD_drop, bl_putAt, List.append_assoc, List.drop_left' hl, List.getD_eq_getElem?_getD, List.getElem?_append_left (by rw [nb_length]; exact hj), ← List.getD_eq_getElem?_getD]
theorem putAt_comm {s : ByteArray} {q r c d : Nat} (h : q + 2 ≤ r) (hr : r + 2 ≤ s.size) : putAt (putAt s q c) r d = putAt (putAt s r d) q c := by
  have z1 := putAt_size s q c (by omega)
  have z2 := putAt_size s r d hr
  refine ext_getD ((putAt_size _ _ _ (by omega)).trans (z1.trans (z2.symm.trans (putAt_size _ _ _ (by omega)).symm))) fun k => ?_
  by_cases h1 : k < q ∨ q + 2 ≤ k
  · rw [putAt_getD (s := putAt s r d) c (by omega) h1]
    by_cases h2 : k < r ∨ r + 2 ≤ k
    · rw [putAt_getD (s := putAt s q c) d (by omega) h2, putAt_getD c (by omega) h1, putAt_getD d hr h2]
    · obtain ⟨j, rfl⟩ := Nat.exists_eq_add_of_le (show r ≤ k by omega)
      rw [putAt_in (by omega) (by omega), putAt_in hr (by omega)]
  · obtain ⟨j, rfl⟩ := Nat.exists_eq_add_of_le (show q ≤ k by omega)
    rw [putAt_in (s := putAt s r d) (by omega) (by omega), putAt_getD (s := putAt s q c) d (by omega) (.inl (by omega)), putAt_in (by omega) (by omega)]
theorem putAt_two {s : ByteArray} {q c : Nat} (h : q + 2 ≤ s.size) (hc : c ≤ 65535) : ((bl (putAt s q c)).getD q 0).toNat * 256 + ((bl (putAt s q c)).getD (q + 1) 0).toNat = c := by
  have hz := putAt_size s q c h
  have e := be_two (putAt s q c) q (by omega)
  rw [mid_putAt s q c h, be_nb] at e
  rw [getD_at (l := bl (putAt s q c)) (i := q) (by rw [bl_length]; omega), getD_at (l := bl (putAt s q c)) (i := q + 1) (by rw [bl_length]; omega)]
  omega
theorem ext_putAt {s : ByteArray} {q : Nat} (c : Nat) {x y : Nat} (h : q + 2 ≤ s.size) (hy : y ≤ q) : (putAt s q c).extract x y = s.extract x y := by
  apply bl_inj
  have e := congrArg (List.take y) (take_putAt s q c h)
  rw [List.take_take, List.take_take, Nat.min_eq_left hy] at e
  rw [cut_bl, cut_bl, e]
theorem ahead_of {l : List UInt8} {L1 L2 : List (Nat × Nat)} {q : Nat} (hW : W l 0 = some (L1 ++ (q, 4) :: L2)) : W (l.take q) 0 = some L1 ∧ ∀ p ∈ L1, p.1 + p.2 ≤ q ∧ 1 ≤ p.2 := by
  have h := W_take l L2 q 4 0 L1 hW
  refine ⟨h, fun p hp => ?_⟩
  have hm := W_mem 0 L1 h p hp
  rw [List.length_take] at hm
  omega
theorem is_like {l l' : List UInt8} {p : Nat × Nat} (h : l'.getD p.1 0 = l.getD p.1 0) : isMSS l' p = isMSS l p := by unfold isMSS; rw [h]
theorem put_both {l l' : List UInt8} {L1 L2 : List (Nat × Nat)} {q : Nat} (hW : W l 0 = some (L1 ++ (q, 4) :: L2)) (hl : l'.length = l.length) (hag : ∀ j, j < q + 2 ∨ q + 4 ≤ j → l'.getD j 0 = l.getD j 0) (h2 : l.getD q 0 = 2) (hno : ∀ p ∈ L1, isMSS l p = false) :
    rightO l' = true ∧ mssOf l' = some (mssAt l' (q, 4)) := by
  have h := W_put l l' hl q hag 0 _ hW (by simp)
  obtain ⟨_, hb⟩ := ahead_of hW
  refine ⟨rightO_of h, ?_⟩
  rw [mssOf_of h, List.find?_append, List.find?_eq_none.mpr (fun p hp => by
    rw [is_like (hag p.1 (by have := hb p hp; omega)), hno p hp]; decide), List.find?_cons, show isMSS l' (q, 4) = true by rw [is_like (hag q (by omega))]; unfold isMSS; rw [h2]; rfl]
  rfl
def sq (s : ByteArray) (a L c : Nat) : ByteArray := putAt (putAt s (20 + a) L) 16 c
theorem sq_size {s : ByteArray} {a : Nat} (L c : Nat) (h : 22 + a ≤ s.size) : (sq s a L c).size = s.size := by
  unfold sq; rw [putAt_size _ _ _ (by rw [putAt_size _ _ _ (by omega)]; omega), putAt_size _ _ _ (by omega)]
theorem sq_low {s : ByteArray} {a : Nat} (L c : Nat) {x y : Nat} (h : 22 + a ≤ s.size) (hy : y ≤ 16) : (sq s a L c).extract x y = s.extract x y := by
  unfold sq; rw [ext_putAt c (by rw [putAt_size _ _ _ (by omega)]; omega) hy, ext_putAt L (by omega) (by omega)]
theorem sq_getD {s : ByteArray} {a : Nat} (L c : Nat) {k : Nat} (h : 22 + a ≤ s.size) (h1 : k < 16 ∨ 18 ≤ k) (h2 : k < 20 + a ∨ 22 + a ≤ k) : (bl (sq s a L c)).getD k 0 = (bl s).getD k 0 := by
  unfold sq; rw [putAt_getD c (by rw [putAt_size _ _ _ (by omega)]; omega) h1, putAt_getD L (by omega) (by omega)]
theorem sq_ht {s : ByteArray} {a : Nat} (L c : Nat) (h : 22 + a ≤ s.size) : ht (sq s a L c) = ht s := by unfold ht; rw [sq_low L c h (by decide)]
theorem mss_room {s : ByteArray} {m a : Nat} (hm : mssOf (bl (s.extract 20 (ht s))) = some (m, a)) : 2 ≤ a ∧ m ≤ 65535 ∧ 22 + a ≤ ht s ∧ 22 + a ≤ s.size := by
  obtain ⟨_, _, q, _, rfl, hq, _⟩ := mssOf_some hm
  have := (mssOf_lt hm).2
  rw [bl_length, ByteArray.size_extract] at hq
  omega
theorem sq_right {s : ByteArray} {m a L : Nat} (c : Nat) (h0 : tcpErr s = 0) (hm : mssOf (bl (s.extract 20 (ht s))) = some (m, a)) (hL : L ≤ 65535) :
    tcpErr (sq s a L c) = 0 ∧ mssOf (bl ((sq s a L c).extract 20 (ht (sq s a L c)))) = some (L, a) := by
  obtain ⟨r1, r2, r3, r4⟩ := mss_room hm
  obtain ⟨g1, ⟨g2, g3⟩, g4, _⟩ := errT_zero h0
  clear h0
  have hz := sq_size (s := s) (a := a) L c r4
  have hh := sq_ht (s := s) (a := a) L c r4
  have hlow : (sq s a L c).extract 12 13 = s.extract 12 13 := sq_low L c r4 (by decide)
  obtain ⟨L1, L2, q, hW, rfl, hq, h2, h4, hn, hno⟩ := mssOf_some hm
  have hlen : (bl ((sq s (q + 2) L c).extract 20 (ht s))).length = (bl (s.extract 20 (ht s))).length := by
    rw [bl_length, bl_length, ByteArray.size_extract, ByteArray.size_extract, hz]
  obtain ⟨p1, p2⟩ := put_both hW hlen (fun j hj => by
    rw [cut_getD, cut_getD]
    by_cases hk : 20 + j < ht s
    · rw [if_pos hk, if_pos hk, sq_getD L c r4 (by omega) (by omega)]
    · rw [if_neg hk, if_neg hk]) h2 hno
  refine ⟨?_, ?_⟩
  · unfold tcpErr
    rw [hz, hh, hlow, if_neg (by omega), if_pos ⟨g2, g3⟩, if_pos g4, if_pos p1]
  · rw [hh, p2]
    unfold mssAt
    dsimp only
    rw [cut_getD, cut_getD, if_pos (by omega), if_pos (by omega)]
    have e : ∀ k, 18 ≤ k → (bl (sq s (q + 2) L c)).getD k 0 = (bl (putAt s (20 + (q + 2)) L)).getD k 0 := fun k hk => by
      unfold sq; rw [putAt_getD c (by rw [putAt_size _ _ _ (by omega)]; omega) (.inr hk)]
    rw [e _ (by omega), e _ (by omega), show 20 + (q + 3) = 20 + (q + 2) + 1 by omega, putAt_two (by omega) hL]
structure Seg (p b c : ByteArray) (d e : Int) (n m a : Nat) : Prop where
  n20 : 20 ≤ n
  np : n ≤ p.size
  small : p.size ≤ 5000
  bc : b.size = c.size
  hh : (b.size = 4 ∧ bt p 0 / 16 = 4 ∧ (n : Int) = bt p 0 % 16 * 4) ∨ (b.size = 16 ∧ bt p 0 / 16 = 6 ∧ n = 40)
  err : tcpErr (p.extract n p.size) = 0
  mss : mssOf (bl ((p.extract n p.size).extract 20 (ht (p.extract n p.size)))) = some (m, a)
  flag : be (bl ((p.extract n p.size).extract 13 14)) / 2 % 2 ≠ 0
  port1 : d = ((be (bl ((p.extract n p.size).extract 0 2)) : Nat) : Int)
  port2 : e = ((be (bl ((p.extract n p.size).extract 2 4)) : Nat) : Int)
  flow : flow_Get.f p = some (6, b, c, d, e, 0)
  all : ∀ q : ByteArray, q.size = p.size → (∀ i j, j ≤ n → q.extract i j = p.extract i j) → flow_Get.f q = flow_fin 6 b c (q.extract n q.size) false (decide (b.size = 4))
theorem Seg.find {p b c : ByteArray} {d e : Int} {n m a : Nat} (h : Seg p b c d e n m a) (k : Nat) : clamp_find.f (k + 1) p = some (((n + 20 + a : Nat) : Int), (m : Int), true) := by
  have hn := h.n20
  have hs := h.small
  have hp := h.np
  rw [find_seg (by omega) h.flow h.np (by omega) h.hh h.err k]
  unfold findR
  rw [h.mss]
  dsimp +instances only
  rw [if_neg h.flag]
theorem Seg.room {p b c : ByteArray} {d e : Int} {n m a : Nat} (h : Seg p b c d e n m a) : 2 ≤ a ∧ m ≤ 65535 ∧ 22 + a ≤ (p.extract n p.size).size ∧ n + 22 + a ≤ p.size := by
  obtain ⟨h1, h2, _, h4⟩ := mss_room h.mss
  have := h4
  have hp := h.np
  rw [ByteArray.size_extract] at this
  omega
theorem seg_of {p b c : ByteArray} {d e : Int} (hs : p.size ≤ 5000) (hf : flow_Get.f p = some (6, b, c, d, e, 0)) : (∀ k, clamp_find.f (k + 1) p = some (0, 0, false)) ∨ ∃ n m a, Seg p b c d e n m a := by
  obtain ⟨n, hn20, hnp, hbc, hh, _, ⟨p3, hp3, hok⟩, hall⟩ := flow_valid (by omega) hf
  have ht0 := ports6 hp3 (by rw [ByteArray.size_extract]; omega)
  have hfi := fun k => find_seg (by omega) hf hnp (by omega) hh ht0 k
  unfold findR at hfi
  cases hm : mssOf (bl ((p.extract n p.size).extract 20 (ht (p.extract n p.size)))) with
  | none => rw [hm] at hfi; exact .inl hfi
  | some r =>
    obtain ⟨m, a⟩ := r
    rw [hm] at hfi
    dsimp +instances only at hfi
    by_cases hb : be (bl ((p.extract n p.size).extract 13 14)) / 2 % 2 = 0
    · simp only [if_pos hb] at hfi; exact .inl hfi
    · refine .inr ⟨n, m, a, hn20, hnp, hs, hbc, hh, ht0, hm, hb, ?_, ?_, hf, hall⟩
      all_goals
        unfold flow_ports.f at hp3
        rw [if_pos rfl, getT_is (by rw [ByteArray.size_extract]; omega), if_pos ht0, Option.bind_some] at hp3
        have := Option.some.inj hp3
        simp only [Prod.mk.injEq] at this
      · exact this.1.symm
      · exact this.2.1.symm
def pq (p b c : ByteArray) (n a L : Nat) : ByteArray := p.extract 0 n ++ sq (p.extract n p.size) a L (sumAt (psB b c 6 ((p.extract n p.size).size : Nat)) (putAt (p.extract n p.size) (20 + a) L) 16)
theorem app_front {x y : ByteArray} {n : Nat} (h : x.size = n) {i j : Nat} (hj : j ≤ n) : (x ++ y).extract i j = x.extract i j := by
  apply bl_inj
  rw [cut_bl, cut_bl, bl_append, List.take_append_of_le_length (by rw [bl_length]; omega)]
theorem app_back {x y : ByteArray} {n : Nat} (h : x.size = n) : (x ++ y).extract n (x ++ y).size = y := by
  apply bl_inj
  rw [ext_back, bl_append, List.drop_left' (by rw [bl_length]; exact h)]
theorem front_front (p : ByteArray) {n i j : Nat} (hj : j ≤ n) : (p.extract 0 n).extract i j = p.extract i j := by
  apply bl_inj
  rw [cut_bl, ext_front, cut_bl, List.take_take, Nat.min_eq_left hj]
theorem pq_facts {p b c : ByteArray} {d e : Int} {n m a : Nat} (h : Seg p b c d e n m a) (L : Nat) : (pq p b c n a L).size = p.size ∧ (∀ i j, j ≤ n → (pq p b c n a L).extract i j = p.extract i j) ∧
    (pq p b c n a L).extract n (pq p b c n a L).size = sq (p.extract n p.size) a L (sumAt (psB b c 6 ((p.extract n p.size).size : Nat)) (putAt (p.extract n p.size) (20 + a) L) 16) := by
  have hp := h.np
  obtain ⟨_, _, hr, _⟩ := h.room
  have hz : (p.extract 0 n).size = n := by rw [ByteArray.size_extract]; omega
  have hz2 : (p.extract n p.size).size = p.size - n := by rw [ByteArray.size_extract]; omega
  refine ⟨?_, fun i j hj => ?_, app_back hz⟩
  · unfold pq
    rw [ByteArray.size_append, hz, sq_size _ _ hr, hz2]; omega
  · unfold pq
    rw [app_front hz hj, front_front p hj]
theorem Seg.put {p b c : ByteArray} {d e : Int} {n m a : Nat} (h : Seg p b c d e n m a) {L : Nat} (hL : L ≤ 65535) : Seg (pq p b c n a L) b c d e n L a := by
  obtain ⟨f1, f2, f3⟩ := pq_facts h L
  obtain ⟨r1, r2, r3, r4⟩ := h.room
  have hn20 := h.n20
  have hs := h.small
  have hp := h.np
  have hbt : bt (pq p b c n a L) 0 = bt p 0 := by
    rw [show (0 : Int) = ((0 : Nat) : Int) from rfl, bt_one _ 0 (by omega), bt_one _ 0 (by omega), f2 _ _ (by omega)]
  generalize hC : sumAt (psB b c 6 ((p.extract n p.size).size : Nat)) (putAt (p.extract n p.size) (20 + a) L) 16 = C at f3
  obtain ⟨q1, q2⟩ := sq_right C h.err h.mss hL
  have e1 : (sq (p.extract n p.size) a L C).extract 13 14 = (p.extract n p.size).extract 13 14 := sq_low L C r3 (by decide)
  have e2 : (sq (p.extract n p.size) a L C).extract 0 2 = (p.extract n p.size).extract 0 2 := sq_low L C r3 (by decide)
  have e3 : (sq (p.extract n p.size) a L C).extract 2 4 = (p.extract n p.size).extract 2 4 := sq_low L C r3 (by decide)
  have hall : ∀ q : ByteArray, q.size = (pq p b c n a L).size → (∀ i j, j ≤ n → q.extract i j = (pq p b c n a L).extract i j) → flow_Get.f q = flow_fin 6 b c (q.extract n q.size) false (decide (b.size = 4)) :=
    fun q h1 h2 => h.all q (by omega) (fun i j hj => by rw [h2 i j hj, f2 i j hj])
  have hflow : flow_Get.f (pq p b c n a L) = some (6, b, c, d, e, 0) := by
    have hb16 : b.size ≤ 16 ∧ (b.size + c.size) % 2 = 0 := by
      have := h.bc
      rcases h.hh with ⟨h1, _, _⟩ | ⟨h1, _, _⟩ <;> omega
    have hsz : (p.extract n p.size).size ≤ 5000 := by rw [ByteArray.size_extract]; omega
    have hbc := h.bc
    rw [hall _ rfl (fun _ _ _ => rfl), f3]
    have hpt : flow_ports.f 6 (sq (p.extract n p.size) a L C) = some (d, e, ((be (bl ((sq (p.extract n p.size) a L C).extract 16 18)) : Nat) : Int), 0) := by
      unfold flow_ports.f
      rw [if_pos rfl, getT_is (by rw [sq_size _ _ r3]; omega), if_pos q1, Option.bind_some]
      dsimp +instances only
      rw [e2, e3, h.port1, h.port2]
    rw [fin_some _ (.inl rfl) hpt (by omega) (by omega) (by rw [sq_size _ _ r3]; omega), if_pos]
    unfold okR
    rw [if_neg (fun hx => absurd hx.1 (by decide)), sq_size _ _ r3]
    have hsr := sealed_right (ps := psB b c 6 ((p.extract n p.size).size : Nat)) (s := putAt (p.extract n p.size) (20 + a) L) (q := 16) (p := 6) (psB_even b c 6 _ hb16.2) (by decide) (by rw [putAt_size _ _ _ (by omega)]; omega)
    rw [sealC_6, hC] at hsr
    exact decide_eq_true hsr
  refine ⟨hn20, by omega, by omega, h.bc, by rw [hbt]; exact h.hh, by rw [f3]; exact q1, by rw [f3]; exact q2, by rw [f3, e1]; exact h.flag, by rw [f3, e2]; exact h.port1, by rw [f3, e3]; exact h.port2, hflow, hall⟩
theorem lim_range (l : Int) : 0 ≤ clampLim l ∧ clampLim l ≤ 65535 := by
  unfold clampLim mx mn; split <;> split <;> omega
theorem bl_numB (c : Nat) (h : c ≤ 65535) : bl (numB (c : Int)) = nb 2 c := by
  unfold numB
  rw [u64n_of (by omega) (by omega), Int.toNat_natCast]
  simp [bl]
theorem cutW_num (s : ByteArray) (i c : Nat) (h : c ≤ 65535) : cutW s i (numB (c : Int)) = putAt s i c := by
  apply bl_inj
  unfold cutW
  rw [bl_append, bl_append, ext_front, ext_back, bl_putAt, bl_numB c h]
theorem cutW_zero (s : ByteArray) (i : Nat) : cutW s i ⟨#[0, 0]⟩ = putAt s i 0 := by
  apply bl_inj
  unfold cutW
  rw [bl_append, bl_append, ext_front, ext_back, bl_putAt]
  rfl
theorem cut_mid {p : ByteArray} {n j : Nat} (L : Nat) (h : n + j + 2 ≤ p.size) : (putAt p (n + j) L).extract n (putAt p (n + j) L).size = putAt (p.extract n p.size) j L := by
  have hz : (p.extract n p.size).size = p.size - n := by rw [ByteArray.size_extract]; omega
  refine ext_getD (by rw [ByteArray.size_extract, putAt_size _ _ _ h, putAt_size _ _ _ (by omega), hz]; omega) fun k => ?_
  rw [ext_back, getD_drop]
  by_cases h1 : k < j ∨ j + 2 ≤ k
  · rw [putAt_getD L h (by omega), putAt_getD L (by omega) h1, ext_back, getD_drop]
  · obtain ⟨i, rfl⟩ := Nat.exists_eq_add_of_le (show j ≤ k by omega)
    rw [show n + (j + i) = n + j + i by omega, putAt_in h (by omega), putAt_in (by omega) (by omega)]
theorem Seg.clamp {p b c : ByteArray} {d e : Int} {n m a : Nat} (h : Seg p b c d e n m a) (l : Int) : clamp_Clamp.f p l = some (if (m : Int) ≤ clampLim l then p else pq p b c n a (clampLim l).toNat) := by
  obtain ⟨r1, r2, r3, r4⟩ := h.room
  have hn20 := h.n20
  have hs := h.small
  have hp := h.np
  have hl := lim_range l
  unfold clamp_Clamp.f
  rw [h.find 0, Option.bind_some]
  dsimp +instances only
  by_cases hm : (m : Int) ≤ clampLim l
  · rw [if_pos (.inr hm), if_pos hm]
  · rw [if_neg (fun hx => hx.elim (fun hx => absurd hx (by decide)) hm), if_neg hm, head_is (by omega) h.hh, Option.bind_some, h.flow, Option.bind_some]
    dsimp +instances only
    rw [if_pos (by omega), Int.toNat_natCast, Int.toNat_natCast]
    obtain ⟨L, hL⟩ := Int.eq_ofNat_of_zero_le hl.1
    have hb16 : b.size ≤ 16 ∧ c.size ≤ 16 := by
      have := h.bc
      rcases h.hh with ⟨h1, _, _⟩ | ⟨h1, _, _⟩ <;> omega
    have hseg : clampSeg p (n + 20 + a) n l = putAt (p.extract n p.size) (20 + a) L := by
      unfold clampSeg
      rw [hL, cutW_num _ _ _ (by omega), show n + 20 + a = n + (20 + a) by omega, cut_mid L (by omega)]
    have hsz : (p.extract n p.size).size ≤ 5000 := by rw [ByteArray.size_extract]; omega
    have hz := putAt_size (p.extract n p.size) (20 + a) L (by omega)
    have hps := psB_size b c 6 ((p.extract n p.size).size : Nat)
    have hps2 := (psT_size (b.size == 16) 6 ((p.extract n p.size).size : Nat)).2
    unfold clamp_fin
    rw [hseg, hz, pseudo_some b c (by omega) (by omega), Option.bind_some, cutW_zero, sum_is _ (by rw [cat_cons, cat_cons, cat_nil, List.append_nil, List.length_append, bl_length, bl_length, putAt_size _ _ _ (by omega)]; omega), Option.bind_some, cat_cons, cat_cons, cat_nil, List.append_nil, cutW_num _ _ _ (csum_bound _), hL, Int.toNat_natCast]
    rfl
end CL
end Go.Proofs.Ytcmalglippmocaa.Pure
end

section
namespace Go.Proofs.Ytcmalglippmocaa.Pure
open Go.RowKit Go.Proofs.YtcmalglippmocaaW.PrintWords Go.Proofs.YtcmalglippmocaaW.PrintLast Go.Proofs.Ytcmalglippmocaa.G Go.Proofs.Ytcmalglippmocaa.Pal
namespace R2
theorem down_fast : ∀ (k n : Nat), n ≤ 4294967296 → 2 < k → palanquinref02_down.f k (n : Int) = some ((fold16 n : Nat) : Int) := by
  intro k n hn hk
  obtain ⟨k, rfl⟩ : ∃ j, k = j + 3 := ⟨k - 3, by omega⟩
  have step : ∀ m : Nat, m ≤ 4294967296 → (m : Int) ≥ 65536 → wrap64 (Int.tmod (m : Int) 65536 + wrap64 (Int.tdiv (m : Int) 65536)) = ((m % 65536 + m / 65536 : Nat) : Int) := fun m hm h => by
    rw [Int.tmod_eq_emod_of_nonneg (by omega), Int.tdiv_eq_ediv_of_nonneg (by omega)]; unfold wrap64; omega
  unfold palanquinref02_down.f
  rw [palanquinref02_down.l0]
  by_cases h : (n : Int) ≥ 65536
  · rw [if_pos h, step n hn h, palanquinref02_down.l0]
    by_cases h2 : ((n % 65536 + n / 65536 : Nat) : Int) ≥ 65536
    · rw [if_pos h2, step _ (by omega) h2, palanquinref02_down.l0, if_neg (by omega)]
      congr 2
      rw [← fold16_step n, ← fold16_step (n % 65536 + n / 65536), fold16_id _ (by omega)]
    · rw [if_neg h2]
      congr 2
      rw [← fold16_step n, fold16_id _ (by omega)]
  · rw [if_neg h, fold16_id n (by omega)]
theorem tot_two (l : List UInt8) (i : Nat) (h : i + 1 < l.length) : tot false (l.take (i + 2)) = tot false (l.take i) + tot (odd (l.take i)) [l[i], l[i + 1]] := by
  have e : l.take (i + 2) = l.take i ++ [l[i], l[i + 1]] := by
    rw [List.take_succ_eq_append_getElem (by omega), List.take_succ_eq_append_getElem (by omega), List.append_assoc]; rfl
  rw [e, tot_append]
  cases odd (l.take i) <;> rfl
theorem sum_end (s : ByteArray) (hs : s.size ≤ 6000) (k : Nat) (hk : 3 < k) : palanquinref02_Sum.l0 k s ((tot false (bl s) : Nat) : Int) (s.size : Int) = some ((65535 - fold16 (tot false (bl s)) : Nat) : Int) := by
  obtain ⟨k, rfl⟩ : ∃ j, k = j + 1 := ⟨k - 1, by omega⟩
  have hb := tot_le (bl s) false
  rw [bl_length] at hb
  rw [palanquinref02_Sum.l0, if_neg (by omega), down_fast k _ (by omega) (by omega), Option.bind_some]
  have := fold16_le (tot false (bl s))
  congr 1; unfold wrap64; omega
theorem sum_num (z x y : Nat) (hz : z ≤ 391680000) (hx : x < 2 ^ 8) (hy : y < 2 ^ 8) : wrap64 (wrap64 ((z : Int) + wrap64 (wrap64 (x : Int) * 256)) + wrap64 (y : Int)) = ((z + (x * 256 + y) : Nat) : Int) := by
  have e1 : wrap64 (x : Int) = x := by unfold wrap64; omega
  have e2 : wrap64 (y : Int) = y := by unfold wrap64; omega
  have e3 : wrap64 ((x : Int) * 256) = (x : Int) * 256 := by unfold wrap64; omega
  have e4 : wrap64 ((z : Int) + (x : Int) * 256) = (z : Int) + (x : Int) * 256 := by unfold wrap64; omega
  rw [e1, e2, e3, e4]
  unfold wrap64; omega
theorem sum_step (s : ByteArray) (hs : s.size ≤ 6000) (i k : Nat) (hi : i % 2 = 0) (h1 : i + 1 < s.size) :
    palanquinref02_Sum.l0 (k + 1) s ((tot false ((bl s).take i) : Nat) : Int) (i : Int) = palanquinref02_Sum.l0 k s ((tot false ((bl s).take (i + 2)) : Nat) : Int) ((i + 2 : Nat) : Int) := by
  have h0 : i < s.size := by omega
  have hl1 : i + 1 < (bl s).length := by rw [bl_length]; exact h1
  have hb := tot_le ((bl s).take i) false
  have hl : ((bl s).take i).length ≤ 6000 := by rw [List.length_take, bl_length]; omega
  have ho : odd ((bl s).take i) = false := by
    unfold odd; rw [List.length_take, bl_length, Nat.min_eq_left (by omega), hi]; rfl
  have ht := tot_two (bl s) i hl1
  rw [ho] at ht
  simp only [tot, Nat.add_zero] at ht
  have b0 := (bl s)[i].toNat_lt
  have b1 := (bl s)[i + 1].toNat_lt
  have w1 : wrap64 ((i : Int) + 1) = ((i + 1 : Nat) : Int) := by unfold wrap64; omega
  have w2 : wrap64 ((i : Int) + 2) = ((i + 2 : Nat) : Int) := by unfold wrap64; omega
  have g0 : bt s (i : Int) = (((bl s)[i].toNat : Nat) : Int) := bt_bl s i h0
  have g1 : bt s ((i + 1 : Nat) : Int) = (((bl s)[i + 1].toNat : Nat) : Int) := bt_bl s (i + 1) h1
  rw [ht]
  generalize (bl s)[i].toNat = x at b0 g0 ⊢
  generalize (bl s)[i + 1].toNat = y at b1 g1 ⊢
  have hz : tot false ((bl s).take i) ≤ 391680000 := by omega
  generalize tot false ((bl s).take i) = z at hz ⊢
  clear hb hl ho ht hl1 hs
  rw [palanquinref02_Sum.l0, if_pos (by omega), if_pos (by omega), w1, w2, if_pos (by omega), if_pos (by omega), g0, g1]
  rw [sum_num z x y hz b0 b1]
theorem sum_loop (s : ByteArray) (hs : s.size ≤ 6000) (he : s.size % 2 = 0) (n : Nat) : ∀ (i k : Nat), i + 2 * n = s.size → n + 3 < k →
    palanquinref02_Sum.l0 k s ((tot false ((bl s).take i) : Nat) : Int) (i : Int) = some ((65535 - fold16 (tot false (bl s)) : Nat) : Int) := by
  induction n with
  | zero =>
    intro i k hi hk
    have e := sum_end s hs k (by omega)
    rw [List.take_of_length_le (by rw [bl_length]; omega), show i = s.size by omega]
    exact e
  | succ n ih =>
    intro i k hi hk
    obtain ⟨k, rfl⟩ : ∃ j, k = j + 1 := ⟨k - 1, by omega⟩
    rw [sum_step s hs i k (by omega) (by omega)]
    exact ih (i + 2) k (by omega) (by omega)
theorem zero_is : strOfNums [0] = ⟨#[0]⟩ := by simp [strOfNums]
theorem ref_sum (s : ByteArray) (hs : s.size ≤ 5000) (k : Nat) (hk : 5000 < k) : palanquinref02_Sum.f k s = some ((csum (bl s) : Nat) : Int) := by
  unfold palanquinref02_Sum.f
  obtain ⟨k, rfl⟩ : ∃ j, k = j + 1 := ⟨k - 1, by omega⟩
  by_cases h : (s.size : Int) % 2 = 1
  · have h1 : (⟨#[0]⟩ : ByteArray).size = 1 := rfl
    rw [if_pos h, Option.bind_some, zero_is, if_pos (by rw [h1]; omega), palanquinref02_Sum.j0]
    have e := sum_loop (s ++ ⟨#[0]⟩) (by rw [ByteArray.size_append, h1]; omega) (by rw [ByteArray.size_append, h1]; omega) ((s.size + 1) / 2) 0 k (by rw [ByteArray.size_append, h1]; omega) (by omega)
    refine Eq.trans e ?_
    rw [bl_append, tot_append]
    unfold csum
    have : ∀ o, tot o (bl (⟨#[0]⟩ : ByteArray)) = 0 := fun o => by cases o <;> rfl
    rw [this]; rfl
  · rw [if_neg h, palanquinref02_Sum.j0]
    exact sum_loop s (by omega) (by omega) (s.size / 2) 0 k (by omega) (by omega)
end R2
end Go.Proofs.Ytcmalglippmocaa.Pure
end

section
namespace Go.Proofs.Ytcmalglippmocaa.Pure
open Go.RowKit Go.Proofs.YtcmalglippmocaaW.PrintWords Go.Proofs.YtcmalglippmocaaW.PrintLast Go.Proofs.Ytcmalglippmocaa.G Go.Proofs.Ytcmalglippmocaa.Pal
namespace R2
theorem down_fastL : ∀ (k n : Nat), n ≤ 1099511627776 → 3 < k → palanquinref02_down.f k (n : Int) = some ((fold16 n : Nat) : Int) := by
  intro k n hn hk
  by_cases hs : n ≤ 4294967296
  · exact down_fast k n hs (by omega)
  obtain ⟨k, rfl⟩ : ∃ j, k = j + 1 := ⟨k - 1, by omega⟩
  have step : wrap64 (Int.tmod (n : Int) 65536 + wrap64 (Int.tdiv (n : Int) 65536)) = ((n % 65536 + n / 65536 : Nat) : Int) := by
    rw [Int.tmod_eq_emod_of_nonneg (by omega), Int.tdiv_eq_ediv_of_nonneg (by omega)]; unfold wrap64; omega
  have e := down_fast k (n % 65536 + n / 65536) (by omega) (by omega)
  unfold palanquinref02_down.f at e ⊢
  rw [palanquinref02_down.l0, if_pos (by omega), step, e, fold16_step]
theorem sum_endL (s : ByteArray) (hs : s.size ≤ 80000) (k : Nat) (hk : 4 < k) : palanquinref02_Sum.l0 k s ((tot false (bl s) : Nat) : Int) (s.size : Int) = some ((65535 - fold16 (tot false (bl s)) : Nat) : Int) := by
  obtain ⟨k, rfl⟩ : ∃ j, k = j + 1 := ⟨k - 1, by omega⟩
  have hb := tot_le (bl s) false
  rw [bl_length] at hb
  rw [palanquinref02_Sum.l0, if_neg (by omega), down_fastL k _ (by omega) (by omega), Option.bind_some]
  have := fold16_le (tot false (bl s))
  congr 1; unfold wrap64; omega
theorem sum_numL (z x y : Nat) (hz : z ≤ 5222400000) (hx : x < 2 ^ 8) (hy : y < 2 ^ 8) : wrap64 (wrap64 ((z : Int) + wrap64 (wrap64 (x : Int) * 256)) + wrap64 (y : Int)) = ((z + (x * 256 + y) : Nat) : Int) := by
  have e1 : wrap64 (x : Int) = x := by unfold wrap64; omega
  have e2 : wrap64 (y : Int) = y := by unfold wrap64; omega
  have e3 : wrap64 ((x : Int) * 256) = (x : Int) * 256 := by unfold wrap64; omega
  have e4 : wrap64 ((z : Int) + (x : Int) * 256) = (z : Int) + (x : Int) * 256 := by unfold wrap64; omega
  rw [e1, e2, e3, e4]
  unfold wrap64; omega
theorem sum_stepL (s : ByteArray) (hs : s.size ≤ 80000) (i k : Nat) (hi : i % 2 = 0) (h1 : i + 1 < s.size) :
    palanquinref02_Sum.l0 (k + 1) s ((tot false ((bl s).take i) : Nat) : Int) (i : Int) = palanquinref02_Sum.l0 k s ((tot false ((bl s).take (i + 2)) : Nat) : Int) ((i + 2 : Nat) : Int) := by
  have h0 : i < s.size := by omega
  have hl1 : i + 1 < (bl s).length := by rw [bl_length]; exact h1
  have hb := tot_le ((bl s).take i) false
  have hl : ((bl s).take i).length ≤ 80000 := by rw [List.length_take, bl_length]; omega
  have ho : odd ((bl s).take i) = false := by
    unfold odd; rw [List.length_take, bl_length, Nat.min_eq_left (by omega), hi]; rfl
  have ht := tot_two (bl s) i hl1
  rw [ho] at ht
  simp only [tot, Nat.add_zero] at ht
  have b0 := (bl s)[i].toNat_lt
  have b1 := (bl s)[i + 1].toNat_lt
  have w1 : wrap64 ((i : Int) + 1) = ((i + 1 : Nat) : Int) := by unfold wrap64; omega
  have w2 : wrap64 ((i : Int) + 2) = ((i + 2 : Nat) : Int) := by unfold wrap64; omega
  have g0 : bt s (i : Int) = (((bl s)[i].toNat : Nat) : Int) := bt_bl s i h0
  have g1 : bt s ((i + 1 : Nat) : Int) = (((bl s)[i + 1].toNat : Nat) : Int) := bt_bl s (i + 1) h1
  rw [ht]
  generalize (bl s)[i].toNat = x at b0 g0 ⊢
  generalize (bl s)[i + 1].toNat = y at b1 g1 ⊢
  have hz : tot false ((bl s).take i) ≤ 5222400000 := by omega
  generalize tot false ((bl s).take i) = z at hz ⊢
  clear hb hl ho ht hl1 hs
  rw [palanquinref02_Sum.l0, if_pos (by omega), if_pos (by omega), w1, w2, if_pos (by omega), if_pos (by omega), g0, g1]
  rw [sum_numL z x y hz b0 b1]
theorem sum_loopL (s : ByteArray) (hs : s.size ≤ 80000) (he : s.size % 2 = 0) (n : Nat) : ∀ (i k : Nat), i + 2 * n = s.size → n + 4 < k →
    palanquinref02_Sum.l0 k s ((tot false ((bl s).take i) : Nat) : Int) (i : Int) = some ((65535 - fold16 (tot false (bl s)) : Nat) : Int) := by
  induction n with
  | zero =>
    intro i k hi hk
    have e := sum_endL s hs k (by omega)
    rw [List.take_of_length_le (by rw [bl_length]; omega), show i = s.size by omega]
    exact e
  | succ n ih =>
    intro i k hi hk
    obtain ⟨k, rfl⟩ : ∃ j, k = j + 1 := ⟨k - 1, by omega⟩
    rw [sum_stepL s hs i k (by omega) (by omega)]
    exact ih (i + 2) k (by omega) (by omega)
theorem ref_sumL (s : ByteArray) (hs : s.size ≤ 79000) (k : Nat) (hk : s.size + 10 < k) : palanquinref02_Sum.f k s = some ((csum (bl s) : Nat) : Int) := by
  unfold palanquinref02_Sum.f
  obtain ⟨k, rfl⟩ : ∃ j, k = j + 1 := ⟨k - 1, by omega⟩
  by_cases h : (s.size : Int) % 2 = 1
  · have h1 : (⟨#[0]⟩ : ByteArray).size = 1 := rfl
    rw [if_pos h, Option.bind_some, zero_is, if_pos (by rw [h1]; omega), palanquinref02_Sum.j0]
    have e := sum_loopL (s ++ ⟨#[0]⟩) (by rw [ByteArray.size_append, h1]; omega) (by rw [ByteArray.size_append, h1]; omega) ((s.size + 1) / 2) 0 k (by rw [ByteArray.size_append, h1]; omega) (by omega)
    refine Eq.trans e ?_
    rw [bl_append, tot_append]
    unfold csum
    have : ∀ o, tot o (bl (⟨#[0]⟩ : ByteArray)) = 0 := fun o => by cases o <;> rfl
    rw [this]; rfl
  · rw [if_neg h, palanquinref02_Sum.j0]
    exact sum_loopL s (by omega) (by omega) (s.size / 2) 0 k (by omega) (by omega)
theorem bl_inj' {a b : ByteArray} (h : bl a = bl b) : a = b := ByteArray.ext (Array.toList_inj.mp h)
theorem mask8 (x : Int) : Go.bits .and .i64 x 255 = x % 256 := by
  have e : Go.bits .and .i64 x 255 = IntKind.i64.wrap (((x % 18446744073709551616).toNat &&& 255 : Nat) : Int) := by
    show IntKind.i64.wrap (((BitVec.ofInt 64 x &&& BitVec.ofInt 64 255).toNat : Nat) : Int) = _
    rw [BitVec.toNat_and, BitVec.toNat_ofInt, show (BitVec.ofInt 64 255).toNat = 255 from rfl]
    rfl
  rw [e, Nat.and_two_pow_sub_one_eq_mod _ 8, IntKind.wrap_i64]; omega
theorem nums4 (v : Int) : [UInt8.ofNat (v / 16777216 % 256).toNat, UInt8.ofNat (v / 65536 % 256).toNat, UInt8.ofNat (v / 256 % 256).toNat, UInt8.ofNat (v % 256).toNat] = nb 4 (v % 18446744073709551616).toNat := by
  have e : ∀ (m n : Nat), m % 256 = n % 256 → UInt8.ofNat m = UInt8.ofNat n := fun m n h => by apply UInt8.toNat.inj; simp [h]
  simp only [nb, List.nil_append, List.cons_append]
  refine congr (congrArg List.cons (e _ _ (by omega))) (congr (congrArg List.cons (e _ _ (by omega))) (congr (congrArg List.cons (e _ _ (by omega))) (congr (congrArg List.cons (e _ _ (by omega))) rfl)))
theorem nums2 (v : Int) : [UInt8.ofNat (v / 256 % 256).toNat, UInt8.ofNat (v % 256).toNat] = nb 2 (v % 18446744073709551616).toNat := by
  have e : ∀ (m n : Nat), m % 256 = n % 256 → UInt8.ofNat m = UInt8.ofNat n := fun m n h => by apply UInt8.toNat.inj; simp [h]
  simp only [nb, List.nil_append, List.cons_append]
  refine congr (congrArg List.cons (e _ _ (by omega))) (congr (congrArg List.cons (e _ _ (by omega))) rfl)
theorem bytes_any (n : Nat) (hn : n ≤ 8) (v : Int) (k : Nat) (hk : n < k) : ∃ r, palanquinref01_Bytes.f k (IntKind.u64.wrap v) (n : Int) = some r ∧ bl r = nb n (v % 18446744073709551616).toNat := by
  have e : IntKind.u64.wrap v = (((v % 18446744073709551616).toNat : Nat) : Int) := by rw [IntKind.wrap_u64]; omega
  rw [e]
  exact bytes_is n hn _ (by omega) k hk
theorem ref_pseudo (s d : ByteArray) (hs : s.size ≤ 300) (hd : d.size ≤ 300) (a b : Int) (k : Nat) (hk : 4 < k) : ∃ r, sum_Pseudo.f s d a b = some r ∧ palanquinref02_Pseudo.f k s d a b = some r := by
  unfold sum_Pseudo.f palanquinref02_Pseudo.f
  have bl_nums : ∀ xs : List Int, bl (strOfNums xs) = xs.map fun n => UInt8.ofNat n.toNat := fun xs => by simp [bl, strOfNums]
  have sz_nums : ∀ xs : List Int, (strOfNums xs).size = xs.length := fun xs => by rw [← bl_length, bl_nums, List.length_map]
  by_cases h : (s.size : Int) = 16
  · rw [if_pos h, if_pos h, if_pos (by omega), if_pos (by omega), Option.bind_some, if_pos (by rw [sz_nums, ByteArray.size_append]; simp; omega)]
    obtain ⟨r1, e1, b1⟩ := bytes_any 4 (by decide) b k hk
    obtain ⟨r2, e2, b2⟩ := bytes_any 4 (by decide) (a % 256) k hk
    have s1 : r1.size = 4 := by rw [← bl_length, b1, nb_length]
    have s2 : r2.size = 4 := by rw [← bl_length, b2, nb_length]
    refine ⟨_, rfl, ?_⟩
    rw [mask8]
    rw [show (4 : Int) = ((4 : Nat) : Int) from rfl, e1, Option.bind_some, if_pos (by rw [ByteArray.size_append]; omega), e2, Option.bind_some, if_pos (by rw [ByteArray.size_append, ByteArray.size_append]; omega)]
    have key : s ++ d ++ r1 ++ r2 = s ++ d ++ strOfNums [b / 16777216 % 256, b / 65536 % 256, b / 256 % 256, b % 256, 0, 0, 0, a % 256] := by
      apply bl_inj'
      rw [bl_append, bl_append, bl_append (s ++ d), b1, b2, bl_nums, ← nums4 b, ← nums4 (a % 256)]
      simp only [List.map_cons, List.map_nil, List.append_assoc, List.cons_append, List.nil_append]
      congr 5
      have e : ∀ (m n : Nat), m % 256 = n % 256 → UInt8.ofNat m = UInt8.ofNat n := fun m n h => by apply UInt8.toNat.inj; simp [h]
      refine congr (congrArg List.cons (e _ _ (by omega))) (congr (congrArg List.cons (e _ _ (by omega))) (congr (congrArg List.cons (e _ _ (by omega))) (congr (congrArg List.cons (e _ _ (by omega))) rfl)))
    rw [key]
  · rw [if_neg h, if_neg h, if_pos (by omega), if_pos (by omega), Option.bind_some, if_pos (by rw [sz_nums, ByteArray.size_append]; simp; omega)]
    obtain ⟨r1, e1, b1⟩ := bytes_any 2 (by decide) (a % 256) k (by omega)
    obtain ⟨r2, e2, b2⟩ := bytes_any 2 (by decide) b k (by omega)
    have s1 : r1.size = 2 := by rw [← bl_length, b1, nb_length]
    have s2 : r2.size = 2 := by rw [← bl_length, b2, nb_length]
    refine ⟨_, rfl, ?_⟩
    rw [mask8]
    rw [show (2 : Int) = ((2 : Nat) : Int) from rfl, e1, Option.bind_some, if_pos (by rw [ByteArray.size_append]; omega), e2, Option.bind_some, if_pos (by rw [ByteArray.size_append, ByteArray.size_append]; omega)]
    have key : s ++ d ++ r1 ++ r2 = s ++ d ++ strOfNums [0, a % 256, b / 256 % 256, b % 256] := by
      apply bl_inj'
      rw [bl_append, bl_append, bl_append (s ++ d), b1, b2, bl_nums, ← nums2 b, ← nums2 (a % 256)]
      simp only [List.map_cons, List.map_nil, List.append_assoc, List.cons_append, List.nil_append]
      rw [show a % 256 / 256 % 256 = 0 by omega, show a % 256 % 256 = a % 256 by omega]
    rw [key]
end R2
end Go.Proofs.Ytcmalglippmocaa.Pure
end

section
namespace Go.Proofs.Ytcmalglippmocaa.Pure
open Go.RowKit Go.Proofs.YtcmalglippmocaaW.PrintWords Go.Proofs.YtcmalglippmocaaW.PrintLast Go.Proofs.Ytcmalglippmocaa.G Go.Proofs.Ytcmalglippmocaa.Pal
theorem ref_pseudo_is (s d : ByteArray) (hs : s.size ≤ 300) (hd : d.size ≤ 300) (a b : Int) (k : Nat) (hk : 4 < k) : palanquinref02_Pseudo.f k s d a b = some (psB s d a b) := by
  obtain ⟨r, h1, h2⟩ := R2.ref_pseudo s d hs hd a b k hk
  rw [pseudo_some s d hs hd] at h1
  rw [h2, ← Option.some.inj h1]
theorem ref_seal3 {p : Int} {a b s : ByteArray} {q : Nat} (hq : q = 16 ∨ q = 6) (hs : s.size ≤ 78000) (hl : q + 2 ≤ s.size) (ha : a.size ≤ 300) (hb : b.size ≤ 300) (k : Nat) (hk : s.size + 700 < k) :
    palanquinref09_Seal.j3 (k + 1) p a b s (q : Int) = some (putAt s q (sealC p (sumAt (psB a b p s.size) s q))) := by
  have hz := psB_size a b p s.size
  have hz2 := (psT_size (a.size == 16) p s.size).2
  have hT : ((q : Int)).toNat = q := Int.toNat_natCast q
  have hW : wrap64 ((q : Int) + 2) = ((q + 2 : Nat) : Int) := by unfold wrap64; omega
  have hT2 : (((q + 2 : Nat) : Int)).toNat = q + 2 := Int.toNat_natCast _
  have e1 : (s.extract 0 q).size = q := by rw [ByteArray.size_extract]; omega
  have e2 : (s.extract (q + 2) s.size).size = s.size - (q + 2) := by rw [ByteArray.size_extract]; omega
  have e3 : (⟨#[0, 0]⟩ : ByteArray).size = 2 := rfl
  have hB : ∀ n : Nat, n ≤ 65535 → ∃ r, palanquinref01_Bytes.f k (IntKind.u64.wrap (n : Int)) 2 = some r ∧ r.size = 2 ∧ s.extract 0 q ++ r ++ s.extract (q + 2) s.size = putAt s q n := fun n hn => by
    obtain ⟨r, h1, h2⟩ := bytes_is 2 (by decide) n (by omega) k (by omega)
    refine ⟨r, ?_, by rw [← bl_length, h2, nb_length], ?_⟩
    · rw [show IntKind.u64.wrap (n : Int) = (n : Int) by rw [IntKind.wrap_u64]; omega]; exact h1
    · apply bl_inj
      rw [bl_append, bl_append, h2, bl_putAt, ext_front, ext_back]
  have hJ : bl (psB a b p s.size ++ s.extract 0 q ++ ⟨#[0, 0]⟩ ++ s.extract (q + 2) s.size) = bl (psB a b p s.size) ++ bl (putAt s q 0) := by
    rw [bl_append, bl_append, bl_append, bl_putAt, ext_front, ext_back, show bl (⟨#[0, 0]⟩ : ByteArray) = nb 2 0 from rfl]
    simp only [List.append_assoc]
  rw [palanquinref09_Seal.j3, if_neg (by omega), ref_pseudo_is a b ha hb p s.size k (by omega), Option.bind_some]
  simp only [hT, hW, hT2]
  rw [if_pos (by omega), if_pos (by omega), if_pos (by omega), if_pos (by rw [ByteArray.size_append]; omega), if_pos (by omega), if_pos (by omega), if_pos (by simp only [ByteArray.size_append]; omega),
    R2.ref_sumL _ (by simp only [ByteArray.size_append]; omega) k (by simp only [ByteArray.size_append]; omega), Option.bind_some, hJ]
  have hc := csum_bound (bl (psB a b p s.size) ++ bl (putAt s q 0))
  unfold sumAt
  generalize csum (bl (psB a b p s.size) ++ bl (putAt s q 0)) = c at hc ⊢
  have fin : ∀ n : Nat, n ≤ 65535 → ((palanquinref01_Bytes.f k (IntKind.u64.wrap (n : Int)) 2).bind fun t280 => (if (s.extract 0 q).size + t280.size ≤ 9223372036854775807 then (if ((s.extract 0 q) ++ t280).size + (s.extract (q + 2) s.size).size ≤ 9223372036854775807 then (some (((s.extract 0 q) ++ t280) ++ (s.extract (q + 2) s.size))) else (none)) else (none))) = some (putAt s q n) := fun n hn => by
    obtain ⟨r, h1, h2, h3⟩ := hB n hn
    rw [h1, Option.bind_some, if_pos (by omega), if_pos (by rw [ByteArray.size_append]; omega), h3]
  unfold sealC
  by_cases h0 : c = 0
  · subst h0
    rw [if_pos (by rfl)]
    by_cases h17 : p = 17
    · rw [if_pos h17, if_pos ⟨rfl, h17⟩]
      have := fin 65535 (by decide)
      rw [show IntKind.u64.wrap ((65535 : Nat) : Int) = 65535 by decide +kernel] at this
      exact this
    · rw [if_neg h17, if_neg (fun h => h17 h.2)]
      exact fin 0 (by decide)
  · rw [if_neg (by omega), if_neg (fun h => h0 h.1)]
    exact fin c hc
theorem ref_seal (p : Int) (a b s : ByteArray) (hs : s.size ≤ 78000) (ha : a.size ≤ 300) (hb : b.size ≤ 300) (k : Nat) (hk : s.size + 710 < k) : palanquinref09_Seal.f k p a b s = flow_Seal.f p a b s := by
  obtain ⟨k, rfl⟩ : ∃ j, k = j + 4 := ⟨k - 4, by omega⟩
  have no : sealAt p s.size = 0 → ∀ k, palanquinref09_Seal.j3 (k + 1) p a b s (-1) = flow_Seal.f p a b s := fun h k => by
    rw [palanquinref09_Seal.j3, if_pos (by decide), seal_none h (by omega)]
  unfold palanquinref09_Seal.f
  rcases sealAt_cases p s.size with h | ⟨h, rfl, hn⟩ | ⟨h, rfl, hn⟩
  · have h1 : ¬ (p = 6 ∧ 20 ≤ s.size) := fun h' => by unfold sealAt at h; rw [if_pos h'] at h; omega
    have h2 : ¬ (p = 17 ∧ 8 ≤ s.size) := fun h' => by unfold sealAt at h; rw [if_neg h1, if_pos h'] at h; omega
    have e2 : ∀ j, palanquinref09_Seal.j1 (j + 3) p a b s (-1) = flow_Seal.f p a b s := fun j => by
      rw [palanquinref09_Seal.j1]
      split
      · rename_i hp
        rw [decide_eq_false (fun h' => h2 ⟨hp, by omega⟩), palanquinref09_Seal.j2, if_neg (by decide)]; exact no h j
      · rw [palanquinref09_Seal.j2, if_neg (by decide)]; exact no h j
    split
    · rename_i hp
      rw [decide_eq_false (fun h' => h1 ⟨hp, by omega⟩), palanquinref09_Seal.j0, if_neg (by decide)]; exact e2 k
    · rw [palanquinref09_Seal.j0, if_neg (by decide)]; exact e2 k
  · rw [if_pos rfl, decide_eq_true (show (s.size : Int) ≥ 20 by omega), palanquinref09_Seal.j0, if_pos rfl, palanquinref09_Seal.j1, if_neg (by decide), palanquinref09_Seal.j2, if_neg (by decide), seal_some h (by decide) (by omega) ha hb]
    exact ref_seal3 (q := 16) (.inl rfl) hs (by omega) ha hb k (by omega)
  · rw [if_neg (by decide), palanquinref09_Seal.j0, if_neg (by decide), palanquinref09_Seal.j1, if_pos rfl, decide_eq_true (show (s.size : Int) ≥ 8 by omega), palanquinref09_Seal.j2, if_pos rfl, seal_some h (by decide) (by omega) ha hb]
    exact ref_seal3 (q := 6) (.inr rfl) hs (by omega) ha hb k (by omega)
end Go.Proofs.Ytcmalglippmocaa.Pure
end

section
namespace Go.Proofs.Ytcmalglippmocaa.Pure
open Go.RowKit Go.Proofs.YtcmalglippmocaaW.PrintWords Go.Proofs.YtcmalglippmocaaW.PrintLast Go.Proofs.Ytcmalglippmocaa.G Go.Proofs.Ytcmalglippmocaa.Pal
theorem bt4_one (s : ByteArray) (i : Nat) (h : i < s.size) : bt s (i : Int) = ((be (bl (s.extract i (i + 1))) : Nat) : Int) := by
  have e : ((bl s).take (i + 1)).drop i = [(bl s)[i]'(by rw [bl_length]; exact h)] := by
    rw [List.drop_take, show i + 1 - i = 1 by omega, List.drop_eq_getElem_cons (by rw [bl_length]; exact h)]; rfl
  rw [bt_bl s i h, cut4, e]
  simp [be]
theorem r4a (B : Nat) (h : B < 256) : Int.tdiv (B : Int) 16 % 256 = ((B / 16 : Nat) : Int) := by rw [Int.tdiv_eq_ediv_of_nonneg (by omega)]; omega
theorem r4b (B : Nat) (h : B < 256) : wrap64 (wrap64 (Int.tmod (B : Int) 16) * 4) = ((4 * (B % 16) : Nat) : Int) := by
  have e : wrap64 (Int.tmod (B : Int) 16) = ((B % 16 : Nat) : Int) := by rw [Int.tmod_eq_emod_of_nonneg (by omega)]; unfold wrap64; omega
  rw [e]
  have : B % 16 < 16 := Nat.mod_lt _ (by decide)
  generalize B % 16 = m at this ⊢
  unfold wrap64; omega
theorem r4c (F : Nat) (h : F < 32768) : Int.tmod (F : Int) 8192 = ((F % 8192 : Nat) : Int) := by rw [Int.tmod_eq_emod_of_nonneg (by omega)]; omega
theorem r4d (F : Nat) (h : F < 32768) : (wrap64 (Int.tdiv (F : Int) 16384) == 1) = (F / 16384 % 2 == 1) := by
  have e : wrap64 (Int.tdiv (F : Int) 16384) = ((F / 16384 : Nat) : Int) := by rw [Int.tdiv_eq_ediv_of_nonneg (by omega)]; unfold wrap64; omega
  rw [e, Bool.eq_iff_iff, beq_iff_eq, beq_iff_eq]; omega
theorem r4e (F : Nat) (h : F < 32768) : (Int.tmod (wrap64 (Int.tdiv (F : Int) 8192)) 2 == 1) = (F / 8192 % 2 == 1) := by
  have e : wrap64 (Int.tdiv (F : Int) 8192) = ((F / 8192 : Nat) : Int) := by rw [Int.tdiv_eq_ediv_of_nonneg (by omega)]; unfold wrap64; omega
  rw [e, Int.tmod_eq_emod_of_nonneg (by omega), Bool.eq_iff_iff, beq_iff_eq, beq_iff_eq]; omega
theorem w4_small (x : Nat) (h : x < 65536) : wrap64 (x : Int) = (x : Int) := by unfold wrap64; omega
theorem at4 (s : ByteArray) (i : Nat) (hi : i ≤ 100) (h : i + 2 ≤ s.size) (k : Nat) (hk : 2 < k) : palanquinref05_at.f k s (i : Int) 2 = some ((be (bl (s.extract i (i + 2))) : Nat) : Int) := by
  unfold palanquinref05_at.f
  have hw : wrap64 ((i : Int) + 2) = ((i + 2 : Nat) : Int) := by unfold wrap64; omega
  have hz : (s.extract i (i + 2)).size = 2 := by simp only [ByteArray.size_extract]; omega
  have hb : be (bl (s.extract i (i + 2))) < 65536 := be_lt_of _ 2 (by rw [bl_length, hz]; exact Nat.le_refl _)
  rw [hw, if_pos (by omega), if_pos (by omega), if_pos (by omega), Int.toNat_natCast, Int.toNat_natCast, value_is _ (by rw [hz]; decide) k (by rw [hz]; exact hk), Option.bind_some, w4_small _ hb]
theorem ref_get4 (s : ByteArray) (hs : s.size ≤ 140737488351232) (k : Nat) (hk : 6000 < k) : palanquinref05_Get.f (k + 1) s = ip4_Get.f s := by
  unfold palanquinref05_Get.f ip4_Get.f
  rw [if_pos hs]
  by_cases h20 : s.size < 20
  · have he : ip4Err s = 2 := if_pos h20
    rw [if_pos (by omega), he, if_neg (by decide)]
  have z : ∀ i j, (bl (s.extract i j)).length = min j s.size - i := fun i j => by rw [bl_length]; simp only [ByteArray.size_extract]
  have b0 : be (bl (s.extract 0 1)) < 256 := be_lt_of _ 1 (by rw [z]; omega)
  have b1 : be (bl (s.extract 1 2)) < 256 := be_lt_of _ 1 (by rw [z]; omega)
  have b8 : be (bl (s.extract 8 9)) < 256 := be_lt_of _ 1 (by rw [z]; omega)
  have b9 : be (bl (s.extract 9 10)) < 256 := be_lt_of _ 1 (by rw [z]; omega)
  have e0 : bt s 0 = ((be (bl (s.extract 0 1)) : Nat) : Int) := bt4_one s 0 (by omega)
  have e1 : bt s 1 = ((be (bl (s.extract 1 2)) : Nat) : Int) := bt4_one s 1 (by omega)
  have e8 : bt s 8 = ((be (bl (s.extract 8 9)) : Nat) : Int) := bt4_one s 8 (by omega)
  have e9 : bt s 9 = ((be (bl (s.extract 9 10)) : Nat) : Int) := bt4_one s 9 (by omega)
  rw [if_neg (by omega), if_pos (by omega), e0, r4a _ b0, r4b _ b0]
  by_cases hv : be (bl (s.extract 0 1)) / 16 = 4
  case neg =>
    have he : ip4Err s = 3 := by unfold ip4Err; rw [if_neg h20, if_neg hv]
    rw [if_neg (by omega), he, if_neg (by decide)]
  rw [if_pos (by omega), show 4 * (be (bl (s.extract 0 1)) % 16) = hl4 s from rfl]
  have hmax : hl4 s ≤ 60 := by unfold hl4; omega
  have bad : ip4Err s = 4 → palanquinref05_Get.j0 (k + 1) s ((hl4 s : Nat) : Int) true 0 0 0 0 0 false false (⟨#[]⟩ : ByteArray) (⟨#[]⟩ : ByteArray) (⟨#[]⟩ : ByteArray) = some (if ip4Err s = 0 then (((be (bl (s.extract 1 2)) : Nat) : Int), ((be (bl (s.extract 4 6)) : Nat) : Int), ((be (bl (s.extract 6 8)) % 8192 : Nat) : Int), ((be (bl (s.extract 8 9)) : Nat) : Int), ((be (bl (s.extract 9 10)) : Nat) : Int), (be (bl (s.extract 6 8)) / 16384 % 2 == 1), (be (bl (s.extract 6 8)) / 8192 % 2 == 1), s.extract 12 16, s.extract 16 20, s.extract 20 (hl4 s), s.extract (hl4 s) s.size, 0) else (0, 0, 0, 0, 0, false, false, ⟨#[]⟩, ⟨#[]⟩, ⟨#[]⟩, ⟨#[]⟩, ip4Err s)) := fun he => by
    rw [palanquinref05_Get.j0, if_pos rfl, he, if_neg (by decide)]
  by_cases hl : 20 ≤ hl4 s
  case neg => rw [if_pos (by omega)]; exact bad (by unfold ip4Err; rw [if_neg h20, if_pos hv, if_neg (fun h => hl h.1)])
  rw [if_neg (by omega)]
  by_cases hm : hl4 s ≤ s.size
  case neg => rw [if_pos (by omega)]; exact bad (by unfold ip4Err; rw [if_neg h20, if_pos hv, if_neg (fun h => hm h.2.1)])
  have a2 := at4 s 2 (by decide) (by omega) (k + 1) (by omega)
  rw [show ((2 : Nat) : Int) = 2 from rfl] at a2
  rw [if_neg (by omega), a2, Option.bind_some]
  by_cases hT : be (bl (s.extract 2 4)) = s.size
  case neg =>
    have hT' : ((((be (bl (s.extract 2 (2 + 2))) : Nat) : Int)) != (s.size : Int)) = true := bne_iff_ne.mpr (fun h => hT (by exact_mod_cast h))
    rw [hT']; exact bad (by unfold ip4Err; rw [if_neg h20, if_pos hv, if_neg (fun h => hT h.2.2)])
  have hT' : ((((be (bl (s.extract 2 (2 + 2))) : Nat) : Int)) != (s.size : Int)) = false := bne_eq_false_iff_eq.mpr (by exact_mod_cast hT)
  rw [hT', palanquinref05_Get.j0, if_neg (by decide), if_pos (by omega), if_pos (by omega), Int.toNat_natCast, R2.ref_sum _ (by simp only [ByteArray.size_extract]; omega) k (by omega), Option.bind_some]
  by_cases hc : csum (bl (s.extract 0 (hl4 s))) = 0
  case neg =>
    have he : ip4Err s = 5 := by unfold ip4Err; rw [if_neg h20, if_pos hv, if_pos ⟨hl, hm, hT⟩, if_neg hc]
    rw [if_neg (by omega), he, if_neg (by decide)]
  have a6 := at4 s 6 (by decide) (by omega) k (by omega)
  have a4 := at4 s 4 (by decide) (by omega) k (by omega)
  rw [show ((6 : Nat) : Int) = 6 from rfl, show 6 + 2 = 8 from rfl] at a6
  rw [show ((4 : Nat) : Int) = 4 from rfl, show 4 + 2 = 6 from rfl] at a4
  rw [if_pos (by omega), a6, Option.bind_some]
  by_cases hf : be (bl (s.extract 6 8)) / 32768 = 0
  case neg =>
    have he : ip4Err s = 9 := by unfold ip4Err; rw [if_neg h20, if_pos hv, if_pos ⟨hl, hm, hT⟩, if_pos hc, if_neg hf]
    rw [if_pos (by omega), he, if_neg (by decide)]
  have he : ip4Err s = 0 := by unfold ip4Err; rw [if_neg h20, if_pos hv, if_pos ⟨hl, hm, hT⟩, if_pos hc, if_pos hf]
  have hF : be (bl (s.extract 6 8)) < 32768 := by omega
  rw [if_neg (by omega), if_pos (by omega), a4, Option.bind_some, if_pos (by omega), if_pos (by omega), if_pos (by decide), if_pos (by omega), if_pos (by decide), if_pos (by omega), if_pos (by omega), he, if_pos rfl, e1, e8, e9, w4_small _ (by omega), w4_small _ (by omega), w4_small _ (by omega), r4c _ hF, r4d _ hF, r4e _ hF]
end Go.Proofs.Ytcmalglippmocaa.Pure
end

section
namespace Go.Proofs.Ytcmalglippmocaa.Pure
namespace R6
open Go.RowKit Go.Proofs.YtcmalglippmocaaW.PrintWords Go.Proofs.YtcmalglippmocaaW.PrintLast Go.Proofs.Ytcmalglippmocaa.G Go.Proofs.Ytcmalglippmocaa.Pal
theorem bt_one (s : ByteArray) (i : Nat) (h : i < s.size) : bt s (i : Int) = ((be (bl (s.extract i (i + 1))) : Nat) : Int) := by
  have e : ((bl s).take (i + 1)).drop i = [(bl s)[i]'(by rw [bl_length]; exact h)] := by
    rw [List.drop_take, show i + 1 - i = 1 by omega, List.drop_eq_getElem_cons (by rw [bl_length]; exact h)]; rfl
  rw [bt_bl s i h, bl_extract, e]
  simp [be]
theorem get6_is {s : ByteArray} (hs : s.size ≤ 140737488351232) : ip6_Get.f s = some (if ip6Err s = 0 then (((be (bl (s.extract 0 4)) : Nat) : Int) / 1048576 % 256, ((be (bl (s.extract 0 4)) : Nat) : Int) % 1048576, ((be (bl (s.extract 6 7)) : Nat) : Int), ((be (bl (s.extract 7 8)) : Nat) : Int), s.extract 8 24, s.extract 24 40, s.extract 40 s.size, 0) else (0, 0, 0, 0, empty, empty, empty, ip6Err s)) := by
  unfold ip6_Get.f
  rw [if_pos hs, low8, low20]
theorem ref_get6 (s : ByteArray) (hs : s.size ≤ 140737488351232) (k : Nat) (hk : 4 < k) : palanquinref06_Get.f k s = ip6_Get.f s := by
  unfold palanquinref06_Get.f
  rw [get6_is hs]
  by_cases h40 : s.size < 40
  · have he : ip6Err s = 2 := if_pos h40
    rw [if_pos (by omega), he, if_neg (by decide)]; rfl
  have hsz : ∀ i j, j ≤ 40 → (s.extract i j).size = j - i := fun i j hj => by simp only [ByteArray.size_extract]; omega
  have b4 : be (bl (s.extract 0 4)) < 4294967296 := be_lt_of _ 4 (by rw [bl_length, hsz 0 4 (by decide)]; decide)
  have b2 : be (bl (s.extract 4 6)) < 65536 := be_lt_of _ 2 (by rw [bl_length, hsz 4 6 (by decide)]; decide)
  have b6 : be (bl (s.extract 6 7)) < 256 := be_lt_of _ 1 (by rw [bl_length, hsz 6 7 (by decide)]; decide)
  have b7 : be (bl (s.extract 7 8)) < 256 := be_lt_of _ 1 (by rw [bl_length, hsz 7 8 (by decide)]; decide)
  have wd : ∀ x : Nat, x ≤ 4294967295 → wrap64 (x : Int) = (x : Int) := fun x hx => by unfold wrap64; omega
  rw [if_neg (by omega), if_pos (by decide), if_pos (by omega), value_is _ (by rw [hsz 0 4 (by decide)]; decide) k (by rw [hsz 0 4 (by decide)]; exact hk), Option.bind_some, wd _ (by omega)]
  have q : wrap64 (Int.tdiv (wrap64 (Int.tdiv ((be (bl (s.extract 0 4)) : Nat) : Int) 1048576)) 256) = ((be (bl (s.extract 0 4)) / 268435456 : Nat) : Int) := by
    have t1 : Int.tdiv ((be (bl (s.extract 0 4)) : Nat) : Int) 1048576 = ((be (bl (s.extract 0 4)) / 1048576 : Nat) : Int) := by rw [Int.tdiv_eq_ediv_of_nonneg (by omega)]; omega
    have t2 : Int.tdiv ((be (bl (s.extract 0 4)) / 1048576 : Nat) : Int) 256 = ((be (bl (s.extract 0 4)) / 268435456 : Nat) : Int) := by rw [Int.tdiv_eq_ediv_of_nonneg (by omega)]; omega
    rw [t1, wd _ (by omega), t2, wd _ (by omega)]
  rw [q]
  by_cases hv : be (bl (s.extract 0 4)) / 268435456 = 6
  case neg =>
    have he : ip6Err s = 3 := by unfold ip6Err; rw [if_neg h40, if_neg hv]
    rw [if_neg (by omega), he, if_neg (by decide)]; rfl
  rw [if_pos (by omega), if_pos (by decide), if_pos (by omega), value_is _ (by rw [hsz 4 6 (by decide)]; decide) k (by rw [hsz 4 6 (by decide)]; omega), Option.bind_some, wd _ (by omega)]
  rw [show wrap64 (((be (bl (s.extract 4 6)) : Nat) : Int) + 40) = ((be (bl (s.extract 4 6)) : Nat) : Int) + 40 by unfold wrap64; omega]
  by_cases hl : ((be (bl (s.extract 4 6)) : Nat) : Int) = (s.size : Int) - 40
  case neg =>
    have he : ip6Err s = 4 := by unfold ip6Err; rw [if_neg h40, if_pos hv, if_neg hl]
    rw [if_neg (by omega), he, if_neg (by decide)]; rfl
  have he : ip6Err s = 0 := by unfold ip6Err; rw [if_neg h40, if_pos hv, if_pos hl]
  rw [if_pos (by omega), if_pos (by omega), if_pos (by omega), if_pos (by decide), if_pos (by omega), if_pos (by decide), if_pos (by omega), he, if_pos rfl]
  rw [show (6 : Int) = ((6 : Nat) : Int) from rfl, show (7 : Int) = ((7 : Nat) : Int) from rfl, bt_one s 6 (by omega), bt_one s 7 (by omega), wd (be (bl (s.extract 6 (6 + 1)))) (by have := b6; exact Nat.le_of_lt (Nat.lt_trans b6 (by decide))), wd (be (bl (s.extract 7 (7 + 1)))) (Nat.le_of_lt (Nat.lt_trans b7 (by decide))), Int.tdiv_eq_ediv_of_nonneg (by omega),
    show wrap64 (((be (bl (s.extract 0 4)) : Nat) : Int) / 1048576) = ((be (bl (s.extract 0 4)) : Nat) : Int) / 1048576 by unfold wrap64; omega, Int.tmod_eq_emod_of_nonneg (by omega), Int.tmod_eq_emod_of_nonneg (by omega)]
end R6
end Go.Proofs.Ytcmalglippmocaa.Pure
end

section
namespace Go.Proofs.Ytcmalglippmocaa.Pure
namespace R8
open Go.RowKit Go.Proofs.YtcmalglippmocaaW.PrintWords Go.Proofs.YtcmalglippmocaaW.PrintLast Go.Proofs.Ytcmalglippmocaa.G Go.Proofs.Ytcmalglippmocaa.Pal
theorem ref_get (s : ByteArray) (hs : s.size ≤ 140737488351232) (k : Nat) (hk : 2 < k) : palanquinref08_Get.f k s = udp_Get.f s := by
  unfold palanquinref08_Get.f
  rw [get_is hs]
  by_cases h8 : (s.size : Int) < 8
  · rw [if_pos h8]
    have he : udpErr s = 2 := by unfold udpErr; rw [if_pos (by omega)]
    rw [if_neg (by omega), he]; rfl
  · rw [if_neg h8, if_pos (by decide), if_pos (by omega)]
    have two : ∀ i, i + 2 ≤ s.size → palanquinref01_Value.f k (s.extract i (i + 2)) = some ((be (bl (s.extract i (i + 2))) : Nat) : Int) ∧ wrap64 ((be (bl (s.extract i (i + 2))) : Nat) : Int) = ((be (bl (s.extract i (i + 2))) : Nat) : Int) := fun i hi => by
      have hsz : (s.extract i (i + 2)).size = 2 := by simp only [ByteArray.size_extract]; omega
      have hlt := be_lt_of (bl (s.extract i (i + 2))) 2 (by rw [bl_length]; omega)
      exact ⟨value_is _ (by omega) k (by omega), by unfold wrap64; omega⟩
    rw [(two 4 (by omega)).1, Option.bind_some, (two 4 (by omega)).2]
    by_cases he : be (bl (s.extract 4 6)) = s.size
    · rw [if_pos (show ((be (bl (s.extract 4 (4 + 2))) : Nat) : Int) = (s.size : Int) by rw [show be (bl (s.extract 4 (4 + 2))) = s.size from he]), if_pos (by decide), if_pos (by omega), (two 0 (by omega)).1, Option.bind_some, (two 0 (by omega)).2, if_pos (by decide), if_pos (by omega), (two 2 (by omega)).1, Option.bind_some, (two 2 (by omega)).2,
        if_pos (by omega), if_pos (by decide), (two 6 (by omega)).1, Option.bind_some, (two 6 (by omega)).2]
      have h0 : udpErr s = 0 := by unfold udpErr; rw [if_neg (by omega), if_pos he]
      rw [if_pos h0]
    · rw [if_neg (show ¬ ((be (bl (s.extract 4 (4 + 2))) : Nat) : Int) = (s.size : Int) from fun h => he (by exact_mod_cast h))]
      have h0 : udpErr s = 4 := by unfold udpErr; rw [if_neg (by omega), if_neg he]
      rw [if_neg (by omega), h0]; rfl
end R8
end Go.Proofs.Ytcmalglippmocaa.Pure
end

section
namespace Go.Proofs.Ytcmalglippmocaa.Pure
open Go.RowKit Go.Proofs.YtcmalglippmocaaW.PrintWords Go.Proofs.YtcmalglippmocaaW.PrintLast Go.Proofs.Ytcmalglippmocaa.G Go.Proofs.Ytcmalglippmocaa.Pal
open FG F2
namespace R9
theorem listNil (s : ByteArray) : s.toList = ([] : List UInt8) ↔ s.size = 0 := by
  constructor
  · intro h
    by_cases h0 : s.size = 0
    · exact h0
    · have := isEmpty_not h0; rw [h] at this; exact absurd this (by decide)
  · intro h
    have := isEmpty_of h
    exact List.isEmpty_iff.1 this
theorem nib (s : ByteArray) (h : 0 < s.size) : (Int.tdiv (bt s 0) 16) % 256 = bt s 0 / 16 := by
  have h1 := bt_one s 0 h
  have h2 := be_lt_of (bl (s.extract 0 (0 + 1))) 1 (by rw [bl_length, ByteArray.size_extract]; omega)
  rw [show (0 : Int) = ((0 : Nat) : Int) from rfl, h1]
  generalize be (bl (s.extract 0 (0 + 1))) = y at h2 ⊢
  rw [Int.tdiv_eq_ediv_of_nonneg (by omega)]
  omega
theorem ref_j0 {proto p1 p2 p3 : Int} {src dst pay : ByteArray} (x7 : Bool) (hx : x7 = decide (proto = 17 ∧ p3 = 0)) (hp : proto = 6 ∨ proto = 17) (hports : flow_ports.f proto pay = some (p1, p2, p3, 0)) (hs : src.size ≤ 300) (hd : dst.size ≤ 300) (hz : pay.size ≤ 70000) (k : Nat) (hk : 79000 < k) :
    palanquinref09_Get.j0 (k + 1) pay x7 proto src dst p1 p2 = flow_fin proto src dst pay false (decide (src.size = 4)) := by
  have hz1 := psB_size src dst proto pay.size
  have hz2 := (psT_size (src.size == 16) proto pay.size).2
  rw [palanquinref09_Get.j0, ref_pseudo_is src dst hs hd proto pay.size k (by omega), Option.bind_some, if_pos (by omega), R2.ref_sumL _ (by rw [ByteArray.size_append]; omega) k (by rw [ByteArray.size_append]; omega), Option.bind_some, fin_some _ hp hports hs hd (by omega), bl_append]
  unfold okR
  subst hx
  by_cases h17 : proto = 17 ∧ p3 = 0
  · rw [decide_eq_true h17, if_pos rfl, if_pos h17]
    by_cases h4 : src.size = 4
    · rw [if_pos (by omega), if_pos (decide_eq_true h4)]
    · rw [if_neg (by omega), if_neg (by simpa using h4)]; rfl
  · rw [decide_eq_false h17, if_neg (by decide), if_neg h17]
    by_cases hc : csum (bl (psB src dst proto (pay.size : Int)) ++ bl pay) = 0
    · rw [if_pos (by omega), if_pos (decide_eq_true hc)]
    · rw [if_neg (by omega), if_neg (by simpa using hc)]; rfl
theorem ref_tail {proto : Int} {src dst pay : ByteArray} (hs : src.size ≤ 300) (hd : dst.size ≤ 300) (hz : pay.size ≤ 70000) (k : Nat) (hk : 79000 < k) :
    (if proto = 6 then ((palanquinref07_Get.f pay).bind fun bt238 => (if bt238.2.2.2.2.2.2.2.2.2.2 = 0 then (palanquinref09_Get.j0 (k + 1) pay false proto src dst bt238.1 bt238.2.1) else (some (0, (⟨#[]⟩ : ByteArray), (⟨#[]⟩ : ByteArray), 0, 0, bt238.2.2.2.2.2.2.2.2.2.2)))) else (if proto = 17 then ((palanquinref08_Get.f (k + 1) pay).bind fun bt250 => (if bt250.2.2.2.2 = 0 then (palanquinref09_Get.j0 (k + 1) pay (bt250.2.2.2.1 == 0) proto src dst bt250.1 bt250.2.1) else (some (0, (⟨#[]⟩ : ByteArray), (⟨#[]⟩ : ByteArray), 0, 0, bt250.2.2.2.2)))) else (some (0, (⟨#[]⟩ : ByteArray), (⟨#[]⟩ : ByteArray), 0, 0, 6))))
      = flow_fin proto src dst pay false (decide (src.size = 4)) := by
  by_cases h6 : proto = 6
  · subst h6
    rw [if_pos rfl]
    unfold palanquinref07_Get.f
    rw [if_pos (by omega)]
    obtain ⟨⟨d1, d2, d3, d4, d5, d6, d7, d8, d9, d10, d11⟩, hd'⟩ : ∃ d, tcp_Get.f pay = some d := ⟨_, getT_is (by omega)⟩
    have hports : flow_ports.f 6 pay = some (d1, d2, d10, d11) := by unfold flow_ports.f; rw [if_pos rfl, hd', Option.bind_some]
    rw [hd', Option.bind_some]
    dsimp +instances only
    by_cases h0 : d11 = 0
    · subst h0
      rw [if_pos rfl]
      exact ref_j0 false (by simp) (.inl rfl) hports hs hd hz k hk
    · rw [if_neg h0, fin_err _ (.inl rfl) hports h0]; rfl
  · rw [if_neg h6]
    by_cases h17 : proto = 17
    · subst h17
      rw [if_pos rfl, R8.ref_get pay (by omega) (k + 1) (by omega)]
      obtain ⟨⟨d1, d2, d3, d4, d5⟩, hd'⟩ : ∃ d, udp_Get.f pay = some d := ⟨_, get_is (by omega)⟩
      have hports : flow_ports.f 17 pay = some (d1, d2, d4, d5) := by unfold flow_ports.f; rw [if_neg (by decide), hd', Option.bind_some]
      rw [hd', Option.bind_some]
      dsimp +instances only
      by_cases h0 : d5 = 0
      · subst h0
        rw [if_pos rfl]
        refine ref_j0 _ ?_ (.inr rfl) hports hs hd hz k hk
        by_cases h4 : d4 = 0
        · rw [h4]; simp
        · rw [decide_eq_false (fun h => h4 h.2)]; exact beq_eq_false_iff_ne.mpr h4
      · rw [if_neg h0, fin_err _ (.inr rfl) hports h0]; rfl
    · rw [if_neg h17, fin_other _ ⟨h6, h17⟩]; rfl
theorem ref_flow (s : ByteArray) (hs : s.size ≤ 70000) (k : Nat) (hk : 79010 < k) : palanquinref09_Get.f k s = flow_Get.f s := by
  obtain ⟨k, rfl⟩ : ∃ j, k = j + 1 := ⟨k - 1, by omega⟩
  unfold palanquinref09_Get.f palanquinref09_open.f flow_Get.f
  by_cases h0 : s.size = 0
  · rw [if_pos ((listNil s).2 h0), if_pos h0, Option.bind_some]
    rfl
  rw [if_neg (fun h => h0 ((listNil s).1 h)), if_neg h0, if_pos (by omega), nib s (by omega)]
  by_cases h4 : bt s 0 / 16 = 4
  · rw [if_pos h4, if_pos h4, ref_get4 s (by omega) k (by omega)]
    unfold ip4_Get.f
    rw [if_pos (by omega)]
    by_cases he : ip4Err s = 0
    · have hE := (err4_zero he).1
      have z1 : (s.extract 12 16).size = 4 := by rw [ByteArray.size_extract]; omega
      have z2 : (s.extract 16 20).size = 4 := by rw [ByteArray.size_extract]; omega
      have z3 : (s.extract (hl4 s) s.size).size ≤ 70000 := by rw [ByteArray.size_extract]; omega
      rw [if_pos he, Option.bind_some, Option.bind_some]
      dsimp +instances only
      rw [if_pos rfl, if_neg (show ¬ ((0 : Int) ≠ 0) from fun h => h rfl)]
      generalize be (bl (s.extract 6 8)) % 8192 = off
      generalize (be (bl (s.extract 6 8)) / 8192 % 2 == 1) = mf
      by_cases ho : off = 0
      · subst ho
        rw [if_neg (by decide)]
        cases mf with
        | true => rw [if_pos rfl, Option.bind_some, show ((((0 : Nat) : Int) != 0) || true) = true from rfl, fin_piece]; rfl
        | false =>
          rw [if_neg (by decide), Option.bind_some, show ((((0 : Nat) : Int) != 0) || false) = false from rfl]
          dsimp +instances only
          rw [if_pos rfl]
          have := ref_tail (proto := ((be (bl (s.extract 9 10)) : Nat) : Int)) (src := s.extract 12 16) (dst := s.extract 16 20) (pay := s.extract (hl4 s) s.size) (by omega) (by omega) z3 k (by omega)
          rw [decide_eq_true z1] at this
          exact this
      · rw [if_pos (by omega), Option.bind_some, show (((off : Nat) : Int) != 0) = true from bne_iff_ne.mpr (by omega), Bool.true_or, fin_piece]; rfl
    · rw [if_neg he, Option.bind_some, Option.bind_some]
      dsimp +instances only
      rw [if_neg he, if_pos he, Option.bind_some]
      dsimp +instances only
      rw [if_neg he]; rfl
  rw [if_neg h4, if_neg h4]
  by_cases h6 : bt s 0 / 16 = 6
  · rw [if_pos h6, if_pos h6, R6.ref_get6 s (by omega) (k + 1) (by omega)]
    unfold ip6_Get.f
    rw [if_pos (by omega)]
    by_cases he : ip6Err s = 0
    · have hE : 40 ≤ s.size := by
        unfold ip6Err at he
        split at he
        · exact absurd he (by decide)
        · omega
      have z1 : (s.extract 8 24).size = 16 := by rw [ByteArray.size_extract]; omega
      have z2 : (s.extract 24 40).size = 16 := by rw [ByteArray.size_extract]; omega
      have z3 : (s.extract 40 s.size).size ≤ 70000 := by rw [ByteArray.size_extract]; omega
      rw [if_pos he, Option.bind_some, Option.bind_some]
      dsimp +instances only
      rw [if_pos rfl, if_neg (show ¬ ((0 : Int) ≠ 0) from fun h => h rfl), Option.bind_some]
      dsimp +instances only
      rw [if_pos rfl]
      have := ref_tail (proto := ((be (bl (s.extract 6 7)) : Nat) : Int)) (src := s.extract 8 24) (dst := s.extract 24 40) (pay := s.extract 40 s.size) (by omega) (by omega) z3 k (by omega)
      rw [decide_eq_false (by omega)] at this
      exact this
    · rw [if_neg he, Option.bind_some, Option.bind_some]
      dsimp +instances only
      rw [if_neg he, if_pos he, Option.bind_some]
      dsimp +instances only
      rw [if_neg he]; rfl
  · rw [if_neg h6, if_neg h6, Option.bind_some]
    rfl
end R9
end Go.Proofs.Ytcmalglippmocaa.Pure
end

section
namespace Go.Proofs.Ytcmalglippmocaa.Pure
open Go.RowKit Go.Proofs.YtcmalglippmocaaW.PrintWords Go.Proofs.YtcmalglippmocaaW.PrintLast Go.Proofs.Ytcmalglippmocaa.G Go.Proofs.Ytcmalglippmocaa.Pal
open FG F2 FS FT CL
namespace CR
theorem syn_is (x : Nat) (h : x < 256) : (Int.tmod (wrap64 (Int.tdiv (x : Int) 2)) 2 = 0) = (x / 2 % 2 = 0) := by
  apply propext
  rw [show Int.tdiv (x : Int) 2 = ((x / 2 : Nat) : Int) by rw [Int.tdiv_eq_ediv_of_nonneg (by omega)]; omega, show wrap64 ((x / 2 : Nat) : Int) = ((x / 2 : Nat) : Int) by unfold wrap64; omega, show Int.tmod ((x / 2 : Nat) : Int) 2 = ((x / 2 % 2 : Nat) : Int) by rw [Int.tmod_eq_emod_of_nonneg (by omega)]; omega]
  omega
theorem wrap_hn (y : Int) {n : Nat} (hy : 0 ≤ y) (h : (n : Int) = y % 16 * 4) : wrap64 (wrap64 (Int.tmod y 16) * 4) = (n : Int) := by
  rw [Int.tmod_eq_emod_of_nonneg hy]; unfold wrap64; omega
def findT (n : Nat) (s : ByteArray) : Int × Int × Int × Bool :=
  match mssOf (bl (s.extract 20 (ht s))) with
  | none => (0, 0, 0, false)
  | some (m, q) => if be (bl (s.extract 13 14)) / 2 % 2 = 0 then (0, 0, 0, false) else ((n : Int), ((20 + q : Nat) : Int), (m : Int), true)
theorem wrap_20 (q : Nat) (hq : q ≤ 1000000) : wrap64 (20 + (q : Int)) = ((20 + q : Nat) : Int) := by unfold wrap64; omega
theorem find10_seg {p : ByteArray} {n : Nat} (hs : p.size ≤ 5000) (hn : n ≤ p.size) (ht0 : tcpErr (p.extract n p.size) = 0) (k : Nat) (hk : 60000 ≤ k) :
    palanquinref10_Find.j1 (k + 1) p (n : Int) = some (findT n (p.extract n p.size)) := by
  have hz : (p.extract n p.size).size = p.size - n := by rw [ByteArray.size_extract]; omega
  obtain ⟨g1, g2, _, _⟩ := errT_zero ht0
  rw [palanquinref10_Find.j1, if_pos (by omega), if_pos (by omega), Int.toNat_natCast]
  unfold palanquinref07_Get.f
  rw [if_pos (by omega), getT_is (by omega), if_pos ht0, Option.bind_some]
  dsimp +instances only
  clear ht0
  generalize p.extract n p.size = s at *
  have hb : be (bl (s.extract 13 14)) < 256 := by
    have := be_lt_of (bl (s.extract 13 14)) 1 (by rw [bl_length, ByteArray.size_extract]; omega)
    omega
  have ho : (s.extract 20 (ht s)).size ≤ 5000 := by rw [ByteArray.size_extract]; omega
  rw [mss07_is _ k (by omega) (by omega), Option.bind_some]
  unfold findT
  cases hm : mssOf (bl (s.extract 20 (ht s))) with
  | none => rfl
  | some r =>
    obtain ⟨m, q⟩ := r
    have hq := (mssOf_lt hm).1
    rw [bl_length] at hq
    have hq2 : q ≤ 1000000 := by clear hm; omega
    rw [show mssR (some (m, q)) = ((m : Int), (q : Int), true) from rfl]
    dsimp +instances only
    rw [if_pos rfl]
    simp only [syn_is _ hb]
    rw [wrap_20 q hq2]
    split <;> rfl
theorem find10_not {p : ByteArray} {a d e x : Int} {b c : ByteArray} (hs : p.size ≤ 5000) (h : flow_Get.f p = some (a, b, c, d, e, x)) (hx : x ≠ 0 ∨ a ≠ 6) (k : Nat) (hk : 79020 ≤ k) : palanquinref10_Find.f k p = some (0, 0, 0, false) := by
  obtain ⟨k, rfl⟩ : ∃ j, k = j + 1 := ⟨k - 1, by omega⟩
  unfold palanquinref10_Find.f
  rw [R9.ref_flow p (by omega) (k + 1) (by omega), h, Option.bind_some]
  dsimp +instances only
  by_cases h0 : x = 0
  · have ha : a ≠ 6 := by rcases hx with hx | hx
                          · exact absurd h0 hx
                          · exact hx
    rw [if_pos h0, show (a != 6) = true by simp [ha], palanquinref10_Find.j0, if_pos rfl]
  · rw [if_neg h0, palanquinref10_Find.j0, if_pos rfl]
theorem find10_yes {p : ByteArray} {d e : Int} {b c : ByteArray} {n : Nat} (hs : p.size ≤ 5000) (h : flow_Get.f p = some (6, b, c, d, e, 0)) (hn : n ≤ p.size) (hp : 0 < p.size)
    (hh : (b.size = 4 ∧ bt p 0 / 16 = 4 ∧ (n : Int) = bt p 0 % 16 * 4) ∨ (b.size = 16 ∧ bt p 0 / 16 = 6 ∧ n = 40)) (ht0 : tcpErr (p.extract n p.size) = 0) (k : Nat) (hk : 79020 ≤ k) :
    palanquinref10_Find.f k p = some (findT n (p.extract n p.size)) := by
  obtain ⟨k, rfl⟩ : ∃ j, k = j + 2 := ⟨k - 2, by omega⟩
  have hr := bt_range p 0 hp
  rw [show ((0 : Nat) : Int) = 0 from rfl] at hr
  have hseg := find10_seg hs hn ht0 k (by omega)
  clear ht0
  unfold palanquinref10_Find.f
  rw [R9.ref_flow p (by omega) (k + 2) (by omega), h, Option.bind_some]
  dsimp +instances only
  rw [if_pos rfl, show ((6 : Int) != 6) = false by decide, palanquinref10_Find.j0, if_neg (by decide)]
  rcases hh with ⟨h1, h2, h3⟩ | ⟨h1, h2, h3⟩
  · rw [if_pos (by omega), if_pos (by omega), wrap_hn _ hr.1 h3]; exact hseg
  · rw [if_neg (by omega)]; subst h3; exact hseg
theorem seg_find10 {p b c : ByteArray} {d e : Int} {n m a : Nat} (h : Seg p b c d e n m a) (k : Nat) (hk : 79020 ≤ k) : palanquinref10_Find.f k p = some ((n : Int), ((20 + a : Nat) : Int), (m : Int), true) := by
  have hn := h.n20
  have hp := h.np
  rw [find10_yes h.small h.flow h.np (by omega) h.hh h.err k hk]
  unfold findT
  rw [h.mss]
  dsimp +instances only
  rw [if_neg h.flag]
theorem both_of {p : ByteArray} (hs : p.size ≤ 5000) : ((∀ k, clamp_find.f (k + 1) p = some (0, 0, false)) ∧ ∀ k, 79020 ≤ k → palanquinref10_Find.f k p = some (0, 0, 0, false)) ∨ ∃ b c d e n m a, Seg p b c d e n m a := by
  obtain ⟨⟨a, b, c, d, e, x⟩, hf⟩ : ∃ f, flow_Get.f p = some f := flow_some p (by omega)
  by_cases hx : x ≠ 0 ∨ a ≠ 6
  · exact .inl ⟨fun k => find_not hf hx k, fun k hk => find10_not hs hf hx k hk⟩
  obtain ⟨rfl, rfl⟩ : x = 0 ∧ a = 6 := by omega
  rcases seg_of hs hf with h | ⟨n, m, a, h⟩
  · refine .inl ⟨h, fun k hk => ?_⟩
    obtain ⟨n, hn20, hnp, hbc, hh, _, ⟨p3, hp3, hok⟩, hall⟩ := flow_valid (by omega) hf
    have ht0 := ports6 hp3 (by rw [ByteArray.size_extract]; omega)
    have h0 := h 0
    rw [find_seg (by omega) hf hnp (by omega) hh ht0 0] at h0
    rw [find10_yes hs hf hnp (by omega) hh ht0 k hk]
    clear ht0 hp3
    unfold findR at h0
    unfold findT
    cases hm : mssOf (bl ((p.extract n p.size).extract 20 (ht (p.extract n p.size)))) with
    | none => rfl
    | some r =>
      rw [hm] at h0
      dsimp +instances only at h0 ⊢
      by_cases hb : be (bl ((p.extract n p.size).extract 13 14)) / 2 % 2 = 0
      · rw [if_pos hb]
      · rw [if_neg hb] at h0
        have hbad := congrArg (fun t => t.2.2) (Option.some.inj h0)
        exact absurd hbad (by simp)
  · exact .inr ⟨b, c, d, e, n, m, a, h⟩
end CR
end Go.Proofs.Ytcmalglippmocaa.Pure
end

section
namespace Go.Proofs.Ytcmalglippmocaa.Pure
open Go.RowKit Go.Proofs.YtcmalglippmocaaW.PrintWords Go.Proofs.YtcmalglippmocaaW.PrintLast Go.Proofs.Ytcmalglippmocaa.G Go.Proofs.Ytcmalglippmocaa.Pal
open FG F2 FS FT CL CR
namespace CU
theorem mask16 (x : Int) : Go.bits .and .i64 x 65535 = x % 65536 := by
  have e : Go.bits .and .i64 x 65535 = IntKind.i64.wrap (((x % 18446744073709551616).toNat &&& 65535 : Nat) : Int) := by
    show IntKind.i64.wrap (((BitVec.ofInt 64 x &&& BitVec.ofInt 64 65535).toNat : Nat) : Int) = _
    rw [BitVec.toNat_and, BitVec.toNat_ofInt, show (BitVec.ofInt 64 65535).toNat = 65535 from rfl]
    rfl
  rw [e, Nat.and_two_pow_sub_one_eq_mod _ 16, IntKind.wrap_i64]; omega
def upd (a b c : Int) : Nat := 65535 - fold16 ((65535 - (a % 65536).toNat) + (65535 - (b % 65536).toNat) + (c % 65536).toNat)
theorem sum_upd (a b c : Int) : sum_Update.f a b c = some ((upd a b c : Nat) : Int) := by
  unfold sum_Update.f
  rw [mask16, mask16, mask16]
  have ha : a % 65536 = (((a % 65536).toNat : Nat) : Int) := by omega
  have hb : b % 65536 = (((b % 65536).toNat : Nat) : Int) := by omega
  have hc : c % 65536 = (((c % 65536).toNat : Nat) : Int) := by omega
  unfold upd
  generalize (a % 65536).toNat = x at ha
  generalize (b % 65536).toNat = y at hb
  generalize (c % 65536).toNat = z at hc
  have hx : x < 65536 := by omega
  have hy : y < 65536 := by omega
  rw [ha, hb, hc, i64_xor_ones x hx, i64_xor_ones y hy]
  have e : IntKind.u64.wrap (IntKind.u64.wrap (IntKind.u64.wrap ((65535 - x : Nat) : Int) + IntKind.u64.wrap ((65535 - y : Nat) : Int)) + IntKind.u64.wrap (z : Int)) = (((65535 - x) + (65535 - y) + z : Nat) : Int) := by
    simp only [IntKind.wrap_u64]; omega
  rw [e]
  unfold sum_fold.f
  rw [if_pos (by omega), Option.bind_some, Int.toNat_natCast]
  have hf := fold16_le (65535 - x + (65535 - y) + z)
  rw [i64_xor_ones _ (by omega)]
theorem upd_is (R o f : Nat) (ho : o ≤ 65535) (hf : f ≤ 65535) (h0 : R + o ≠ 0) (h1 : R + f ≠ 0) :
    upd ((65535 - fold16 (R + o) : Nat) : Int) (o : Int) (f : Int) = 65535 - fold16 (R + f) := by
  unfold upd
  have hx := fold16_le (R + o)
  rw [show (((65535 - fold16 (R + o) : Nat) : Int) % 65536).toNat = 65535 - fold16 (R + o) by omega, show ((o : Int) % 65536).toNat = o by omega, show ((f : Int) % 65536).toNat = f by omega]
  rw [show 65535 - (65535 - fold16 (R + o)) = fold16 (R + o) by omega]
  congr 1
  unfold fold16
  rw [if_neg h0, if_neg h1]
  split
  · omega
  · omega
theorem tot_even {l m : List UInt8} (h : odd l = false) : tot false (l ++ m) = tot false l + tot false m := by rw [tot_append, h]; rfl
theorem tot_put (l : List UInt8) (i : Nat) (hi : i % 2 = 0) (h : i + 2 ≤ l.length) (x y : UInt8) :
    ∃ R, tot false l = R + ((l[i]'(by omega)).toNat * 256 + (l[i + 1]'(by omega)).toNat) ∧ tot false (l.take i ++ [x, y] ++ l.drop (i + 2)) = R + (x.toNat * 256 + y.toNat) := by
  have ho : odd (l.take i) = false := by
    unfold odd; rw [List.length_take, Nat.min_eq_left (by omega), hi]; rfl
  have ho2 : ∀ a b : UInt8, odd (l.take i ++ [a, b]) = false := fun a b => by
    unfold odd; rw [List.length_append, List.length_take, Nat.min_eq_left (by omega)]; have : (i + [a, b].length) % 2 = 0 := by simp; omega
    rw [this]; rfl
  have key : ∀ a b : UInt8, tot false (l.take i ++ [a, b] ++ l.drop (i + 2)) = (tot false (l.take i) + tot false (l.drop (i + 2))) + (a.toNat * 256 + b.toNat) := fun a b => by
    rw [tot_even (ho2 a b), tot_even ho]; simp only [tot]; omega
  refine ⟨tot false (l.take i) + tot false (l.drop (i + 2)), ?_, key x y⟩
  have e : l = l.take i ++ [l[i], l[i + 1]] ++ l.drop (i + 2) := by
    conv => lhs; rw [← List.take_append_drop i l]
    rw [List.append_assoc]
    congr 1
    rw [List.drop_eq_getElem_cons (by omega), List.drop_eq_getElem_cons (by omega)]
    rfl
  conv => lhs; rw [e]
  exact key _ _
theorem tot_zero : ∀ (l : List UInt8) (o : Bool), tot o l = 0 → l = List.replicate l.length 0
  | [], _, _ => rfl
  | x :: l, o, h => by
    have hx : x = 0 ∧ ∃ o', tot o' l = 0 := by
      cases o <;> simp only [tot] at h
      · exact ⟨UInt8.toNat.inj (by show x.toNat = 0; omega), true, by omega⟩
      · exact ⟨UInt8.toNat.inj (by show x.toNat = 0; omega), false, by omega⟩
    obtain ⟨rfl, o', h'⟩ := hx
    rw [List.length_cons, List.replicate_succ, ← tot_zero l o' h']
theorem or_is (x y : Nat) (hx : x < 256) (hy : y < 256) : Go.bits .or .i64 ((x * 256 : Nat) : Int) (y : Int) = ((x * 256 + y : Nat) : Int) := by
  rw [i64_or _ _ (by omega) (by omega)]
  congr 1
  have e := Nat.two_pow_add_eq_or_of_lt (i := 8) (b := y) hy x
  rw [show 2 ^ 8 * x = x * 256 by omega] at e
  exact e.symm
theorem tl_inj {a b : ByteArray} (h : a.toList = b.toList) : a = b := bl_inj (by
  have e : ∀ s : ByteArray, s.toList = bl s := fun s => ByteArray.toList_eq s
  rw [← e, ← e, h])
theorem be_pair (x y : UInt8) : be [x, y] = x.toNat * 256 + y.toNat := by
  rw [show [x, y] = [x] ++ [y] from rfl, be_snoc]
  simp [be]
theorem tot_putAt (ps s : ByteArray) (he : odd (bl ps) = false) (i c : Nat) (hi : i % 2 = 0) (h : i + 2 ≤ s.size) (hc : c ≤ 65535) :
    ∃ R, tot false (bl ps ++ bl s) = R + (((bl s).getD i 0).toNat * 256 + ((bl s).getD (i + 1) 0).toNat) ∧ tot false (bl ps ++ bl (putAt s i c)) = R + c := by
  have hl := nb_length 2 c
  have hb := be_nb 2 c
  obtain ⟨x, y, hxy⟩ : ∃ x y, nb 2 c = [x, y] := by
    match hn : nb 2 c, hl with
    | [x, y], _ => exact ⟨x, y, rfl⟩
  rw [hxy, be_pair] at hb
  have hz := bl_length s
  obtain ⟨R, h1, h2⟩ := tot_put (bl s) i hi (by omega) x y
  refine ⟨tot false (bl ps) + R, ?_, ?_⟩
  · rw [tot_even he, h1, getD_at (l := bl s) (i := i) (by omega), getD_at (l := bl s) (i := i + 1) (by omega)]; omega
  · rw [tot_even he, bl_putAt, hxy, h2]; omega
theorem or_bt (s : ByteArray) (i : Nat) (h : i + 1 < s.size) : Go.bits .or .i64 (wrap64 (wrap64 (bt s (i : Int)) * 256)) (wrap64 (bt s ((i + 1 : Nat) : Int))) = ((((bl s).getD i 0).toNat * 256 + ((bl s).getD (i + 1) 0).toNat : Nat) : Int) := by
  have hz := bl_length s
  rw [bt_bl s i (by omega), bt_bl s (i + 1) h, getD_at (l := bl s) (i := i) (by omega), getD_at (l := bl s) (i := i + 1) (by omega)]
  have b1 := UInt8.toNat_lt ((bl s)[i]'(by omega))
  have b2 := UInt8.toNat_lt ((bl s)[i + 1]'(by omega))
  rw [show wrap64 (wrap64 (((bl s)[i]'(by omega)).toNat : Int) * 256) = (((((bl s)[i]'(by omega)).toNat) * 256 : Nat) : Int) by unfold wrap64; omega, show wrap64 ((((bl s)[i + 1]'(by omega)).toNat : Nat) : Int) = ((((bl s)[i + 1]'(by omega)).toNat : Nat) : Int) by unfold wrap64; omega]
  exact or_is _ _ b1 b2
theorem nonzero_tot {l : List UInt8} {j : Nat} (h : l.getD j 0 ≠ 0) : tot false l ≠ 0 := fun h0 => by
  have e := tot_zero l false h0
  rw [e] at h
  refine h ?_
  rw [List.getD_eq_getElem?_getD, List.getElem?_replicate]
  split <;> rfl
theorem mss_at {s : ByteArray} {m a : Nat} (hm : mssOf (bl (s.extract 20 (ht s))) = some (m, a)) : m = ((bl s).getD (20 + a) 0).toNat * 256 + ((bl s).getD (20 + a + 1) 0).toNat ∧ (bl s).getD (20 + a - 2) 0 ≠ 0 := by
  obtain ⟨_, _, q, _, rfl, hq, h2, _, hn, _⟩ := mssOf_some hm
  rw [bl_length, ByteArray.size_extract] at hq
  rw [cut_getD, if_pos (by omega)] at h2
  rw [cut_getD, cut_getD, if_pos (by omega), if_pos (by omega)] at hn
  refine ⟨by rw [hn]; rfl, ?_⟩
  rw [show 20 + (q + 2) - 2 = 20 + q by omega, h2]
  decide
theorem new_sum {s b c : ByteArray} {m a L : Nat} (hp : odd (bl (psB b c 6 (s.size : Nat))) = false) (hm : mssOf (bl (s.extract 20 (ht s))) = some (m, a)) (ha : a % 2 = 0) (hL : L < m) :
    upd ((sumAt (psB b c 6 (s.size : Nat)) s 16 : Nat) : Int) (m : Int) (L : Int) = sumAt (psB b c 6 (s.size : Nat)) (putAt s (20 + a) L) 16 := by
  obtain ⟨r1, r2, r3, r4⟩ := mss_room hm
  obtain ⟨hv, hk⟩ := mss_at hm
  clear hm
  have hz := putAt_size s 16 0 (by omega)
  obtain ⟨R, t1, t2⟩ := tot_putAt (psB b c 6 (s.size : Nat)) (putAt s 16 0) hp (20 + a) L (by omega) (by omega) (by omega)
  rw [putAt_getD 0 (by omega) (.inr (by omega)), putAt_getD 0 (by omega) (.inr (by omega)), ← hv] at t1
  have hne : R + L ≠ 0 := by
    rw [← t2, tot_even hp]
    have hnz : tot false (bl (putAt (putAt s 16 0) (20 + a) L)) ≠ 0 := nonzero_tot (j := 20 + a - 2) (by
      rw [putAt_getD L (by omega) (.inl (by omega)), putAt_getD 0 (by omega) (.inr (by omega))]; exact hk)
    omega
  unfold sumAt
  rw [← putAt_comm (q := 16) (by omega) (by omega)]
  unfold csum
  rw [t1, t2]
  exact upd_is R m L r2 (by omega) (by omega) hne
theorem wrap_nk (n k : Nat) (h : n + k ≤ 1000000) : wrap64 ((n : Int) + (k : Int)) = ((n + k : Nat) : Int) := by unfold wrap64; omega
end CU
open CU
theorem ClampUpdates (a0 : ByteArray) (a1 : Int) (_ : a0.size ≤ 140737488351232) (w1 : (Lit.int .u16 a1).wf = true) : ∃ k, palanquinlaw10_ClampUpdates.f k a0 a1 = some true := by
  have h1 : 0 ≤ a1 ∧ a1 ≤ 65535 := by simp [Lit.wf] at w1; exact w1
  have wr : wrap64 a1 = a1 := by unfold wrap64; omega
  refine ⟨80000, ?_⟩
  have skip : ∀ x y, palanquinlaw10_ClampUpdates.j0 80000 a0 a1 x y true = some true := fun x y => by rw [palanquinlaw10_ClampUpdates.j0, if_pos rfl]
  unfold palanquinlaw10_ClampUpdates.f
  rw [awake10, Option.bind_some, if_pos rfl]
  by_cases hz : (a0.size : Int) > 5000
  · rw [if_pos hz]
  rw [if_neg hz]
  have hs : a0.size ≤ 5000 := by omega
  rcases both_of hs with ⟨e1, e2⟩ | ⟨b, c, d, e, n, m, a, h⟩
  · rw [e2 80000 (by decide), Option.bind_some]
    dsimp +instances only
    rw [if_neg (by decide), skip]
  rw [seg_find10 h 80000 (by decide), Option.bind_some]
  dsimp +instances only
  rw [if_pos rfl]
  by_cases ho : Int.tmod ((20 + a : Nat) : Int) 2 = 1
  · rw [if_pos ho, skip]
  rw [if_neg ho, wr]
  by_cases hm : (m : Int) ≤ a1
  · rw [decide_eq_true hm, skip]
  have ha : a % 2 = 0 := by rw [Int.tmod_eq_emod_of_nonneg (by omega)] at ho; omega
  clear ho
  obtain ⟨L, rfl⟩ := Int.eq_ofNat_of_zero_le h1.1
  obtain ⟨r1, r2, r3, r4⟩ := h.room
  obtain ⟨f1, f2, f3⟩ := pq_facts h L
  have hn20 := h.n20
  have hp := h.np
  have hb16 : b.size ≤ 16 ∧ c.size ≤ 16 ∧ (b.size + c.size) % 2 = 0 := by
    have := h.bc
    rcases h.hh with ⟨h1, _, _⟩ | ⟨h1, _, _⟩ <;> omega
  have hcl := h.clamp (L : Int)
  have hlim : clampLim (L : Int) = (L : Int) := by unfold clampLim mx mn; split <;> split <;> omega
  rw [hlim, if_neg hm, Int.toNat_natCast] at hcl
  clear hlim
  have hnew := mA (new_sum (psB_even b c 6 ((a0.extract n a0.size).size : Nat) hb16.2.2) h.mss ha (show L < m by omega))
  have hsz : (a0.extract n a0.size).size = a0.size - n := by rw [ByteArray.size_extract]; omega
  have hflow := h.flow
  have hq16 : Aside0 (((bl (pq a0 b c n a L)).getD (n + 16) 0).toNat * 256 + ((bl (pq a0 b c n a L)).getD (n + 16 + 1) 0).toNat = sumAt (psB b c 6 ((a0.extract n a0.size).size : Nat)) (putAt (a0.extract n a0.size) (20 + a) L) 16) := mA (by
    rw [show n + 16 + 1 = n + 17 by omega, ← getD_drop, ← getD_drop, ← ext_back, f3]
    unfold sq
    exact putAt_two (by rw [putAt_size _ _ _ (by omega)]; omega) (sumAt_le _ _ _))
  rw [decide_eq_false hm, palanquinlaw10_ClampUpdates.j0, if_neg (by decide), R9.ref_flow a0 (by omega) 79999 (by decide), hflow, Option.bind_some]
  dsimp +instances only
  clear hflow h f2 f3
  generalize hsg : a0.extract n a0.size = s at *
  rw [if_pos (by omega), if_pos (by omega), Int.toNat_natCast, hsg, ref_seal 6 b c s (by omega) (by omega) (by omega) 79999 (by omega)]
  have hat : sealAt 6 s.size = 16 := by unfold sealAt; rw [if_pos ⟨rfl, by omega⟩]
  rw [seal_some hat (by decide) (by omega) (by omega) (by omega), Option.bind_some, sealC_6]
  clear hat
  by_cases hsame : (putAt s 16 (sumAt (psB b c 6 (s.size : Nat)) s 16)).toList = s.toList
  case neg => rw [if_neg hsame]
  have hs16 := putAt_two (s := s) (q := 16) (c := sumAt (psB b c 6 (s.size : Nat)) s 16) (by omega) (sumAt_le _ _ _)
  rw [tl_inj hsame] at hs16
  have ew1 : Aside0 (wrap64 ((n : Int) + 16) = ((n + 16 : Nat) : Int)) := mA (wrap_nk n 16 (by clear hs16; omega))
  have ew2 : Aside0 (wrap64 ((n : Int) + 17) = ((n + 16 + 1 : Nat) : Int)) := mA (wrap_nk n 17 (by clear hs16; omega))
  replace hs16 := mA hs16
  have g1 : 16 + 1 < s.size := by omega
  have g2 : n + 16 + 1 < (pq a0 b c n a L).size := by omega
  have o1 := or_bt s 16 g1
  have o2 := or_bt (pq a0 b c n a L) (n + 16) g2
  rw [hs16.out] at o1
  rw [hq16.out] at o2
  replace o1 := mA o1
  replace o2 := mA o2
  rw [if_pos hsame, wr, hcl, Option.bind_some, if_pos (by omega), if_pos (by omega), if_pos (by omega), ew1.out, ew2.out]
  rw [show (16 : Int) = ((16 : Nat) : Int) from rfl, show (17 : Int) = ((16 + 1 : Nat) : Int) from rfl, o1.out, sum_upd, Option.bind_some, if_pos (by omega), if_pos (by omega), if_pos (by omega), if_pos (by omega), o2.out, hnew.out, beq_self_eq_true]
end Go.Proofs.Ytcmalglippmocaa.Pure
end
