/- Texts of this session, joined: each is a section. -/
import Derived.Test.YtejmipoolbodgaaMFrbg2
import Derived.Test.YtejmipoolbodgaaMFrbg3
import Derived.RangeFuncBox
import Derived.RangeFuncWrites
import Derived.Maps.AppendAt
import Derived.Test.YtejmipoolbodgaaMFrbg1
set_option linter.unusedVariables false
set_option linter.unusedSimpArgs false
section
/- By hand: frag.Cut: a range over frag.parts. Printed by wip/gen/fragcut.py. -/
namespace Go.Proofs.Ytejmipoolbodgaa.G
open Go.RowKit Go.Shelf Go.Proofs.YtejmipoolbodgaaW.PrintWords Go.Proofs.YtejmipoolbodgaaW.PrintLast Go.Proofs.YtejmipoolbodgaaW.PrintMore Go.Proofs.Ytejmipoolbodgaa.Pal
attribute [local go_sem] Oper.semAt_some
set_option linter.unusedVariables false
set_option linter.unusedSimpArgs false
theorem strInfo : (Try.prog.info? 9).map (fun i => (i.zero, i.size, i.bytes)) = some (some (.string ByteArray.empty), 1, 16) := by kernel_rfl
/-- Behind an append to a row that was made behind the loop's begin: what lay below that begin is as it was, but the variable. -/
theorem app_far {W w1 : World} {n1 o k m : Nat} {e : TypeId} {v v' : Value} {xs ys : List Value} {tmp : Obj} (hrow : W.ownsRow n1 e 1 v k xs) (hn : n1 ≤ W.heap.size) (hgrow : (W.alloc tmp).grownBy w1 v.ownBlock) (b : Nat) (hb : b < n1) (ho : b ≠ o) : (w1.setCell ⟨o, 0, none⟩ v').heap[b]? = W.heap[b]? := by
  have h1 : some b ≠ v.ownBlock := fun h => by have := (hrow.lt b h.symm).1; omega
  have h2 : w1.heap[b]? = (W.alloc tmp).heap[b]? := hgrow.block b (by simp; omega) h1
  exact (Below.heap_setCell w1 ⟨o, 0, none⟩ v' b ho).trans (h2.trans (Below.heap_alloc W tmp b (by omega)))
theorem row_below {W W' : World} {base k n : Nat} {e : TypeId} {v : Value} {xs : List Value} (h : W.ownsRow base e n v k xs) (hb : Below W.heap.size W W') : W'.ownsRow base e n v k xs := own_move h (fun q hq => hb.block q (h.lt q hq).2)
theorem piece_some (s : ByteArray) (z k : Nat) (hok : ok4 (hTos s : Int) (hId s : Int) ((hOff s + k * z / 8 : Nat) : Int) (hTtl s : Int) (hProto s : Int) (hSrc s) (hDst s) (hOpt s)) (hsz : 20 + (hOpt s).size + (partP (hPay s) z k).size ≤ 65535) (m : Bool) (hm : (hMF s || decide (k * z + (partP (hPay s) z k).size < (hPay s).size)) = m) :
    ip4_Put.f (hTos s : Int) (hId s : Int) ((hOff s + k * z / 8 : Nat) : Int) (hTtl s : Int) (hProto s : Int) (hDF s) m (hSrc s) (hDst s) (hOpt s) (partP (hPay s) z k) = some (pieceF s z k, 0) := by
  rw [← hm]
  exact Pure.put4_ok hok hsz
theorem off_facts (a F : Nat) (ha : a ≤ 70000) (hF : F ≤ 8191) (q : Nat) (hq : q ≤ 70000) : (Int.tdiv (a : Int) 8 = ((a / 8 : Nat) : Int) ∧ (a : Int) / 8 = ((a / 8 : Nat) : Int)) ∧ (IntKind.i64.wrap ((a / 8 : Nat) : Int) = ((a / 8 : Nat) : Int) ∧ wrap64 ((a / 8 : Nat) : Int) = ((a / 8 : Nat) : Int)) ∧ (IntKind.i64.wrap ((F : Int) + ((a / 8 : Nat) : Int)) = ((F + a / 8 : Nat) : Int) ∧ wrap64 ((F : Int) + ((a / 8 : Nat) : Int)) = ((F + a / 8 : Nat) : Int)) ∧ (IntKind.i64.wrap ((a : Int) + (q : Int)) = ((a + q : Nat) : Int) ∧ wrap64 ((a : Int) + (q : Int)) = ((a + q : Nat) : Int)) := by
  refine ⟨⟨rfl, rfl⟩, ⟨by rw [IntKind.wrap_i64]; omega, by unfold wrap64; omega⟩, ⟨by rw [IntKind.wrap_i64]; omega, by unfold wrap64; omega⟩, ⟨by rw [IntKind.wrap_i64]; omega, by unfold wrap64; omega⟩⟩

theorem Blk.own {β : Type} (k : Nat) (t : TypeId) (cells : Array Value) : Own (fun (_ : β) W => Blk W k t cells) := fun _ _ _ _ hs hg hr => (grownBy_keeps_cells hg hr hs rfl).trans hs
abbrev h4cells (s : ByteArray) : Array Value := #[.int .i64 (hTos s : Int), .int .i64 (hId s : Int), .int .i64 (hOff s : Int), .int .i64 (hTtl s : Int), .int .i64 (hProto s : Int), .bool (hDF s), .bool (hMF s), .string (hSrc s), .string (hDst s), .string (hOpt s)]
/-- The loop's invariant: the row of pieces so far in its box, the header, the payload; and nothing that lay has turned. -/
def cutI (w : World) (o b k2 : Nat) (s : ByteArray) (z : Nat) (pre : List (PartI (hPay s) z)) (W : World) : Prop :=
  ((∃ v, Boxed W o 32 v ∧ W.ownsRow b 9 1 v pre.length (pre.map fun k => Value.string (pieceF s z k.1)) ∧ True) ∧ (Blk W k2 93 (h4cells s) ∧ Blk W (k2 + 1) 9 #[.string (hPay s)])) ∧ (Below w.heap.size w W ∧ b ≤ W.heap.size)
theorem keepsFrom_below {B n : Nat} {X Y : World} (h : Below n X Y) (hn : X.heap.size ≤ n) : KeepsFrom B X Y := ⟨h.size, fun i o _ hi _ => (h.block i (Nat.lt_of_lt_of_le (Array.getElem?_eq_some_iff.1 hi).1 hn)).trans hi⟩
theorem row_lower {W : World} {n1 n0 : Nat} {e : TypeId} {k : Nat} {v : Value} {xs : List Value} (h : W.ownsRow n1 e 1 v k xs) (h0 : n0 ≤ n1) : W.ownsRow n0 e 1 v k xs := by
  obtain ⟨h1, h2⟩ := h
  refine ⟨h1, ?_⟩
  rcases h2 with h2 | ⟨g, cap, cur, rfl, hg, r⟩
  · exact .inl h2
  · exact .inr ⟨g, cap, cur, rfl, Nat.le_trans h0 hg, r⟩
/-- An append to a row that was made behind the box of the variable. -/
theorem cut_appended {W w1 : World} {n1 n0 o : Nat} {t e : TypeId} {v v' : Value} {k m : Nat} {xs ys : List Value} {tmp : Obj} (hv : Boxed W o t v) (hte : t ≠ e) (hrow : W.ownsRow n1 e 1 v k xs) (h1 : n1 ≤ W.heap.size) (h01 : n0 ≤ o) (ho : o < n1) (hown' : w1.ownsRow n1 e 1 v' m ys) (hgrow : (W.alloc tmp).grownBy w1 v.ownBlock) :
    Boxed w1 o t v ∧ Boxed (w1.setCell ⟨o, 0, none⟩ v') o t v' ∧ (w1.setCell ⟨o, 0, none⟩ v').ownsRow n1 e 1 v' m ys ∧ KeepsOthers W (w1.setCell ⟨o, 0, none⟩ v') ∧ Below n0 W (w1.setCell ⟨o, 0, none⟩ v') ∧ ∀ b, b < n1 → b ≠ o → (w1.setCell ⟨o, 0, none⟩ v').heap[b]? = W.heap[b]? := by
  have h0 : n0 ≤ n1 := Nat.le_trans h01 (Nat.le_of_lt ho)
  obtain ⟨a, b, _, d, e⟩ := hv.appended hte (row_lower hrow h0) (Nat.le_trans h0 h1) h01 (row_lower hown' h0) hgrow
  exact ⟨a, b, hown'.kept (grownBy_setCell' w1 o v') (.inr (a.not_row hte hown').symm), d, e, fun c hc hco => app_far (k := k) (m := m) (ys := ys) hrow h1 hgrow c hc hco⟩
theorem off_facts2 (a F q : Nat) (ha : a ≤ 70000) (hF : F ≤ 8191) (hq : q ≤ 70000) : ∃ b E t : Nat, E = F + a / 8 ∧ t = a + q ∧ (Int.tdiv (a : Int) 8 = (b : Int) ∧ (a : Int) / 8 = (b : Int)) ∧ (IntKind.i64.wrap (b : Int) = (b : Int) ∧ wrap64 (b : Int) = (b : Int)) ∧ (IntKind.i64.wrap ((F : Int) + (b : Int)) = (E : Int) ∧ wrap64 ((F : Int) + (b : Int)) = (E : Int)) ∧ (IntKind.i64.wrap ((a : Int) + (q : Int)) = (t : Int) ∧ wrap64 ((a : Int) + (q : Int)) = (t : Int)) := by
  obtain ⟨h1, h2, h3, h4⟩ := off_facts a F ha hF q hq
  exact ⟨a / 8, F + a / 8, a + q, rfl, rfl, h1, h2, h3, h4⟩
theorem row_own (o b : Nat) (t e : TypeId) (α : Type) (F : α → Value) (n : Nat) : OwnFrom n (fun (pre : List α) W => ∃ v, Boxed W o t v ∧ W.ownsRow b e 1 v pre.length (pre.map F) ∧ True) :=
  Own.from (holdsRow_own b o t e 1 (fun pre : List α => pre.length) (fun pre => pre.map F) (fun _ _ => True)) n
theorem cutI_own (w : World) (o b k2 : Nat) (s : ByteArray) (z n : Nat) (hn : w.heap.size ≤ n) : OwnFrom n (cutI w o b k2 s z) := by
  intro pre A B row hs hg hr
  refine ⟨⟨row_own o b _ _ _ _ n pre A B row hs.1.1 hg hr, (Blk.own (β := Unit) _ _ _).from n () A B row hs.1.2.1 hg hr, (Blk.own (β := Unit) _ _ _).from n () A B row hs.1.2.2 hg hr⟩, ?_⟩
  exact ⟨ownFrom_below (β := Unit) (Nat.le_refl _) hn () A B row hs.2.1 hg hr, Nat.le_trans hs.2.2 hg.size⟩

theorem cut_step {w W w4 w5 : World} {o k2 : Nat} {s : ByteArray} {z : Nat} {pre : List (PartI (hPay s) z)} {x : PartI (hPay s) z} {v v' : Value} {tmp : Obj} (hwo : w.heap.size ≤ o) (hk2 : k2 + 1 < o)
    (hv : Boxed W o 32 v) (hrow : W.ownsRow (o + 3) 9 1 v pre.length (pre.map fun k => Value.string (pieceF s z k.1))) (hb1 : Blk W k2 93 (h4cells s)) (hb2 : Blk W (k2 + 1) 9 #[.string (hPay s)]) (hB : Below w.heap.size w W) (hsz : o + 3 ≤ W.heap.size)
    (hbw : Below W.heap.size W w4) (hown' : w5.ownsRow (o + 3) 9 1 v' (pre.length + 1) ((pre.map fun k => Value.string (pieceF s z k.1)) ++ [.string (pieceF s z x.1)])) (hgrow : (w4.alloc tmp).grownBy w5 v.ownBlock) (B : Nat) :
    Boxed w5 o 32 v ∧ KeepsFrom B W (w5.setCell ⟨o, 0, none⟩ v') ∧ keep2 (o + 1) (o + 1 + 1) W (w5.setCell ⟨o, 0, none⟩ v') ∧ cutI w o (o + 3) k2 s z (pre ++ [x]) (w5.setCell ⟨o, 0, none⟩ v') := by
  have hv4 : Boxed w4 o 32 v := (hbw.block o hv.lt).trans hv
  have h4 : o + 3 ≤ w4.heap.size := Nat.le_trans hsz hbw.size
  obtain ⟨a1, a2, a3, a4, a5, a6⟩ := cut_appended (n0 := w.heap.size) hv4 (by decide) (row_below hrow hbw) h4 hwo (Nat.lt_add_of_pos_right (by decide)) hown' hgrow
  have far : ∀ b, b < o + 3 → b ≠ o → (w5.setCell ⟨o, 0, none⟩ v').heap[b]? = W.heap[b]? := fun b hb ho => (a6 b hb ho).trans (hbw.block b (by omega))
  refine ⟨a1, (keepsFrom_below hbw (Nat.le_refl _)).trans (a4.from _), ⟨World.cell?_of_block (far _ (by show o + 1 < _; omega) (by show o + 1 ≠ o; omega)), World.cell?_of_block (far _ (by show o + 1 + 1 < _; omega) (by show o + 1 + 1 ≠ o; omega))⟩, ⟨⟨_, a2, ?_, trivial⟩, (far _ (by omega) (by omega)).trans hb1, (far _ (by omega) (by omega)).trans hb2⟩, (hB.trans (hbw.mono (by have := hB.size; omega))).trans a5, Nat.le_trans h4 a5.size⟩
  rw [List.length_append, List.map_append]
  exact a3
theorem cut_done {w W : World} {s : ByteArray} {z D n1 : Nat} {v : Value} {ys : List (PartI (hPay s) z)} {o' : Obj} (hK : W.heap[D]? = some (.deferred (some []))) (hrow : W.ownsRow n1 9 1 v ys.length (ys.map fun k => Value.string (pieceF s z k.1))) (hB : Below w.heap.size w W) (hD : w.heap.size ≤ D) (h1 : w.heap.size ≤ n1) (hS : ys.map (·.1) = List.range (cntP (hPay s) z)) :
    cutEnds w ((List.range (cntP (hPay s) z)).map (pieceF s z)) 0 (.returned (.tuple #[v, .int .i64 0])) (W.putObj D o') := by
  rw [← hS, List.map_map]
  refine ⟨v, rfl, ?_, hB.trans (belowK_b (w := w) (Nat.le_refl _) W D _ _ hD hK rfl rfl)⟩
  refine Kd.R_of_own ?_ (fun _ _ => trivial)
  have h2 := ownsRow_putObj (row_lower hrow h1) o' hK rfl
  have e1 : (List.map ((pieceF s z) ∘ fun k : PartI (hPay s) z => k.1) ys).length = ys.length := List.length_map _
  rw [e1, show encs Value.string (List.map ((pieceF s z) ∘ fun k : PartI (hPay s) z => k.1) ys) = List.map Value.string (List.map ((pieceF s z) ∘ fun k : PartI (hPay s) z => k.1) ys) from rfl, List.map_map]
  exact h2
theorem cntP_le (s : ByteArray) {n : Nat} (hn : 0 < n) : cntP s n ≤ s.size := by
  by_cases h : s.size < cntP s n
  · have h1 := (cntP_lt s hn s.size).mp h
    have h2 : s.size * 1 ≤ s.size * n := Nat.mul_le_mul_left _ hn
    omega
  · omega
theorem len_facts {n N : Nat} (h : n < N) (h2 : N ≤ 70000) : n + 1 ≤ maxLen ∧ (n + 1) * 16 ≤ 140737488355328 := by
  refine ⟨?_, by omega⟩
  have : (70000 : Nat) ≤ maxLen := by decide
  omega

set_option maxRecDepth 100000 in
set_option maxHeartbeats 16000000 in
theorem cut_main (s : ByteArray) (mtu P : Int) (hget : ip4_Get.f s = some ((hTos s : Int), (hId s : Int), (hOff s : Int), (hTtl s : Int), (hProto s : Int), hDF s, hMF s, hSrc s, hDst s, hOpt s, hPay s, 0)) (hpart : frag_Part.f (wrap64 ((s.size : Int) - ((hPay s).size : Int))) mtu = some P) (he : 28 ≤ mtu ∧ mtu ≤ 65535) (hs : ¬ (s.size : Int) ≤ mtu) (hd : hDF s = false) (z : Nat) (hP : P = (z : Int)) (hz : 0 < z) (hz2 : z ≤ 65536) (hp : (hPay s).size ≤ 70000) (hp0 : 0 < (hPay s).size) (hof : ¬ 8191 < hOff s + ((hPay s).size - 1) / z * z / 8) (hof2 : hOff s ≤ 8191)
    (hput : ∀ k, k < cntP (hPay s) z → ok4 (hTos s : Int) (hId s : Int) ((hOff s + k * z / 8 : Nat) : Int) (hTtl s : Int) (hProto s : Int) (hSrc s) (hDst s) (hOpt s) ∧ 20 + (hOpt s).size + (partP (hPay s) z k).size ≤ 65535 ∧ k * z ≤ 70000 ∧ (partP (hPay s) z k).size ≤ 70000) (w : World) :
    Calls Try.prog 114 #[.string s, .int .i64 mtu] w (cutEnds w ((List.range (cntP (hPay s) z)).map (pieceF s z)) 0) := by
  have HPUT := Aside0.mk hput
  have HN := Aside0.mk (show 0 < z ∧ z ≤ 65536 ∧ (hPay s).size ≤ 70000 ∧ 0 < (hPay s).size ∧ ¬ 8191 < hOff s + ((hPay s).size - 1) / z * z / 8 ∧ hOff s ≤ 8191 from ⟨hz, hz2, hp, hp0, hof, hof2⟩)
  have d4 : ((z : Int) == 0) = false := by rw [beq_eq_false_iff_ne]; omega
  clear hz hz2 hp hp0 hof hof2 hput
  have HD := Aside0.mk hd
  clear hd
  have HSS := Aside0.mk hs
  clear hs
  have HGET := Aside0.mk hget
  have HPART := Aside0.mk hpart
  clear hget hpart
  have hu := Try.underlying93
  refine (callsIn_wide (n := 4)).1 ?_
  refine callsIn_of_wp_marks Try.func114 rfl trivial ?_ rfl
  simp only [Try.ntmps114, List.size_toArray, List.length_cons, List.length_nil, Nat.reduceAdd, Nat.reduceSub, Array.replicate_succ, Array.replicate_zero, List.push_toArray, List.append_toArray, List.nil_append, List.cons_append]
  gi_wp2_with (refine ⟨trivial, ?_⟩; gi_at_call 111; refine (callsIn_wide.2 (ip4_Get.calls s _ _ _ _ _ _ _ _ _ _ _ _ _ HGET.out)).mono ?_; rintro e w2 ⟨rfl, g1⟩; have HB := Aside0.mk g1; clear g1)
  refine ⟨trivial, ?_⟩
  refine (callsIn_wide.2 (frag_Part.calls _ _ _ _ HPART.out)).mono ?_
  rintro e w3 ⟨rfl, g2⟩
  have HZ := Aside0.mk (show w2.heap.size + 2 ≤ w3.heap.size by have := g2.size; simp at this; omega)
  have b1 := Blk.new (w2.alloc (.cells #[.int .i64 (hTos s : Int), .int .i64 (hId s : Int), .int .i64 (hOff s : Int), .int .i64 (hTtl s : Int), .int .i64 (hProto s : Int), .bool (hDF s), .bool (hMF s), .string (hSrc s), .string (hDst s), .string (hOpt s)] 93)) 9 #[.string (hPay s)]
  rw [World.size_alloc] at b1
  have HK := Aside0.mk (show Hp w3 [(w2.heap.size, 93, #[.int .i64 (hTos s : Int), .int .i64 (hId s : Int), .int .i64 (hOff s : Int), .int .i64 (hTtl s : Int), .int .i64 (hProto s : Int), .bool (hDF s), .bool (hMF s), .string (hSrc s), .string (hDst s), .string (hOpt s)]), (w2.heap.size + 1, 9, #[.string (hPay s)])] from .cons (((Blk.new w2 _ _).alloc _).below g2 (by simp; omega)) (.cons (b1.below g2 (by simp)) (.nil _)))
  replace HB := Aside0.mk ((((HB.out.alloc HB.out.size (.cells #[.int .i64 (hTos s : Int), .int .i64 (hId s : Int), .int .i64 (hOff s : Int), .int .i64 (hTtl s : Int), .int .i64 (hProto s : Int), .bool (hDF s), .bool (hMF s), .string (hSrc s), .string (hDst s), .string (hOpt s)] 93)).alloc (by have := HB.out.size; simp; omega) (.cells #[.string (hPay s)] 9))).trans (g2.mono (by have := HB.out.size; simp; omega)))
  clear g2 b1
  have d1 : decide (mtu < 28) = false := decide_eq_false (by omega)
  have d2 : decide (65535 < mtu) = false := decide_eq_false (by omega)
  have d3 : decide ((s.size : Int) ≤ mtu) = false := decide_eq_false (by first | exact HSS.out | exact Int.not_le.mpr HSS.out)
  have c0 := HK.out.head.cells
  have c1 := HK.out.tail.head.cell 0 _ rfl
  rw [HD.out] at c0
  subst hP
  clear he
  obtain ⟨A, B, C, D, E, hE, ⟨f1, f2⟩, ⟨f3, f4⟩, ⟨f5, f6⟩, ⟨f7, f8⟩, ⟨f9, f10⟩, ⟨f11, f12⟩, ⟨f13, f14⟩⟩ := far_facts (hPay s).size z (hOff s) HN.out.1 HN.out.2.1 HN.out.2.2.1 HN.out.2.2.2.1 HN.out.2.2.2.2.2
  have zf : (z = 0) = False := eq_false (Nat.ne_of_gt HN.out.1)
  have zf2 : ((z : Int) = 0) = False := eq_false (fun h => Nat.ne_of_gt HN.out.1 (Int.natCast_eq_zero.mp h))
  have hgt : ¬ 8191 < E := by rw [hE]; exact HN.out.2.2.2.2.1
  have x1 : decide ((8191 : Int) < (E : Int)) = false := decide_eq_false (fun h => hgt (Int.ofNat_lt.mp h))
  have x2 : decide (8191 < E) = false := decide_eq_false hgt
  clear hgt hE
  gi_wp2
  refine wpIn_wide.2 ?_
  go_region
  clear f1 f2 f3 f4 f5 f6 f7 f8 f9 f10 f11 f12 f13 f14 zf zf2
  have HK2 := HK.out.alloc (.cells #[.slice none 0 0] 32)
  have c2 := HK2.tail.head.cell 0 _ rfl
  have c3 : (w3.alloc (.cells #[.slice none 0 0] 32)).drew.cell? ⟨w2.heap.size + 1, 0, none⟩ = some (.string (hPay s)) := c2
  gi_wp2_with (refine ⟨trivial, ?_⟩; gi_at_call 157; refine (parts_in _ (hPay s) (z : Int) _).mono ?_; rintro e w5 ⟨rfl, rfl⟩)
  clear c2 c3
  have q1 := Blk.new (w3.alloc (.cells #[.slice none 0 0] 32)) 9 #[.string (hPay s)]
  rw [World.size_alloc] at q1
  have q2 := Blk.new ((w3.alloc (.cells #[.slice none 0 0] 32)).alloc (.cells #[.string (hPay s)] 9)) 3 #[.int .i64 (z : Int)]
  rw [World.size_alloc, World.size_alloc] at q2
  obtain ⟨V, hV⟩ : ∃ V, V = (((w3.alloc (.cells #[.slice none 0 0] 32)).alloc (.cells #[.string (hPay s)] 9)).alloc (.cells #[.int .i64 (z : Int)] 3)).drew := ⟨_, rfl⟩
  have v1 : Boxed V w3.heap.size 32 (.slice none 0 0) := by rw [hV]; exact (((Blk.new w3 _ _).alloc _).alloc _)
  have v2 : Blk V w2.heap.size 93 #[.int .i64 (hTos s : Int), .int .i64 (hId s : Int), .int .i64 (hOff s : Int), .int .i64 (hTtl s : Int), .int .i64 (hProto s : Int), .bool (hDF s), .bool (hMF s), .string (hSrc s), .string (hDst s), .string (hOpt s)] := by rw [hV]; exact (HK2.head.alloc _).alloc _
  have v3 : Blk V (w2.heap.size + 1) 9 #[.string (hPay s)] := by rw [hV]; exact (HK2.tail.head.alloc _).alloc _
  have v4 : V.cell? ⟨w3.heap.size + 1, 0, none⟩ = some (.string (hPay s)) := by rw [hV]; exact (q1.alloc _).cell 0 _ rfl
  have v5 : V.cell? ⟨w3.heap.size + 1 + 1, 0, none⟩ = some (.int .i64 (z : Int)) := by rw [hV]; exact q2.cell 0 _ rfl
  have v6 : V.heap.size = w3.heap.size + 3 := by rw [hV]; simp
  have v7 : Below w.heap.size w V := by rw [hV]; exact (((HB.out.alloc HB.out.size _).alloc (by have := HB.out.size; simp; omega) _).alloc (by have := HB.out.size; simp; omega) _).drew
  have HBS := Aside0.mk HB.out.size
  rw [← hV]
  clear hV q1 q2 HK2 HB HK
  have hI0 : cutI w w3.heap.size (w3.heap.size + 3) w2.heap.size s z [] V := ⟨⟨⟨_, v1, World.ownsRow_nil _ _ _ _, trivial⟩, v2, v3⟩, v7, Nat.le_of_eq v6.symm⟩
  have hIO := cutI_own w w3.heap.size (w3.heap.size + 3) w2.heap.size s z V.heap.size v7.size
  obtain ⟨i0, hi, hz0, hz1, hz2⟩ := info_parts strInfo
  have HWO := Aside0.mk (show w.heap.size ≤ w3.heap.size ∧ w2.heap.size + 1 < w3.heap.size from ⟨HBS.out, HZ.out⟩)
  have hEN : ∀ (args : Array Value) (w : World), (callFunc 163 args).run Try.prog w = .ok (.enter 163 args) w := enters_of Try.func163 (by kernel_rfl) rfl
  have hST := parts_stops 3 (by decide) (w3.heap.size + 1) (w3.heap.size + 1 + 1) (hPay s) z HN.out.1 HN.out.2.1 (Nat.le_trans HN.out.2.2.1 (by decide)) V (by rw [v6]; exact Nat.lt_of_lt_of_le (Nat.lt_succ_self _) (Nat.le_add_right _ 1)) (by rw [v6]; exact Nat.lt_succ_self _) v4 v5
  have hKb := keep2_b (n := V.heap.size) (B1 := w3.heap.size + 1) (B2 := w3.heap.size + 1 + 1) (by rw [v6]; exact Nat.lt_of_lt_of_le (Nat.lt_succ_self _) (Nat.le_add_right _ 1)) (by rw [v6]; exact Nat.lt_succ_self _)
  clear v1 v2 v3 v4 v5
  refine wpIn_rangeFunc_ownG (α := PartI (hPay s) z) (encs := encP (hPay s) z) (F := Fence.wide) (n := 4) (w0 := V) (hro := rfl) (h1 := by decide) (gf := 163) (lb := #[.pointer (some ⟨w3.heap.size + 1, 0, none⟩), .pointer (some ⟨w3.heap.size + 1 + 1, 0, none⟩)]) (hg := rfl) (hFg := trivial) (eg := hEN) (hseq := hST) (hKt := keep2_t) (hKb := hKb) (hb0 := Below.refl _ _) (hps := fun _ => rfl) (I := cutI w w3.heap.size (w3.heap.size + 3) w2.heap.size s z) (Ix := fun _ _ _ => False) (hI := hIO) (hIx := fun _ _ _ _ _ hs _ _ => hs) (h0 := hI0) (a₁ := ?a₁) (hassign := ?hassign) (hbody := ?hbody) (hdone := ?hdone) (hstop := ?hstop)
  case hassign =>
    intro l x W K hK
    gi_wp2
    exact hK
  case hbody => as_aux_lemma =>
    rintro l pre ⟨k, hk⟩ W ⟨⟨⟨v, hv, hrow, _⟩, hb1, hb2⟩, hB, hsz⟩ hlen
    have HX := Aside0.mk (HPUT.out k hk)
    have HLEN := Aside0.mk (len_facts hlen (Nat.le_trans (cntP_le _ HN.out.1) HN.out.2.2.1))
    obtain ⟨a, ha⟩ : ∃ a, a = k * z := ⟨_, rfl⟩
    obtain ⟨b, E, t, hE, ht, ⟨u1, u2⟩, ⟨u3, u4⟩, ⟨u5, u6⟩, ⟨u7, u8⟩⟩ := off_facts2 a (hOff s) (partP (hPay s) z k).size (by rw [ha]; exact HX.out.2.2.1) HN.out.2.2.2.2.2 HX.out.2.2.2
    have HEQ := Aside0.mk (And.intro ha (And.intro hE ht))
    have c0 := hb1.cells
    dsimp only [h4cells] at c0
    have c1 : ∀ (cs : Array Value) (T : TypeId), (W.alloc (.cells cs T)).cell? ⟨w2.heap.size + 1, 0, none⟩ = some (.string (hPay s)) := fun cs T => (hb2.alloc _).cell 0 _ rfl
    have c3 : ∀ (cs : Array Value) (T : TypeId), (W.alloc (.cells cs T)).cell? ⟨w2.heap.size, 6, none⟩ = some (.bool (hMF s)) := fun cs T => (hb1.alloc _).cell 6 _ rfl
    have HV := Aside0.mk (And.intro hv (And.intro hrow (And.intro hb1 (And.intro hb2 (And.intro hB hsz)))))
    clear hv hrow hb1 hb2 hB hsz hlen
    have hac : (k : Int) * (z : Int) = (a : Int) := by rw [ha]; exact (Int.natCast_mul _ _).symm
    rw [hac]
    clear ha hE ht hac
    have HPC : ∀ m : Bool, (hMF s || decide (t < (hPay s).size)) = m → Aside0 (ip4_Put.f (hTos s : Int) (hId s : Int) (E : Int) (hTtl s : Int) (hProto s : Int) (hDF s) m (hSrc s) (hDst s) (hOpt s) (partP (hPay s) z k) = some (pieceF s z k, 0)) := fun m hm => ⟨by
      have h1 := HEQ.out
      rw [h1.2.1, h1.1]
      exact piece_some s z k HX.out.1 HX.out.2.1 m (by rw [← hm, h1.2.2, h1.1])⟩
    cases hm : hMF s
    · as_aux_lemma =>
      obtain ⟨m, hmm⟩ : ∃ m, m = decide (t < (hPay s).size) := ⟨_, rfl⟩
      have x2 : decide (t < (hPay s).size) = m := hmm.symm
      have x1 : decide ((t : Int) < ((hPay s).size : Int)) = m := by rw [← x2]; exact decide_eq_decide.mpr Int.ofNat_lt
      have HP := HPC m (by rw [hm, x2, Bool.false_or])
      rw [hm] at c0 c3
      clear HPC hmm hm
      gi_wp2_with (refine ⟨trivial, ?_⟩; gi_at_call 85)
      refine CallsIn.inRound l ((callsIn_wide.2 (ip4_Put.calls _ _ _ _ _ _ _ _ _ _ _ _ _ _ HP.out)).mono ?_)
      rintro e w4 ⟨rfl, g1⟩
      have hbw : Below W.heap.size W w4 := ((Below.refl _ W).alloc (Nat.le_refl _) _).trans (g1.mono (by rw [World.size_alloc]; exact Nat.le_succ _))
      clear g1 c0 c1 c3 u1 u2 u3 u4 u5 u6 u7 u8
      obtain ⟨hv, hrow, hb1, hb2, hB, hsz⟩ := HV.out
      have c2 : w4.cell? ⟨w3.heap.size, 0, none⟩ = some v := Boxed.cell ((hbw.block w3.heap.size hv.lt).trans hv)
      have HR4 := Aside0.mk (And.intro (row_below hrow hbw) (Nat.le_trans hsz hbw.size))
      have HBW := Aside0.mk hbw
      clear hv hrow hb1 hb2 hB hsz hbw
      gi_wp2_with (gi_at_builtin; refine wpListIn_append_own _ rfl _ _ 32 rfl (w3.heap.size + 3) 9 i0 (.string ByteArray.empty) 1 16 Try.underlying32 hi hz0 hz1 hz2 rfl (by decide) _ _ _ rfl (HR4.out.1.alloc _) ⟨w4.heap.size, 0, none⟩ 1 1 [.string (pieceF s z k)] rfl rfl (cell_one_new _ _ _) (by simp [Value.oneCell']) HLEN.out.1 HLEN.out.2 (Nat.le_trans HR4.out.2 (by rw [World.size_alloc]; exact Nat.le_succ _)) ?_; intro v' w5 hown' hgrow _; obtain ⟨g', cap', rfl⟩ := ownsRow_succ hown'; have HS := cut_step (x := ⟨k, hk⟩) HWO.out.1 HWO.out.2 HV.out.1 HV.out.2.1 HV.out.2.2.1 HV.out.2.2.2.1 HV.out.2.2.2.2.1 HV.out.2.2.2.2.2 HBW.out hown' hgrow V.heap.size; have hc1 := HS.1.cell; have hf1 := HS.1.frozen; replace HS := Aside0.mk HS.2; clear hown' hgrow)
      exact HS.out
    · as_aux_lemma =>
      have HP := HPC true (by rw [hm, Bool.true_or])
      rw [hm] at c0 c3
      clear HPC hm
      gi_wp2_with (refine ⟨trivial, ?_⟩; gi_at_call 85)
      refine CallsIn.inRound l ((callsIn_wide.2 (ip4_Put.calls _ _ _ _ _ _ _ _ _ _ _ _ _ _ HP.out)).mono ?_)
      rintro e w4 ⟨rfl, g1⟩
      have hbw : Below W.heap.size W w4 := ((Below.refl _ W).alloc (Nat.le_refl _) _).trans (g1.mono (by rw [World.size_alloc]; exact Nat.le_succ _))
      clear g1 c0 c1 c3 u1 u2 u3 u4 u5 u6 u7 u8
      obtain ⟨hv, hrow, hb1, hb2, hB, hsz⟩ := HV.out
      have c2 : w4.cell? ⟨w3.heap.size, 0, none⟩ = some v := Boxed.cell ((hbw.block w3.heap.size hv.lt).trans hv)
      have HR4 := Aside0.mk (And.intro (row_below hrow hbw) (Nat.le_trans hsz hbw.size))
      have HBW := Aside0.mk hbw
      clear hv hrow hb1 hb2 hB hsz hbw
      gi_wp2_with (gi_at_builtin; refine wpListIn_append_own _ rfl _ _ 32 rfl (w3.heap.size + 3) 9 i0 (.string ByteArray.empty) 1 16 Try.underlying32 hi hz0 hz1 hz2 rfl (by decide) _ _ _ rfl (HR4.out.1.alloc _) ⟨w4.heap.size, 0, none⟩ 1 1 [.string (pieceF s z k)] rfl rfl (cell_one_new _ _ _) (by simp [Value.oneCell']) HLEN.out.1 HLEN.out.2 (Nat.le_trans HR4.out.2 (by rw [World.size_alloc]; exact Nat.le_succ _)) ?_; intro v' w5 hown' hgrow _; obtain ⟨g', cap', rfl⟩ := ownsRow_succ hown'; have HS := cut_step (x := ⟨k, hk⟩) HWO.out.1 HWO.out.2 HV.out.1 HV.out.2.1 HV.out.2.2.1 HV.out.2.2.2.1 HV.out.2.2.2.2.1 HV.out.2.2.2.2.2 HBW.out hown' hgrow V.heap.size; have hc1 := HS.1.cell; have hf1 := HS.1.frozen; replace HS := Aside0.mk HS.2; clear hown' hgrow)
      exact HS.out
  case hdone => as_aux_lemma =>
    rintro D ys W hD hS ⟨⟨⟨v, hv, hrow, _⟩, hb1, hb2⟩, hB, hsz⟩ hK
    have hc := hv.cell
    have hK2 := Aside0.mk hK
    have hrow2 := Aside0.mk (And.intro hrow (And.intro hB (And.intro hD hS)))
    clear hv hrow hb1 hb2 hB hsz hD hS
    gi_wp2
    refine ⟨by simp, .inl ⟨_, _, rfl, run_takeDeferred hK2.out, ?_⟩⟩
    refine ⟨.tuple #[v, .int .i64 0], ?_, ?_⟩
    · simp [results, Try.f114, go_sem]
    · exact cut_done hK2.out hrow2.out.1 hrow2.out.2.1 (Nat.le_trans HBS.out (Nat.le_trans (by rw [v6]; exact Nat.le_add_right _ 3) hrow2.out.2.2.1)) (Nat.le_trans HBS.out (Nat.le_add_right _ 3)) hrow2.out.2.2.2
  case hstop =>
    rintro D c pre W _ _ h _
    exact h.elim

end Go.Proofs.Ytejmipoolbodgaa.G
end

section
/- By hand: frag.Cut's contract, out of its ends. -/
namespace Go.Proofs.Ytejmipoolbodgaa.G
open Go.RowKit Go.Proofs.YtejmipoolbodgaaW.PrintWords Go.Proofs.YtejmipoolbodgaaW.PrintLast Go.Proofs.YtejmipoolbodgaaW.PrintMore Go.Proofs.Ytejmipoolbodgaa.Pal
theorem and_high (x : Nat) (hx : x < 2 ^ 63) : x &&& (2 ^ 64 - 8) = x / 8 * 8 := by
  apply Nat.eq_of_testBit_eq
  intro i
  rw [show (2 ^ 64 - 8 : Nat) = 2 ^ 3 * (2 ^ 61 - 1) by decide, show x / 8 * 8 = 2 ^ 3 * (x / 2 ^ 3) by omega, Nat.testBit_and, Nat.testBit_two_pow_mul, Nat.testBit_two_pow_mul, Nat.testBit_two_pow_sub_one, Nat.testBit_div_two_pow]
  by_cases h : 3 ≤ i
  · by_cases h2 : i - 3 < 61
    · simp [h, h2]
    · have : x.testBit i = false := Nat.testBit_lt_two_pow (Nat.lt_of_lt_of_le hx (Nat.pow_le_pow_right (by decide) (by omega)))
      simp [h, this]
  · simp [h]
theorem andNot7 (x : Nat) (hx : x < 2 ^ 62) : Go.bits .andNot .i64 (x : Int) 7 = ((x / 8 * 8 : Nat) : Int) := by
  have e : (BitVec.ofInt IntKind.i64.bits (x : Int) &&& ~~~ BitVec.ofInt IntKind.i64.bits 7).toNat = x / 8 * 8 := by
    rw [BitVec.toNat_and, show (~~~ BitVec.ofInt IntKind.i64.bits 7).toNat = 2 ^ 64 - 8 by decide, BitVec.ofInt_natCast, BitVec.toNat_ofNat, Nat.mod_eq_of_lt (Nat.lt_of_lt_of_le hx (by decide))]
    exact and_high x (by omega)
  show IntKind.i64.wrap ((BitVec.ofInt IntKind.i64.bits (x : Int) &&& ~~~ BitVec.ofInt IntKind.i64.bits 7).toNat : Int) = _
  rw [e, IntKind.wrap_i64]
  omega
theorem mx_nat (m h : Nat) (hm : m ≤ 65535) (hh : h ≤ 65535) : mx 0 (wrap64 ((m : Int) - (h : Int))) = ((m - h : Nat) : Int) := by
  have e : wrap64 ((m : Int) - (h : Int)) = (m : Int) - (h : Int) := by unfold wrap64; omega
  rw [e]
  unfold mx
  split <;> omega
theorem part_is (S p m : Nat) (hS : S ≤ 65535) (hp : p ≤ S) (hm : m ≤ 65535) : frag_Part.f (wrap64 ((S : Int) - (p : Int))) (m : Int) = some (((m - (S - p)) / 8 * 8 : Nat) : Int) := by
  have e : wrap64 ((S : Int) - (p : Int)) = ((S - p : Nat) : Int) := by unfold wrap64; omega
  unfold frag_Part.f
  rw [e, mx_nat m (S - p) hm (by omega), andNot7 _ (by omega)]
theorem cutErr_bad {s : ByteArray} {mtu : Int} (h : ip4Err s ≠ 0) : cutErr s mtu = ip4Err s := if_neg h
theorem cutErr_range {s : ByteArray} {mtu : Int} (h : ip4Err s = 0) (hr : ¬ (28 ≤ mtu ∧ mtu ≤ 65535)) : cutErr s mtu = 1 := by unfold cutErr; rw [if_pos h, if_neg hr]
theorem cutErr_in {s : ByteArray} {mtu : Int} (h : ip4Err s = 0) (hr : 28 ≤ mtu ∧ mtu ≤ 65535) : cutErr s mtu = if (s.size : Int) ≤ mtu then 0 else if hDF s = true then 8 else if nF s mtu.toNat = 0 then 1 else if 8191 < hOff s + ((hPay s).size - 1) / nF s mtu.toNat * nF s mtu.toNat / 8 then 4 else 0 := by unfold cutErr; rw [if_pos h, if_pos hr]
theorem cutL_bad {s : ByteArray} {mtu : Int} (h : cutErr s mtu ≠ 0) : cutL s mtu = [] := if_neg h
theorem piece_fits {s : ByteArray} (h : ip4Err s = 0) {z : Nat} (hz : 0 < z) (hof : ¬ 8191 < hOff s + ((hPay s).size - 1) / z * z / 8) (hp0 : 0 < (hPay s).size) : ∀ k, k < cntP (hPay s) z → ok4 (hTos s : Int) (hId s : Int) ((hOff s + k * z / 8 : Nat) : Int) (hTtl s : Int) (hProto s : Int) (hSrc s) (hDst s) (hOpt s) ∧ 20 + (hOpt s).size + (partP (hPay s) z k).size ≤ 65535 ∧ k * z ≤ 70000 ∧ (partP (hPay s) z k).size ≤ 70000 := by
  obtain ⟨⟨o1, o2, o3, o4, o5, o6, o7, o8, o9⟩, h2, h3, h4⟩ := Pure.got4_ok h
  obtain ⟨g1, g2, g3, g4, g5⟩ := Pure.err4_zero h
  intro k hk
  have a1 := (cntP_lt (hPay s) hz k).mp hk
  have a2 : k ≤ ((hPay s).size - 1) / z := by
    have := cntP_last (hPay s) hz hp0
    omega
  have a3 : k * z ≤ ((hPay s).size - 1) / z * z := Nat.mul_le_mul_right z a2
  have a4 : k * z / 8 ≤ ((hPay s).size - 1) / z * z / 8 := Nat.div_le_div_right a3
  have a5 : (hPay s).size = s.size - hl4 s := h4
  have a6 : (hOpt s).size = hl4 s - 20 := h3
  have a7 : (partP (hPay s) z k).size ≤ (hPay s).size := by rw [partP_size]; omega
  refine ⟨⟨o1, o2, ⟨Int.natCast_nonneg _, ?_⟩, o4, o5, o6, o7, o8, o9⟩, by omega, by omega, by omega⟩
  omega
theorem frag_Cut.calls (s : ByteArray) (mtu : Int) (r1 : List ByteArray) (r2 : Int) (w : World) (h : frag_Cut.f s mtu = some (r1, r2)) :
    Calls Try.prog 114 #[.string s, .int .i64 mtu] w fun e w' => ∃ v0_ : Value, e = .returned (.tuple #[v0_, .int .i64 r2]) ∧ Kd.R Kd.string 9 w' w.heap.size (fun _ => True) v0_ r1 ∧ Below w.heap.size w w' := by
  unfold frag_Cut.f at h
  split at h
  case isFalse => exact absurd h (by simp)
  rename_i hs
  obtain ⟨rfl, rfl⟩ := Prod.mk.inj (Option.some.inj h)
  clear h
  by_cases he : ip4Err s = 0
  case neg =>
    rw [cutL_bad (by rw [cutErr_bad he]; exact he), cutErr_bad he]
    exact cut_bad s mtu _ 0 0 0 0 0 false false ⟨#[]⟩ ⟨#[]⟩ ⟨#[]⟩ ⟨#[]⟩ _ (Pure.get4_bad hs he) rfl he w
  have hget := get4_f s hs he
  by_cases hr : 28 ≤ mtu ∧ mtu ≤ 65535
  case neg =>
    have e1 := cutErr_range he hr
    rw [cutL_bad (by rw [e1]; decide), e1]
    exact cut_range s mtu _ hget rfl hr w
  have e1 := cutErr_in he hr
  by_cases hl : (s.size : Int) ≤ mtu
  · rw [if_pos hl] at e1
    have e2 : cutL s mtu = [s] := by unfold cutL; rw [if_pos e1, if_pos hl]
    rw [e1, e2]
    exact cut_whole s mtu _ hget rfl hr hl w
  rw [if_neg hl] at e1
  cases hd : hDF s
  case true =>
    rw [if_pos hd] at e1
    rw [cutL_bad (by rw [e1]; decide), e1]
    exact cut_df s mtu _ hget rfl hr hl hd w
  rw [if_neg (by rw [hd]; decide)] at e1
  obtain ⟨m, rfl⟩ := Int.eq_ofNat_of_zero_le (show 0 ≤ mtu by omega)
  rw [Int.toNat_natCast] at e1
  obtain ⟨⟨o1, o2, o3, o4, o5, o6, o7, o8, o9⟩, h2, h3, h4⟩ := Pure.got4_ok he
  obtain ⟨g1, g2, g3, g4, g5⟩ := Pure.err4_zero he
  have a5 : (hPay s).size = s.size - hl4 s := h4
  have hpart : frag_Part.f (wrap64 ((s.size : Int) - ((hPay s).size : Int))) (m : Int) = some ((nF s m : Nat) : Int) := by
    rw [part_is s.size (hPay s).size m h2 (by omega) (by omega), a5, show s.size - (s.size - hl4 s) = hl4 s by omega]
    rfl
  have hoff : hOff s ≤ 8191 := by have := o3.2; exact Int.ofNat_le.mp this
  by_cases hz : nF s m = 0
  · rw [if_pos hz] at e1
    rw [cutL_bad (by rw [e1]; decide), e1]
    exact cut_none s _ _ hget hpart hr hl hd (by rw [hz]; rfl) w
  rw [if_neg hz] at e1
  have hz1 : 0 < nF s m := Nat.pos_of_ne_zero hz
  have hz2 : nF s m ≤ 65536 := by unfold nF; omega
  have hz3 : hl4 s + 8 ≤ m := by unfold nF at hz; omega
  have hp0 : 0 < (hPay s).size := by omega
  have hp : (hPay s).size ≤ 70000 := by omega
  by_cases hof : 8191 < hOff s + ((hPay s).size - 1) / nF s m * nF s m / 8
  · rw [if_pos hof] at e1
    rw [cutL_bad (by rw [e1]; decide), e1]
    exact cut_far s _ _ hget hpart hr hl hd _ rfl hz1 hz2 hp hp0 hof hoff w
  rw [if_neg hof] at e1
  have e2 : cutL s (m : Int) = (List.range (cntP (hPay s) (nF s m))).map (pieceF s (nF s m)) := by unfold cutL; rw [if_pos e1, if_neg hl, Int.toNat_natCast]
  rw [e1, e2]
  exact cut_main s _ _ hget hpart hr hl hd _ rfl hz1 hz2 hp hp0 hof hoff (piece_fits he hz1 hof hp0) w
end Go.Proofs.Ytejmipoolbodgaa.G
end

section
/- Plain facts of the pieces that frag.Cut makes: each is a packet with the packet's header, and a part of its payload. -/
namespace Go.Proofs.Ytejmipoolbodgaa.Pure
open Go.RowKit Go.Proofs.YtejmipoolbodgaaW.PrintWords Go.Proofs.YtejmipoolbodgaaW.PrintLast Go.Proofs.Ytejmipoolbodgaa.G Go.Proofs.Ytejmipoolbodgaa.Pal
set_option linter.unusedVariables false
/-- What ip4.Get tells of a packet, field by field. -/
theorem get4_parts {x : ByteArray} {a b c d e : Nat} {df mf : Bool} {s1 s2 o p : ByteArray} (h : ip4_Get.f x = some ((a : Int), (b : Int), (c : Int), (d : Int), (e : Int), df, mf, s1, s2, o, p, 0)) :
    ip4Err x = 0 ∧ hTos x = a ∧ hId x = b ∧ hOff x = c ∧ hTtl x = d ∧ hProto x = e ∧ hDF x = df ∧ hMF x = mf ∧ hSrc x = s1 ∧ hDst x = s2 ∧ hOpt x = o ∧ hPay x = p := by
  unfold ip4_Get.f at h
  split at h
  case isFalse => exact absurd h (by simp)
  by_cases he : ip4Err x = 0
  · rw [if_pos he] at h
    simp only [Option.some.injEq, Prod.mk.injEq, Int.ofNat_inj] at h
    obtain ⟨h1, h2, h3, h4, h5, h6, h7, h8, h9, h10, h11, _⟩ := h
    exact ⟨he, h1, h2, h3, h4, h5, h6, h7, h8, h9, h10, h11⟩
  · rw [if_neg he] at h
    simp only [Option.some.injEq, Prod.mk.injEq] at h
    exact absurd h.2.2.2.2.2.2.2.2.2.2.2 he
/-- x is the packet s cut down to the part t of its payload, that begins at a. -/
def PcOf (s x : ByteArray) (a : Nat) (t : ByteArray) : Prop :=
  ip4Err x = 0 ∧ hTos x = hTos s ∧ hId x = hId s ∧ hOff x = hOff s + a / 8 ∧ hTtl x = hTtl s ∧ hProto x = hProto s ∧ hDF x = hDF s ∧ hMF x = (hMF s || decide (a + t.size < (hPay s).size)) ∧ hSrc x = hSrc s ∧ hDst x = hDst s ∧ hOpt x = hOpt s ∧ hPay x = t
theorem sized4 {x : ByteArray} (h : ip4Err x = 0) : x.size ≤ 65535 ∧ 20 ≤ hl4 x ∧ hl4 x ≤ x.size ∧ hl4 x ≤ 60 ∧ (hOpt x).size = hl4 x - 20 ∧ (hPay x).size = x.size - hl4 x ∧ hOff x ≤ 8191 := by
  obtain ⟨_, h2, h3, h4⟩ := got4_ok h
  obtain ⟨g1, g2, g3, g4, g5⟩ := err4_zero h
  have : hl4 x ≤ 60 := by unfold hl4; omega
  exact ⟨h2, g3.1, g3.2.1, this, h3, h4, by unfold hOff; omega⟩
theorem PcOf.size {s x : ByteArray} {a : Nat} {t : ByteArray} (h : PcOf s x a t) (hs : ip4Err s = 0) : hl4 x = hl4 s ∧ x.size = hl4 s + t.size := by
  obtain ⟨h0, _, _, _, _, _, _, _, _, _, h10, h11⟩ := h
  have h1 := sized4 h0
  have h2 := sized4 hs
  rw [h10] at h1
  rw [h11] at h1
  omega
theorem PcOf.get {s x : ByteArray} {a : Nat} {t : ByteArray} (h : PcOf s x a t) : ip4_Get.f x = some ((hTos s : Int), (hId s : Int), ((hOff s + a / 8 : Nat) : Int), (hTtl s : Int), (hProto s : Int), hDF s, (hMF s || decide (a + t.size < (hPay s).size)), hSrc s, hDst s, hOpt s, t, 0) := by
  obtain ⟨h0, h1, h2, h3, h4, h5, h6, h7, h8, h9, h10, h11⟩ := h
  have hz := (sized4 h0).1
  rw [get4_f x (by omega) h0, h1, h2, h3, h4, h5, h6, h7, h8, h9, h10, h11]
theorem PcOf.refl {s : ByteArray} (h : ip4Err s = 0) : PcOf s s 0 (hPay s) :=
  ⟨h, rfl, rfl, by simp, rfl, rfl, rfl, by simp, rfl, rfl, rfl, rfl⟩
/-- A part of a part. -/
theorem PcOf.trans {s x y : ByteArray} {a b : Nat} {t u : ByteArray} (h : PcOf s x a t) (h2 : PcOf x y b u) (ha : a % 8 = 0) (hat : a + t.size ≤ (hPay s).size) (hbu : b + u.size ≤ t.size) : PcOf s y (a + b) u := by
  obtain ⟨h0, h1, h2', h3, h4, h5, h6, h7, h8, h9, h10, h11⟩ := h
  obtain ⟨g0, g1, g2', g3, g4, g5, g6, g7, g8, g9, g10, g11⟩ := h2
  refine ⟨g0, g1.trans h1, g2'.trans h2', ?_, g4.trans h4, g5.trans h5, g6.trans h6, ?_, g8.trans h8, g9.trans h9, g10.trans h10, g11⟩
  · rw [g3, h3]; omega
  · rw [g7, h7, h11]
    cases hMF s
    · simp only [Bool.false_or]
      by_cases hb : b + u.size < t.size
      · rw [decide_eq_true hb, Bool.or_true, decide_eq_true (by omega)]
      · rw [decide_eq_false hb, Bool.or_false]
        apply decide_eq_decide.mpr
        omega
    · simp
theorem nF_eight (s : ByteArray) (m : Nat) : nF s m % 8 = 0 := by unfold nF; omega
theorem nF_le (s : ByteArray) (m : Nat) (h : 0 < nF s m) : hl4 s + nF s m ≤ m := by unfold nF at h ⊢; omega
theorem cutErr_ok {s : ByteArray} {m : Int} (h : cutErr s m = 0) : ip4Err s = 0 ∧ 28 ≤ m ∧ m ≤ 65535 := by
  unfold cutErr at h
  split at h
  · rename_i he
    split at h
    · rename_i hm; exact ⟨he, hm⟩
    · exact absurd h (by decide)
  · rename_i he; exact absurd h he
theorem cutErr_cut {s : ByteArray} {m : Int} (h : cutErr s m = 0) (hl : ¬ (s.size : Int) ≤ m) : hDF s = false ∧ 0 < nF s m.toNat ∧ ¬ 8191 < hOff s + ((hPay s).size - 1) / nF s m.toNat * nF s m.toNat / 8 := by
  obtain ⟨he, hm⟩ := cutErr_ok h
  rw [cutErr_in he hm, if_neg hl] at h
  split at h
  · exact absurd h (by decide)
  · rename_i hd
    split at h
    · exact absurd h (by decide)
    · rename_i hz
      split at h
      · exact absurd h (by decide)
      · rename_i ho; exact ⟨by simpa using hd, Nat.pos_of_ne_zero hz, ho⟩
theorem pieceF_is {s : ByteArray} (he : ip4Err s = 0) {z k : Nat} (hz8 : z % 8 = 0) (hok : ok4 (hTos s : Int) (hId s : Int) ((hOff s + k * z / 8 : Nat) : Int) (hTtl s : Int) (hProto s : Int) (hSrc s) (hDst s) (hOpt s)) (hsz : 20 + (hOpt s).size + (partP (hPay s) z k).size ≤ 65535) :
    PcOf s (pieceF s z k) (k * z) (partP (hPay s) z k) :=
  get4_parts (get_put4 hok hsz (bl4_mk _))
/-- The pieces, one behind the other. -/
theorem cut_tiles {s : ByteArray} {m : Int} (h : cutErr s m = 0) : ∃ (K : Nat) (at_ : Nat → Nat), 0 < K ∧ (cutL s m).length = K ∧ at_ 0 = 0 ∧ at_ K = (hPay s).size ∧ ∀ i, i < K → at_ i % 8 = 0 ∧ at_ i ≤ at_ (i + 1) ∧ at_ (i + 1) ≤ (hPay s).size ∧ (i + 1 < K → (at_ (i + 1) - at_ i) % 8 = 0 ∧ at_ i < at_ (i + 1) ∧ at_ (i + 1) < (hPay s).size) ∧
    PcOf s (rdOf ByteArray.empty (cutL s m) (i : Int)) (at_ i) ((hPay s).extract (at_ i) (at_ (i + 1))) ∧ ((rdOf ByteArray.empty (cutL s m) (i : Int)).size : Int) ≤ m := by
  obtain ⟨he, hm⟩ := cutErr_ok h
  by_cases hl : (s.size : Int) ≤ m
  · have e : cutL s m = [s] := by unfold cutL; rw [if_pos h, if_pos hl]
    refine ⟨1, fun i => i * (hPay s).size, by decide, by rw [e]; rfl, by simp, by simp, ?_⟩
    intro i hi
    obtain rfl : i = 0 := by omega
    refine ⟨by simp, by simp, by simp, fun hh => absurd hh (by decide), ?_, ?_⟩
    · rw [e]
      simp only [Nat.zero_mul, Nat.zero_add, Nat.one_mul]
      rw [show (hPay s).extract 0 (hPay s).size = hPay s from ByteArray.ext (by rw [ByteArray.data_extract]; exact Array.extract_eq_self_of_le (Nat.le_refl _))]
      exact PcOf.refl he
    · rw [e]; exact hl
  · obtain ⟨hd, hz, ho⟩ := cutErr_cut h hl
    have e : cutL s m = (List.range (cntP (hPay s) (nF s m.toNat))).map (pieceF s (nF s m.toNat)) := by unfold cutL; rw [if_pos h, if_neg hl]
    have hle := nF_le s m.toNat hz
    have h8 := nF_eight s m.toNat
    have hsz := sized4 he
    generalize nF s m.toNat = z at hz ho e hle h8
    have hp0 : 0 < (hPay s).size := by omega
    have fits := piece_fits he hz ho hp0
    have hc := cntP_pos (hPay s) hz hp0
    refine ⟨cntP (hPay s) z, fun i => min (i * z) (hPay s).size, hc, by rw [e]; simp, by simp, ?_, ?_⟩
    · have h0 : ¬ cntP (hPay s) z * z < (hPay s).size := fun hh => Nat.lt_irrefl _ ((cntP_lt (hPay s) hz _).mpr hh)
      show min _ _ = _
      omega
    · intro i hi
      have a1 := (cntP_lt (hPay s) hz i).mp hi
      have a2 : i * z % 8 = 0 := by rw [Nat.mul_mod, h8]; simp
      obtain ⟨f1, f2, f3, f4⟩ := fits i hi
      have pc := pieceF_is he h8 f1 f2
      have er : rdOf ByteArray.empty (cutL s m) (i : Int) = pieceF s z i := by
        rw [e]; unfold rdOf
        rw [Int.toNat_natCast, List.getD_eq_getElem?_getD, List.getElem?_map, List.getElem?_range hi]
        rfl
      have ep : (hPay s).extract (min (i * z) (hPay s).size) (min ((i + 1) * z) (hPay s).size) = partP (hPay s) z i := by
        unfold partP
        rw [Nat.min_eq_left (by omega), Nat.succ_mul]
      have psz := partP_size (hPay s) z i
      have es : (i + 1) * z = i * z + z := Nat.succ_mul _ _
      have ps := pc.size he
      refine ⟨?_, ?_, Nat.min_le_right _ _, ?_, ?_, ?_⟩
      · show min _ _ % 8 = 0
        rw [Nat.min_eq_left (by omega)]; exact a2
      · show min _ _ ≤ min _ _
        omega
      · intro hh
        have a3 := (cntP_lt (hPay s) hz (i + 1)).mp hh
        show (min _ _ - min _ _) % 8 = 0 ∧ min _ _ < min _ _ ∧ min _ _ < _
        omega
      · show PcOf s _ (min _ _) (ByteArray.extract _ (min _ _) (min _ _))
        rw [er, ep, Nat.min_eq_left (by omega : i * z ≤ (hPay s).size)]
        exact pc
      · rw [er]; omega
theorem cutL_len {s : ByteArray} (m : Int) : (cutL s m).length ≤ s.size + 1 := by
  unfold cutL
  split
  · rename_i h
    split
    · simp
    · rename_i hl
      obtain ⟨hd, hz, ho⟩ := cutErr_cut h hl
      have h4 := sized4 (cutErr_ok h).1
      rw [List.length_map, List.length_range]
      have h1 : ¬ (hPay s).size < cntP (hPay s) (nF s m.toNat) := fun hh => by
        have h2 := (cntP_lt (hPay s) hz _).mp hh
        have h3 : (hPay s).size * 1 ≤ (hPay s).size * nF s m.toNat := Nat.mul_le_mul_left _ hz
        omega
      omega
  · simp
theorem cutL_one {x : ByteArray} {m : Int} (he : ip4Err x = 0) (hm : 28 ≤ m ∧ m ≤ 65535) (hl : (x.size : Int) ≤ m) : cutErr x m = 0 ∧ cutL x m = [x] := by
  have e := cutErr_in he hm
  rw [if_pos hl] at e
  exact ⟨e, by unfold cutL; rw [if_pos e, if_pos hl]⟩
end Go.Proofs.Ytejmipoolbodgaa.Pure
end

section
namespace Go.Proofs.Ytejmipoolbodgaa.G
open Go.RowKit Go.Proofs.YtejmipoolbodgaaW.PrintWords Go.Proofs.YtejmipoolbodgaaW.PrintLast Go.Proofs.YtejmipoolbodgaaW.PrintMore
attribute [local go_sem] max2_int min2_int max_two min_two max_three min_three max_four min_four   -- for this text's walks alone
set_option linter.unusedVariables false
set_option linter.unusedSimpArgs false

def palanquinref01_Bytes.l0 : Nat → Int → Int → ByteArray → Int → Option (ByteArray)
 | 0, _, _, _, _ => none
 | k + 1, x0, x1, x5, x6 => if x6 < x1 then ((some (([(Int.tmod x0 256) % 256] : List Int) : List Int)).bind fun y184 => (if (strOfNums y184).size + x5.size ≤ 9223372036854775807 then (palanquinref01_Bytes.l0 k (IntKind.u64.wrap (Int.tdiv x0 256)) x1 ((strOfNums y184) ++ x5) (wrap64 (x6 + 1))) else (none))) else (some x5)
def palanquinref01_Bytes.f (k : Nat) (a0 : Int) (a1 : Int) : Option (ByteArray) := palanquinref01_Bytes.l0 k a0 a1 (⟨#[]⟩ : ByteArray) 0
theorem palanquinref01_Bytes.mono_l : ∀ k, (∀ y0 y1 y2 y3, LeO (palanquinref01_Bytes.l0 k y0 y1 y2 y3) (palanquinref01_Bytes.l0 (k + 1) y0 y1 y2 y3))
 | 0 => fun _ _ _ _ r h => by simp [palanquinref01_Bytes.l0] at h
 | k + 1 => by
  have ih0 := palanquinref01_Bytes.mono_l k
  ·intro y0 y1 y2 y3
   unfold palanquinref01_Bytes.l0
   repeat' first
   | (with_reducible exact ih0 _ _ _ _)
   | (with_reducible exact LeO.refl _)
   | (with_reducible exact LeO.none _)
   | (with_reducible refine LeO.ite ?_ ?_)
   | (with_reducible refine LeO.bind ?_ (fun _ => ?_))
   | exact ih0 _ _ _ _
   | exact LeO.none _
   | refine LeO.ite ?_ ?_
   | refine LeO.bind ?_ (fun _ => ?_)
theorem palanquinref01_Bytes.mono : ∀ a0 a1 k, LeO (palanquinref01_Bytes.f k a0 a1) (palanquinref01_Bytes.f (k + 1) a0 a1) := by
 intro a0 a1 k
 have ih0 := palanquinref01_Bytes.mono_l k
 unfold palanquinref01_Bytes.f
 repeat' first
   | (with_reducible exact ih0 _ _ _ _)
   | (with_reducible exact LeO.refl _)
   | (with_reducible exact LeO.none _)
   | (with_reducible refine LeO.ite ?_ ?_)
   | (with_reducible refine LeO.bind ?_ (fun _ => ?_))
   | exact ih0 _ _ _ _
   | exact LeO.none _
   | refine LeO.ite ?_ ?_
   | refine LeO.bind ?_ (fun _ => ?_)
set_option maxHeartbeats 8000000 in
set_option maxRecDepth 100000 in
theorem palanquinref01_Bytes.calls (k : Nat) (a0 : Int) (a1 : Int) (r : ByteArray) (w : World) (h : palanquinref01_Bytes.f k a0 a1 = some r) :
  Calls Try.prog 124 #[.int .u64 a0, .int .i64 a1] w fun e w' => e = .returned (.string r) ∧ Below w.heap.size w w' := by
 have HB := mA (Below.refl w.heap.size w)
 have H : (palanquinref01_Bytes.l0 k a0 a1 (⟨#[]⟩ : ByteArray) 0) = some r := h
 clear h
 have H' := mA H
 clear H
 go_enter Try.func124, Try.ntmps124
 go_wp2
 go_loopg [0, 5, 6] k (fun kq v0 v5 v6 w' => ∃ (x0_1 : Int) (x5_1 : ByteArray) (x6_1 : Int), v0 = .int .u64 x0_1 ∧ v5 = .string x5_1 ∧ v6 = .int .i64 x6_1 ∧ Aside0 (palanquinref01_Bytes.l0 kq x0_1 a1 x5_1 x6_1 = some r) ∧ Aside0 (kq ≤ k) ∧ Aside0 (Below w.heap.size w w'))
 case atStart => exact ⟨(a0), ((⟨#[]⟩ : ByteArray)), (0), (by first | rfl | (simp; done) | (simp [*]; done)), (by first | rfl | (simp; done) | (simp [*]; done)), (by first | rfl | (simp; done) | (simp [*]; done)), H', ⟨Nat.le_refl _⟩, ⟨by repeat (first | (with_reducible first | exact HB.out | apply bA | apply bN | apply bD) | exact HB.out)⟩⟩
 case round =>
  clear H'
  try clear c1
  try clear p2
  obtain ⟨x0_1, x5_1, x6_1, rfl, rfl, rfl, HA, HK1, HB⟩ := hrel
  cases gk with
  | zero => exact absurd HA.out (by simp [palanquinref01_Bytes.l0])
  | succ k1 =>
   have H := HA.out
   clear HA
   simp only [palanquinref01_Bytes.l0] at H
   by_cases c3 : x6_1 < a1
   ·rw [if_pos c3] at H
    have c3b0 : decide (x6_1 < a1) = true := decide_eq_true c3
    clear c3
    obtain ⟨y184, hy184⟩ : ∃ y_ : List Int, y_ = (([(Int.tmod x0_1 256) % 256] : List Int)) := ⟨_, rfl⟩
    replace H : (if (strOfNums y184).size + x5_1.size ≤ 9223372036854775807 then (palanquinref01_Bytes.l0 k1 (IntKind.u64.wrap (Int.tdiv x0_1 256)) a1 ((strOfNums y184) ++ x5_1) (wrap64 (x6_1 + 1))) else (none)) = some r := by first | (rw [hy184]; with_reducible exact H) | (have H2_ := (Option.bind_some _ _).symm.trans H; rw [hy184]; with_reducible exact H2_) | (have H2_ := (Option.bind_some _ _).symm.trans H; with_reducible exact H2_) | with_reducible exact H | (rw [hy184]; exact H) | exact H
    have Ny184 := mA hy184
    clear hy184
    by_cases c4 : (strOfNums y184).size + x5_1.size ≤ 9223372036854775807
    ·rw [if_pos c4] at H
     have c4b0 := eq_true c4
     have c4b1 : decide ((strOfNums y184).size + x5_1.size ≤ 9223372036854775807) = true := decide_eq_true c4
     try have c4b2 : (9223372036854775807 < (strOfNums y184).size + x5_1.size) = False := eq_false (Nat.not_lt.2 c4)
     have H' := mA H
     clear H
     go_wp2_with (first | ((with_reducible refine gate_dst (N := 15) rfl ?_); refine Kd.R_lit (Kd.int .u8) _ 5 ?hg (N := 15) ?hd (xs := ([(Int.tmod x0_1 256) % 256] : List Int)) (inner := [.int .u8 ((Int.tmod x0_1 256) % 256)]) (ok := fun _ => True) (okp := fun _ => True) ?hr ?hp (fun _ hk => hk) trivial (Below.refl _ _) (Nat.le_refl _) (by simp) ?_; (case hd => rfl); (case hg => rfl); (case hr => first | (go_simp; done) | (go_simp; rfl)); (case hp => exact (Reps.one (show Kd.M (Kd.int .u8) _ _ _ ((Int.tmod x0_1 256) % 256) [.int .u8 ((Int.tmod x0_1 256) % 256)] from rfl) (Reps.none _ _))); intro v185 w5 ho6 hb hg_ hnew_; clear hg_ hnew_; (first | rw [← Ny184.out] at ho6 | (simp only [Int.reduceToNat] at ho6; rw [← Ny184.out] at ho6)); have n0_ := mA (Kd.R_lower ho6 (below_size (by repeat (first | (with_reducible first | exact HB.out | apply bA | apply bN | apply bD) | exact HB.out)))); have n1_ := mA (bP (by repeat (first | (with_reducible first | exact HB.out | apply bA | apply bN | apply bD) | exact HB.out)) hb); clear HB; have HO186 := n0_; have HB := n1_; clear n0_ n1_; clear hb ho6; have hcv7 := own_string (P := Try.prog) Try.underlying25 Try.underlying5 Try.underlying9 (Kd.own_of_R HO186.out)))
     go_roundg k1
     case measure => have := HK1.out; omega
     case rel => exact ⟨(IntKind.u64.wrap (Int.tdiv x0_1 256)), ((strOfNums y184) ++ x5_1), (wrap64 (x6_1 + 1)), (by first | rfl | (simp; done) | (simp [*]; done)), (by first | rfl | (simp; done) | (simp [*]; done)), (by first | rfl | (simp; done) | (simp [*]; done)), H', ⟨by have := HK1.out; omega⟩, ⟨by repeat (first | (with_reducible first | exact HB.out | apply bA | apply bN | apply bD) | exact HB.out)⟩⟩
    ·rw [if_neg c4] at H
     exact absurd H (by simp)
   ·rw [if_neg c3] at H
    have c3b0 : decide (x6_1 < a1) = false := decide_eq_false c3
    clear c3
    obtain rfl := Option.some.inj H
    go_wp2
    go_ret
    exact ⟨by first | rfl | (simp [errW_none, errW_some] <;> rfl) | (simp [*, errW_none, errW_some] <;> rfl), by repeat (first | (with_reducible first | exact HB.out | apply bA | apply bN | apply bD) | exact HB.out)⟩

def palanquinref01_Size.f (a0 : Int) : Option (Int) := if a0 = 0 then (some 1) else (if a0 = 1 then (some 2) else (if a0 = 2 then (some 4) else (some 8)))
set_option maxHeartbeats 8000000 in
set_option maxRecDepth 100000 in
theorem palanquinref01_Size.calls (a0 : Int) (r : Int) (w : World) (h : palanquinref01_Size.f a0 = some r) :
  Calls Try.prog 82 #[.int .i64 a0] w fun e w' => e = .returned (.int .i64 r) ∧ Drawn0 w w' := by
 have H : (if a0 = 0 then (some 1) else (if a0 = 1 then (some 2) else (if a0 = 2 then (some 4) else (some 8)))) = some r := h
 clear h
 by_cases c2 : a0 = 0
 ·rw [if_pos c2] at H
  have c2b0 : (a0 == 0) = true := beq_iff_eq.mpr c2
  have c2b1 : (a0 != 0) = false := bne_eq_false_iff_eq.mpr c2
  clear c2
  obtain rfl := Option.some.inj H
  go_enter Try.func82, Try.ntmps82
  go_wp2
  go_ret
  exact ⟨by first | rfl | (simp; done) | (simp [*]; done), by repeat (first | exact Drawn0.refl _ | apply Drawn0.step)⟩
 ·rw [if_neg c2] at H
  have c2b0 : (a0 == 0) = false := beq_eq_false_iff_ne.mpr c2
  have c2b1 : (a0 != 0) = true := bne_iff_ne.mpr c2
  by_cases c3 : a0 = 1
  ·rw [if_pos c3] at H
   have c3b0 : (a0 == 1) = true := beq_iff_eq.mpr c3
   have c3b1 : (a0 != 1) = false := bne_eq_false_iff_eq.mpr c3
   clear c3
   obtain rfl := Option.some.inj H
   go_enter Try.func82, Try.ntmps82
   go_wp2
   go_ret
   exact ⟨by first | rfl | (simp; done) | (simp [*]; done), by repeat (first | exact Drawn0.refl _ | apply Drawn0.step)⟩
  ·rw [if_neg c3] at H
   have c3b0 : (a0 == 1) = false := beq_eq_false_iff_ne.mpr c3
   have c3b1 : (a0 != 1) = true := bne_iff_ne.mpr c3
   by_cases c4 : a0 = 2
   ·rw [if_pos c4] at H
    have c4b0 : (a0 == 2) = true := beq_iff_eq.mpr c4
    have c4b1 : (a0 != 2) = false := bne_eq_false_iff_eq.mpr c4
    clear c4
    obtain rfl := Option.some.inj H
    go_enter Try.func82, Try.ntmps82
    go_wp2
    go_ret
    exact ⟨by first | rfl | (simp; done) | (simp [*]; done), by repeat (first | exact Drawn0.refl _ | apply Drawn0.step)⟩
   ·rw [if_neg c4] at H
    have c4b0 : (a0 == 2) = false := beq_eq_false_iff_ne.mpr c4
    have c4b1 : (a0 != 2) = true := bne_iff_ne.mpr c4
    obtain rfl := Option.some.inj H
    go_enter Try.func82, Try.ntmps82
    go_wp2
    go_ret
    exact ⟨by first | rfl | (simp; done) | (simp [*]; done), by repeat (first | exact Drawn0.refl _ | apply Drawn0.step)⟩

def palanquinref01_Value.l0 : Nat → ByteArray → Int → Int → Option (Int)
 | 0, _, _, _ => none
 | k + 1, x0, x3, x4 => if x4 < (x0.size : Int) then (if 0 ≤ x4 then (palanquinref01_Value.l0 k x0 (IntKind.u64.wrap ((IntKind.u64.wrap (x3 * 256)) + (IntKind.u64.wrap (bt x0 x4)))) (wrap64 (x4 + 1))) else (none)) else (some x3)
def palanquinref01_Value.f (k : Nat) (a0 : ByteArray) : Option (Int) := palanquinref01_Value.l0 k a0 0 0
theorem palanquinref01_Value.mono_l : ∀ k, (∀ y0 y1 y2, LeO (palanquinref01_Value.l0 k y0 y1 y2) (palanquinref01_Value.l0 (k + 1) y0 y1 y2))
 | 0 => fun _ _ _ r h => by simp [palanquinref01_Value.l0] at h
 | k + 1 => by
  have ih0 := palanquinref01_Value.mono_l k
  ·intro y0 y1 y2
   unfold palanquinref01_Value.l0
   repeat' first
   | (with_reducible exact ih0 _ _ _)
   | (with_reducible exact LeO.refl _)
   | (with_reducible exact LeO.none _)
   | (with_reducible refine LeO.ite ?_ ?_)
   | (with_reducible refine LeO.bind ?_ (fun _ => ?_))
   | exact ih0 _ _ _
   | exact LeO.none _
   | refine LeO.ite ?_ ?_
   | refine LeO.bind ?_ (fun _ => ?_)
theorem palanquinref01_Value.mono : ∀ a0 k, LeO (palanquinref01_Value.f k a0) (palanquinref01_Value.f (k + 1) a0) := by
 intro a0 k
 have ih0 := palanquinref01_Value.mono_l k
 unfold palanquinref01_Value.f
 repeat' first
   | (with_reducible exact ih0 _ _ _)
   | (with_reducible exact LeO.refl _)
   | (with_reducible exact LeO.none _)
   | (with_reducible refine LeO.ite ?_ ?_)
   | (with_reducible refine LeO.bind ?_ (fun _ => ?_))
   | exact ih0 _ _ _
   | exact LeO.none _
   | refine LeO.ite ?_ ?_
   | refine LeO.bind ?_ (fun _ => ?_)
set_option maxHeartbeats 8000000 in
set_option maxRecDepth 100000 in
theorem palanquinref01_Value.calls (k : Nat) (a0 : ByteArray) (r : Int) (w : World) (h : palanquinref01_Value.f k a0 = some r) :
  Calls Try.prog 132 #[.string a0] w fun e w' => e = .returned (.int .u64 r) ∧ Drawn0 w w' := by
 have H : (palanquinref01_Value.l0 k a0 0 0) = some r := h
 clear h
 have H' := mA H
 clear H
 go_enter Try.func132, Try.ntmps132
 go_wp2
 go_loopg [3, 4] k (fun kq v3 v4 w' => ∃ (x3_1 : Int) (x4_1 : Int), v3 = .int .u64 x3_1 ∧ v4 = .int .i64 x4_1 ∧ Aside0 (palanquinref01_Value.l0 kq a0 x3_1 x4_1 = some r) ∧ Aside0 (kq ≤ k) ∧ Drawn0 w w')
 case atStart => exact ⟨(0), (0), (by first | rfl | (simp; done) | (simp [*]; done)), (by first | rfl | (simp; done) | (simp [*]; done)), H', ⟨Nat.le_refl _⟩, by repeat (first | exact Drawn0.refl _ | apply Drawn0.step)⟩
 case round =>
  clear H'
  try clear c1
  obtain ⟨x3_1, x4_1, rfl, rfl, HA, HK1, ⟨m1, rfl⟩⟩ := hrel
  cases gk with
  | zero => exact absurd HA.out (by simp [palanquinref01_Value.l0])
  | succ k1 =>
   have H := HA.out
   clear HA
   simp only [palanquinref01_Value.l0] at H
   by_cases c2 : x4_1 < (a0.size : Int)
   ·rw [if_pos c2] at H
    have c2b0 : decide (x4_1 < (a0.size : Int)) = true := decide_eq_true c2
    clear c2
    by_cases c3 : 0 ≤ x4_1
    ·rw [if_pos c3] at H
     have c3b0 : decide (0 ≤ x4_1) = true := decide_eq_true c3
     clear c3
     have H' := mA H
     clear H
     have p4 : 0 ≤ (x4_1 : Int) := of_decide_eq_true (by first | (with_reducible assumption) | assumption)
     have q4 : x4_1 < (a0.size : Int) := of_decide_eq_true (by first | (with_reducible assumption) | assumption)
     have hx4 := bt_at a0 x4_1
     replace p4 := eq_true p4
     replace q4 := eq_true q4
     go_wp2
     go_roundg k1
     case measure => have := HK1.out; omega
     case rel => exact ⟨(IntKind.u64.wrap ((IntKind.u64.wrap (x3_1 * 256)) + (IntKind.u64.wrap (bt a0 x4_1)))), (wrap64 (x4_1 + 1)), (by first | rfl | (simp; done) | (simp [*]; done)), (by first | rfl | (simp; done) | (simp [*]; done)), H', ⟨by have := HK1.out; omega⟩, by repeat (first | exact Drawn0.refl _ | apply Drawn0.step)⟩
    ·rw [if_neg c3] at H
     exact absurd H (by simp)
   ·rw [if_neg c2] at H
    have c2b0 : decide (x4_1 < (a0.size : Int)) = false := decide_eq_false c2
    clear c2
    obtain rfl := Option.some.inj H
    go_wp2
    go_ret
    exact ⟨by first | rfl | (simp; done) | (simp [*]; done), by repeat (first | exact Drawn0.refl _ | apply Drawn0.step)⟩

mutual
def palanquinref01_Write.l0 : Nat → List (S87) → ByteArray → Int → Option (ByteArray)
 | 0, _, _, _ => none
 | k + 1, x0, x3, x4 => if x4 < (x0.length : Int) then (if 0 ≤ x4 then (if ((rd_T87 x0 x4).f0) ≥ 0 then (palanquinref01_Write.j1 k x0 x3 x4 (decide (((rd_T87 x0 x4).f0) ≤ 3))) else (palanquinref01_Write.j1 k x0 x3 x4 false)) else (none)) else (some x3)
def palanquinref01_Write.j1 : Nat → List (S87) → ByteArray → Int → Bool → Option (ByteArray)
 | 0, _, _, _, _ => none
 | k + 1, x0, x3, x4, x24 => if x24 = true then (if 0 ≤ x4 then (if x4 < (x0.length : Int) then ((palanquinref01_Size.f ((rd_T87 x0 x4).f0)).bind fun t378 => ((palanquinref01_Bytes.f k ((rd_T87 x0 x4).f2) t378).bind fun t379 => (if x3.size + t379.size ≤ 9223372036854775807 then (palanquinref01_Write.l0 k x0 (x3 ++ t379) (wrap64 (x4 + 1))) else (none)))) else (none)) else (none)) else (if 0 ≤ x4 then (if x4 < (x0.length : Int) then (if x3.size + ((rd_T87 x0 x4).f3).size ≤ 9223372036854775807 then (palanquinref01_Write.l0 k x0 (x3 ++ ((rd_T87 x0 x4).f3)) (wrap64 (x4 + 1))) else (none)) else (none)) else (none))
end
def palanquinref01_Write.f (k : Nat) (l0 : List (S87)) : Option (ByteArray) := palanquinref01_Write.l0 k l0 (⟨#[]⟩ : ByteArray) 0
theorem palanquinref01_Write.mono_l : ∀ k, (∀ y0 y1 y2, LeO (palanquinref01_Write.l0 k y0 y1 y2) (palanquinref01_Write.l0 (k + 1) y0 y1 y2)) ∧ (∀ y0 y1 y2 y3, LeO (palanquinref01_Write.j1 k y0 y1 y2 y3) (palanquinref01_Write.j1 (k + 1) y0 y1 y2 y3))
 | 0 => ⟨fun _ _ _ r h => by simp [palanquinref01_Write.l0] at h, fun _ _ _ _ r h => by simp [palanquinref01_Write.j1] at h⟩
 | k + 1 => by
  obtain ⟨ih0, ih1⟩ := palanquinref01_Write.mono_l k
  refine ⟨?_, ?_⟩
  ·intro y0 y1 y2
   unfold palanquinref01_Write.l0
   repeat' first
   | (with_reducible exact ih0 _ _ _)
   | (with_reducible exact ih1 _ _ _ _)
   | (with_reducible exact palanquinref01_Bytes.mono _ _ _)
   | (with_reducible exact LeO.refl _)
   | (with_reducible exact LeO.none _)
   | (with_reducible refine LeO.ite ?_ ?_)
   | (with_reducible refine LeO.bind ?_ (fun _ => ?_))
   | exact ih0 _ _ _
   | exact ih1 _ _ _ _
   | exact palanquinref01_Bytes.mono _ _ _
   | exact LeO.none _
   | refine LeO.ite ?_ ?_
   | refine LeO.bind ?_ (fun _ => ?_)
  ·intro y0 y1 y2 y3
   unfold palanquinref01_Write.j1
   repeat' first
   | (with_reducible exact ih0 _ _ _)
   | (with_reducible exact ih1 _ _ _ _)
   | (with_reducible exact palanquinref01_Bytes.mono _ _ _)
   | (with_reducible exact LeO.refl _)
   | (with_reducible exact LeO.none _)
   | (with_reducible refine LeO.ite ?_ ?_)
   | (with_reducible refine LeO.bind ?_ (fun _ => ?_))
   | exact ih0 _ _ _
   | exact ih1 _ _ _ _
   | exact palanquinref01_Bytes.mono _ _ _
   | exact LeO.none _
   | refine LeO.ite ?_ ?_
   | refine LeO.bind ?_ (fun _ => ?_)
theorem palanquinref01_Write.mono : ∀ a0 k, LeO (palanquinref01_Write.f k a0) (palanquinref01_Write.f (k + 1) a0) := by
 intro a0 k
 obtain ⟨ih0, ih1⟩ := palanquinref01_Write.mono_l k
 unfold palanquinref01_Write.f
 repeat' first
   | (with_reducible exact ih0 _ _ _)
   | (with_reducible exact ih1 _ _ _ _)
   | (with_reducible exact palanquinref01_Bytes.mono _ _ _)
   | (with_reducible exact LeO.refl _)
   | (with_reducible exact LeO.none _)
   | (with_reducible refine LeO.ite ?_ ?_)
   | (with_reducible refine LeO.bind ?_ (fun _ => ?_))
   | exact ih0 _ _ _
   | exact ih1 _ _ _ _
   | exact palanquinref01_Bytes.mono _ _ _
   | exact LeO.none _
   | refine LeO.ite ?_ ?_
   | refine LeO.bind ?_ (fun _ => ?_)
def palanquinref01_Write.T6 : Bool × List (List Nat × List Nat) := (true, [([], []), ([], []), ([], []), ([1, 2], [1, 2]), ([3], [3]), ([4], [4]), ([], []), ([], []), ([6, 7], [6, 7]), ([8], [8]), ([9], [9]), ([10], [10]), ([5, 11, 11], [5, 11]), ([0, 12], [0, 12]), ([13, 12, 0, 1, 2, 3, 4, 5, 6, 7, 8, 9, 10, 11, 12, 13], [0, 13])])
def palanquinref01_Write.B6 : List Nat := [0, 0, 0, 6, 14, 30, 0, 0, 192, 448, 960, 1984, 4094, 8191, 16383]
theorem palanquinref01_Write.tab6 : rtab .any (opsOf Try.f79 6) = palanquinref01_Write.T6 := by kernel_rfl
theorem palanquinref01_Write.bits6 : waitsOk palanquinref01_Write.T6.2 palanquinref01_Write.B6 = true := by kernel_rfl
set_option maxHeartbeats 8000000 in
set_option maxRecDepth 100000 in
theorem palanquinref01_Write.calls (k : Nat) (A0 : Option Addr) (c0 : Nat) (l0 : List (S87)) (r : ByteArray) (w : World) (hr0 : Kd.C k87 w A0 l0.length l0) (hc0 : l0.length ≤ c0) (h : palanquinref01_Write.f k l0 = some r) :
  Calls Try.prog 79 #[.slice A0 l0.length c0] w fun e w' => e = .returned (.string r) ∧ Below w.heap.size w w' := by
 have HR0 := mA hr0
 have HC0 := mA hc0
 clear hr0 hc0
 have HB := mA (Below.refl w.heap.size w)
 have H : (palanquinref01_Write.l0 k l0 (⟨#[]⟩ : ByteArray) 0) = some r := h
 clear h
 have H' := mA H
 clear H
 go_enter Try.func79, Try.ntmps79
 go_wp2
 go_loopg [3, 4] k (fun kq v3 v4 w' => ∃ (x3_1 : ByteArray) (x4_1 : Int), v3 = .string x3_1 ∧ v4 = .int .i64 x4_1 ∧ Aside0 (palanquinref01_Write.l0 kq l0 x3_1 x4_1 = some r) ∧ Aside0 (kq ≤ k) ∧ Aside0 (Below w.heap.size w w'))
 case atStart => exact ⟨((⟨#[]⟩ : ByteArray)), (0), (by first | rfl | (simp; done) | (simp [*]; done)), (by first | rfl | (simp; done) | (simp [*]; done)), H', ⟨Nat.le_refl _⟩, ⟨by repeat (first | (with_reducible first | exact HB.out | apply bA | apply bN | apply bD) | exact HB.out)⟩⟩
 case round =>
  clear H'
  obtain ⟨x3_1, x4_1, rfl, rfl, HA, HK1, HB⟩ := hrel
  cases gk with
  | zero => exact absurd HA.out (by simp [palanquinref01_Write.l0])
  | succ k1 =>
   have H := HA.out
   clear HA
   simp only [palanquinref01_Write.l0] at H
   by_cases c2 : x4_1 < (l0.length : Int)
   ·rw [if_pos c2] at H
    have c2b0 : decide (x4_1 < (l0.length : Int)) = true := decide_eq_true c2
    clear c2
    have HC3 := mA H
    clear H
    go_upto_region 5 with (fail)
    go_cut [24] (fun v24 wc => ∃ (kq : Nat) (x24_2 : Bool), v24 = .bool x24_2 ∧ Aside0 (palanquinref01_Write.j1 kq l0 x3_1 x4_1 x24_2 = some r) ∧ Aside0 (kq ≤ k1) ∧ Aside0 (Below w.heap.size w wc))
    case first =>
     have H := HC3.out
     clear HC3
     by_cases c4 : 0 ≤ x4_1
     ·rw [if_pos c4] at H
      have c4b0 : decide (0 ≤ x4_1) = true := decide_eq_true c4
      clear c4
      (first | rw [c4b0] | (simp only [i64_w, i32_w]; rw [c4b0]) | skip)
      by_cases c5 : ((rd_T87 l0 x4_1).f0) ≥ 0
      ·rw [if_pos c5] at H
       have c5b0 : decide (0 ≤ ((rd_T87 l0 x4_1).f0)) = true := decide_eq_true c5
       clear c5
       have H' := mA H
       clear H
       have p374 : 0 ≤ (x4_1 : Int) := of_decide_eq_true (by first | (with_reducible assumption) | assumption)
       have q374 : x4_1 < (l0.length : Int) := of_decide_eq_true (by first | (with_reducible assumption) | assumption)
       obtain ⟨ad374, e374, hx374_0, hx374_1, hx374_2, hx374_3⟩ := at_T87 HR0.out x4_1 p374 q374
       cases e374
       replace hx374_0 := (HB.out.cell (World.block_lt_of_cell? w _ hx374_0)).trans hx374_0
       replace hx374_1 := (HB.out.cell (World.block_lt_of_cell? w _ hx374_1)).trans hx374_1
       replace hx374_2 := (HB.out.cell (World.block_lt_of_cell? w _ hx374_2)).trans hx374_2
       replace hx374_3 := (HB.out.cell (World.block_lt_of_cell? w _ hx374_3)).trans hx374_3
       replace p374 := eq_true p374
       replace q374 := eq_true q374
       have p375 : 0 ≤ (x4_1 : Int) := of_decide_eq_true (by first | (with_reducible assumption) | assumption)
       have q375 : x4_1 < (l0.length : Int) := of_decide_eq_true (by first | (with_reducible assumption) | assumption)
       obtain ⟨ad375, e375, hx375_0, hx375_1, hx375_2, hx375_3⟩ := at_T87 HR0.out x4_1 p375 q375
       obtain rfl : ad374 = ad375 := (by injection e375)
       replace hx375_0 := (HB.out.cell (World.block_lt_of_cell? w _ hx375_0)).trans hx375_0
       replace hx375_1 := (HB.out.cell (World.block_lt_of_cell? w _ hx375_1)).trans hx375_1
       replace hx375_2 := (HB.out.cell (World.block_lt_of_cell? w _ hx375_2)).trans hx375_2
       replace hx375_3 := (HB.out.cell (World.block_lt_of_cell? w _ hx375_3)).trans hx375_3
       replace p375 := eq_true p375
       replace q375 := eq_true q375
       go_wp2
       go_meet
       case rel => exact ⟨_, (decide (((rd_T87 l0 x4_1).f0) ≤ 3)), (by first | rfl | (simp; done) | (simp [*]; done)), H', ⟨by have := HK1.out; first | omega | exact Nat.le_refl _⟩, ⟨by repeat (first | (with_reducible first | exact HB.out | apply bA | apply bN | apply bD) | exact HB.out)⟩⟩
      ·rw [if_neg c5] at H
       have c5b0 : decide (0 ≤ ((rd_T87 l0 x4_1).f0)) = false := decide_eq_false c5
       clear c5
       have H' := mA H
       clear H
       have p374 : 0 ≤ (x4_1 : Int) := of_decide_eq_true (by first | (with_reducible assumption) | assumption)
       have q374 : x4_1 < (l0.length : Int) := of_decide_eq_true (by first | (with_reducible assumption) | assumption)
       obtain ⟨ad374, e374, hx374_0, hx374_1, hx374_2, hx374_3⟩ := at_T87 HR0.out x4_1 p374 q374
       cases e374
       replace hx374_0 := (HB.out.cell (World.block_lt_of_cell? w _ hx374_0)).trans hx374_0
       replace hx374_1 := (HB.out.cell (World.block_lt_of_cell? w _ hx374_1)).trans hx374_1
       replace hx374_2 := (HB.out.cell (World.block_lt_of_cell? w _ hx374_2)).trans hx374_2
       replace hx374_3 := (HB.out.cell (World.block_lt_of_cell? w _ hx374_3)).trans hx374_3
       replace p374 := eq_true p374
       replace q374 := eq_true q374
       go_wp2
       go_meet
       case rel => exact ⟨_, (false), (by first | rfl | (simp; done) | (simp [*]; done)), H', ⟨by have := HK1.out; first | omega | exact Nat.le_refl _⟩, ⟨by repeat (first | (with_reducible first | exact HB.out | apply bA | apply bN | apply bD) | exact HB.out)⟩⟩
     ·rw [if_neg c4] at H
      exact absurd H (by simp)
    case rest =>
     clear HC3
     try clear c2
     try clear c2b0
     try clear p2
     try clear p3
     try clear q3
     try clear hx3
     try clear c4
     try clear c4b0
     try clear c5
     try clear c5b0
     try clear hx374_0
     try clear hx374_1
     try clear hx374_2
     try clear hx374_3
     try clear hx375_0
     try clear hx375_1
     try clear hx375_2
     try clear hx375_3
     try clear p374
     try clear p375
     try clear q374
     try clear q375
     obtain ⟨kq, x24_2, rfl, HA, HJ2, HB⟩ := hcut
     cases kq with
     | zero => exact absurd HA.out (by simp [palanquinref01_Write.j1])
     | succ kj2 =>
      have H := HA.out
      clear HA
      simp only [palanquinref01_Write.j1] at H
      by_cases c6 : x24_2 = true
      ·subst c6
       have H1 : (if 0 ≤ x4_1 then (if x4_1 < (l0.length : Int) then ((palanquinref01_Size.f ((rd_T87 l0 x4_1).f0)).bind fun t378 => ((palanquinref01_Bytes.f kj2 ((rd_T87 l0 x4_1).f2) t378).bind fun t379 => (if x3_1.size + t379.size ≤ 9223372036854775807 then (palanquinref01_Write.l0 kj2 l0 (x3_1 ++ t379) (wrap64 (x4_1 + 1))) else (none)))) else (none)) else (none)) = some r := by rw [if_pos rfl] at H; exact H
       clear H
       have H := H1
       clear H1
       by_cases c7 : 0 ≤ x4_1
       ·rw [if_pos c7] at H
        have c7b0 : decide (0 ≤ x4_1) = true := decide_eq_true c7
        clear c7
        by_cases c8 : x4_1 < (l0.length : Int)
        ·rw [if_pos c8] at H
         have c8b0 : decide (x4_1 < (l0.length : Int)) = true := decide_eq_true c8
         clear c8
         replace H := Option.bind_eq_some_iff.mp H
         obtain ⟨t378, A90, H⟩ := H
         replace H : ((palanquinref01_Bytes.f kj2 ((rd_T87 l0 x4_1).f2) t378).bind fun t379 => (if x3_1.size + t379.size ≤ 9223372036854775807 then (palanquinref01_Write.l0 kj2 l0 (x3_1 ++ t379) (wrap64 (x4_1 + 1))) else (none))) = some r := H
         have A9 := mA A90
         clear A90
         replace H := Option.bind_eq_some_iff.mp H
         obtain ⟨t379, A100, H⟩ := H
         replace H : (if x3_1.size + t379.size ≤ 9223372036854775807 then (palanquinref01_Write.l0 kj2 l0 (x3_1 ++ t379) (wrap64 (x4_1 + 1))) else (none)) = some r := H
         have A10 := mA A100
         clear A100
         by_cases c11 : x3_1.size + t379.size ≤ 9223372036854775807
         ·rw [if_pos c11] at H
          have c11b0 := eq_true c11
          have c11b1 : decide (x3_1.size + t379.size ≤ 9223372036854775807) = true := decide_eq_true c11
          try have c11b2 : (9223372036854775807 < x3_1.size + t379.size) = False := eq_false (Nat.not_lt.2 c11)
          have H' := mA H
          clear H
          try go_wp2
          have n0_ := mA (bD HB.out)
          clear HB
          have HB := n0_
          clear n0_
          have p376 : 0 ≤ (x4_1 : Int) := of_decide_eq_true (by first | (with_reducible assumption) | assumption)
          have q376 : x4_1 < (l0.length : Int) := of_decide_eq_true (by first | (with_reducible assumption) | assumption)
          obtain ⟨ad376, e376, hx376_0, hx376_1, hx376_2, hx376_3⟩ := at_T87 HR0.out x4_1 p376 q376
          have hw376_3 := hx376_3
          have hw376_2 := hx376_2
          have hw376_1 := hx376_1
          have hw376_0 := hx376_0
          cases e376
          replace hx376_0 := (HB.out.cell (World.block_lt_of_cell? w _ hx376_0)).trans hx376_0
          replace hx376_1 := (HB.out.cell (World.block_lt_of_cell? w _ hx376_1)).trans hx376_1
          replace hx376_2 := (HB.out.cell (World.block_lt_of_cell? w _ hx376_2)).trans hx376_2
          replace hx376_3 := (HB.out.cell (World.block_lt_of_cell? w _ hx376_3)).trans hx376_3
          replace p376 := eq_true p376
          replace q376 := eq_true q376
          have p377 : 0 ≤ (x4_1 : Int) := of_decide_eq_true (by first | (with_reducible assumption) | assumption)
          have q377 : x4_1 < (l0.length : Int) := of_decide_eq_true (by first | (with_reducible assumption) | assumption)
          obtain ⟨ad377, e377, hx377_0, hx377_1, hx377_2, hx377_3⟩ := at_T87 HR0.out x4_1 p377 q377
          have hw377_3 := hx377_3
          have hw377_2 := hx377_2
          have hw377_1 := hx377_1
          have hw377_0 := hx377_0
          obtain rfl : ad376 = ad377 := (by injection e377)
          replace hx377_0 := (HB.out.cell (World.block_lt_of_cell? w _ hx377_0)).trans hx377_0
          replace hx377_1 := (HB.out.cell (World.block_lt_of_cell? w _ hx377_1)).trans hx377_1
          replace hx377_2 := (HB.out.cell (World.block_lt_of_cell? w _ hx377_2)).trans hx377_2
          replace hx377_3 := (HB.out.cell (World.block_lt_of_cell? w _ hx377_3)).trans hx377_3
          replace p377 := eq_true p377
          replace q377 := eq_true q377
          refine start_ (n := 15) (S := fun w' => w'.cell? (ad376.add ((x4_1).toNat * 4)) = some (.int .i64 ((rd_T87 l0 x4_1).f0)) ∧ w'.cell? ⟨(ad376.add ((x4_1).toNat * 4)).block, (ad376.add ((x4_1).toNat * 4)).off + 1, none⟩ = some (.int .i64 ((rd_T87 l0 x4_1).f1)) ∧ w'.cell? ⟨(ad376.add ((x4_1).toNat * 4)).block, (ad376.add ((x4_1).toNat * 4)).off + 2, none⟩ = some (.int .u64 ((rd_T87 l0 x4_1).f2)) ∧ w'.cell? ⟨(ad376.add ((x4_1).toNat * 4)).block, (ad376.add ((x4_1).toNat * 4)).off + 3, none⟩ = some (.string ((rd_T87 l0 x4_1).f3)) ∧ w'.cell? (ad376.add ((x4_1).toNat * 4)) = some (.int .i64 ((rd_T87 l0 x4_1).f0)) ∧ w'.cell? ⟨(ad376.add ((x4_1).toNat * 4)).block, (ad376.add ((x4_1).toNat * 4)).off + 1, none⟩ = some (.int .i64 ((rd_T87 l0 x4_1).f1)) ∧ w'.cell? ⟨(ad376.add ((x4_1).toNat * 4)).block, (ad376.add ((x4_1).toNat * 4)).off + 2, none⟩ = some (.int .u64 ((rd_T87 l0 x4_1).f2)) ∧ w'.cell? ⟨(ad376.add ((x4_1).toNat * 4)).block, (ad376.add ((x4_1).toNat * 4)).off + 3, none⟩ = some (.string ((rd_T87 l0 x4_1).f3))) (ds := []) #[false, false, false, false, false, false, false, false, false, false, false, false, false, false, false] (by kernel_rfl) rfl rfl ⟨((HB.out.cell (World.block_lt_of_cell? w _ hw376_0)).trans hw376_0), ((HB.out.cell (World.block_lt_of_cell? w _ hw376_1)).trans hw376_1), ((HB.out.cell (World.block_lt_of_cell? w _ hw376_2)).trans hw376_2), ((HB.out.cell (World.block_lt_of_cell? w _ hw376_3)).trans hw376_3), ((HB.out.cell (World.block_lt_of_cell? w _ hw377_0)).trans hw377_0), ((HB.out.cell (World.block_lt_of_cell? w _ hw377_1)).trans hw377_1), ((HB.out.cell (World.block_lt_of_cell? w _ hw377_2)).trans hw377_2), ((HB.out.cell (World.block_lt_of_cell? w _ hw377_3)).trans hw377_3)⟩ (fun hHeld => ?_); refine with_tabW palanquinref01_Write.tab6 palanquinref01_Write.bits6 (fun HT_ HW_ => ?_)
          generalize wc.drew = w12 at HB hx376_0 hx376_1 hx376_2 hx376_3 hx377_0 hx377_1 hx377_2 hx377_3 hHeld ⊢
          refine pure_ (i := 0) (N := some 25) (v := ?_) (a' := ?_) #[true, false, false, false, false, false, false, false, false, false, false, false, false, false, false] rfl rfl (any_of HT_.out (by kernel_rfl)) (fun _ _ _ h => h) (Or.inl ⟨by rfl, ?_⟩) ?_ ?_
          rotate_left
          ·intro w'
           go_simp
           with_reducible rfl
          rotate_left
          ·simp only [Act.put, List.setIfInBounds_toArray, List.set_cons_zero, List.set_cons_succ, i64_w, i32_w]
           rfl
          refine pure_ (i := 1) (N := some 26) (v := ?_) (a' := ?_) #[true, true, false, false, false, false, false, false, false, false, false, false, false, false, false] rfl rfl (any_of HT_.out (by kernel_rfl)) (fun _ _ _ h => h) (Or.inl ⟨by rfl, ?_⟩) ?_ ?_
          rotate_left
          ·intro w'
           go_simp
           with_reducible rfl
          rotate_left
          ·simp only [Act.put, List.setIfInBounds_toArray, List.set_cons_zero, List.set_cons_succ, i64_w, i32_w]
           rfl
          refine pure_ (i := 2) (N := some 27) (v := ?_) (a' := ?_) #[true, true, true, false, false, false, false, false, false, false, false, false, false, false, false] rfl rfl (any_of HT_.out (by kernel_rfl)) (fun _ _ _ h => h) (Or.inl ⟨by rfl, ?_⟩) ?_ ?_
          rotate_left
          ·intro w'
           go_simp
           with_reducible rfl
          rotate_left
          ·simp only [Act.put, List.setIfInBounds_toArray, List.set_cons_zero, List.set_cons_succ, i64_w, i32_w]
           rfl
          refine pure_ (i := 3) (N := some 28) (v := ?_) (a' := ?_) #[true, true, true, true, false, false, false, false, false, false, false, false, false, false, false] rfl rfl (any_of HT_.out (by kernel_rfl)) (fun _ _ _ h => h) (Or.inl ⟨by rfl, ?_⟩) ?_ ?_
          rotate_left
          ·intro w'
           go_simp
           with_reducible rfl
          rotate_left
          ·simp only [Act.put, List.setIfInBounds_toArray, List.set_cons_zero, List.set_cons_succ, i64_w, i32_w]
           rfl
          refine pure_ (i := 4) (N := some 29) (v := ?_) (a' := ?_) #[true, true, true, true, true, false, false, false, false, false, false, false, false, false, false] rfl rfl (any_of HT_.out (by kernel_rfl)) (fun _ _ _ h => h) (Or.inl ⟨by rfl, ?_⟩) ?_ ?_
          rotate_left
          ·intro w'
           go_simp
           with_reducible rfl
          rotate_left
          ·simp only [Act.put, List.setIfInBounds_toArray, List.set_cons_zero, List.set_cons_succ, i64_w, i32_w]
           rfl
          refine pure_ (i := 6) (N := some 31) (v := ?_) (a' := ?_) #[true, true, true, true, true, false, true, false, false, false, false, false, false, false, false] rfl rfl (any_of HT_.out (by kernel_rfl)) (fun _ _ _ h => h) (Or.inl ⟨by rfl, ?_⟩) ?_ ?_
          rotate_left
          ·intro w'
           go_simp
           with_reducible rfl
          rotate_left
          ·simp only [Act.put, List.setIfInBounds_toArray, List.set_cons_zero, List.set_cons_succ, i64_w, i32_w]
           rfl
          refine pure_ (i := 7) (N := some 32) (v := ?_) (a' := ?_) #[true, true, true, true, true, false, true, true, false, false, false, false, false, false, false] rfl rfl (any_of HT_.out (by kernel_rfl)) (fun _ _ _ h => h) (Or.inl ⟨by rfl, ?_⟩) ?_ ?_
          rotate_left
          ·intro w'
           go_simp
           with_reducible rfl
          rotate_left
          ·simp only [Act.put, List.setIfInBounds_toArray, List.set_cons_zero, List.set_cons_succ, i64_w, i32_w]
           rfl
          refine pure_ (i := 8) (N := some 33) (v := ?_) (a' := ?_) #[true, true, true, true, true, false, true, true, true, false, false, false, false, false, false] rfl rfl (any_of HT_.out (by kernel_rfl)) (fun _ _ _ h => h) (Or.inl ⟨by rfl, ?_⟩) ?_ ?_
          rotate_left
          ·intro w'
           go_simp
           with_reducible rfl
          rotate_left
          ·simp only [Act.put, List.setIfInBounds_toArray, List.set_cons_zero, List.set_cons_succ, i64_w, i32_w]
           rfl
          refine pure_ (i := 9) (N := some 34) (v := ?_) (a' := ?_) #[true, true, true, true, true, false, true, true, true, true, false, false, false, false, false] rfl rfl (any_of HT_.out (by kernel_rfl)) (fun _ _ _ h => h) (Or.inl ⟨by rfl, ?_⟩) ?_ ?_
          rotate_left
          ·intro w'
           go_simp
           with_reducible rfl
          rotate_left
          ·simp only [Act.put, List.setIfInBounds_toArray, List.set_cons_zero, List.set_cons_succ, i64_w, i32_w]
           rfl
          refine take_ (i := 5) (N := some 30) (v := ?_) (a' := ?_) #[true, true, true, true, true, true, true, true, true, true, false, false, false, false, false] rfl rfl (take_ofW HT_.out HW_.out (by kernel_rfl)) (fun _ _ _ h => h) (Or.inl ⟨by rfl, ?_⟩) hHeld ?_ ?_
          rotate_left
          ·rintro w' ⟨s0, s1, s2, s3, s4, s5, s6, s7⟩
           go_simp
           with_reducible rfl
          rotate_left
          ·simp only [Act.put, List.setIfInBounds_toArray, List.set_cons_zero, List.set_cons_succ, i64_w, i32_w]
           rfl
          refine take_ (i := 10) (N := some 35) (v := ?_) (a' := ?_) #[true, true, true, true, true, true, true, true, true, true, true, false, false, false, false] rfl rfl (take_ofW HT_.out HW_.out (by kernel_rfl)) (fun _ _ _ h => h) (Or.inl ⟨by rfl, ?_⟩) hHeld ?_ ?_
          rotate_left
          ·rintro w' ⟨s0, s1, s2, s3, s4, s5, s6, s7⟩
           go_simp
           with_reducible rfl
          rotate_left
          ·simp only [Act.put, List.setIfInBounds_toArray, List.set_cons_zero, List.set_cons_succ, i64_w, i32_w]
           rfl
          refine one_ (i := 11) (N := some 36) #[true, true, true, true, true, true, true, true, true, true, true, true, false, false, false] rfl rfl (one_of HT_.out (by kernel_rfl)) (by decide) (fun K hK => ?_)
          refine goes_ Try.func82 (by kernel_rfl) rfl #[.int .i64 ((rd_T87 l0 x4_1).f0)] (by rfl) rfl rfl (by (try simp only [List.map_toArray, List.map_cons, List.map_nil]); first | done | rfl | (simp only [List.length_drop, List.length_take]; rfl)) ?_
          with_reducible refine (palanquinref01_Size.calls ((rd_T87 l0 x4_1).f0) t378 _ A9.out).mono ?_
          rintro e w' ⟨rfl, ⟨nd, rfl⟩⟩
          refine ⟨_, rfl, ?_⟩
          refine hK.out _ _ ⟨((HB.out.cell (World.block_lt_of_cell? w _ hw376_0)).trans hw376_0), ((HB.out.cell (World.block_lt_of_cell? w _ hw376_1)).trans hw376_1), ((HB.out.cell (World.block_lt_of_cell? w _ hw376_2)).trans hw376_2), ((HB.out.cell (World.block_lt_of_cell? w _ hw376_3)).trans hw376_3), ((HB.out.cell (World.block_lt_of_cell? w _ hw377_0)).trans hw377_0), ((HB.out.cell (World.block_lt_of_cell? w _ hw377_1)).trans hw377_1), ((HB.out.cell (World.block_lt_of_cell? w _ hw377_2)).trans hw377_2), ((HB.out.cell (World.block_lt_of_cell? w _ hw377_3)).trans hw377_3)⟩ (fun hHeld => ?_)
          clear hK K
          refine norm_ (a' := ?_) ?_ ?_
          rotate_left
          ·show Act.put _ (some 36) _ = _
           simp only [Act.put, List.setIfInBounds_toArray, List.set_cons_zero, List.set_cons_succ, i64_w, i32_w]
           rfl
          refine one_ (i := 12) (N := some 37) #[true, true, true, true, true, true, true, true, true, true, true, true, true, false, false] rfl rfl (one_of HT_.out (by kernel_rfl)) (by decide) (fun K hK => ?_)
          refine goes_ Try.func124 (by kernel_rfl) rfl #[.int .u64 ((rd_T87 l0 x4_1).f2), .int .i64 t378] (by rfl) rfl rfl (by (try simp only [List.map_toArray, List.map_cons, List.map_nil]); first | done | rfl | (simp only [List.length_drop, List.length_take]; rfl)) ?_
          with_reducible refine (palanquinref01_Bytes.calls kj2 ((rd_T87 l0 x4_1).f2) t378 t379 _ A10.out).mono ?_
          rintro e w13 ⟨rfl, hb⟩
          refine ⟨_, rfl, ?_⟩
          have n0_ := mA (bP (by repeat (first | (with_reducible first | exact HB.out | apply bA | apply bN | apply bD) | exact HB.out)) hb)
          clear HB
          have HB := n0_
          clear n0_
          (try clear hb)
          (try clear hb2)
          (try clear hk)
          (try clear hi)
          refine hK.out _ _ ⟨((HB.out.cell (World.block_lt_of_cell? w _ hw376_0)).trans hw376_0), ((HB.out.cell (World.block_lt_of_cell? w _ hw376_1)).trans hw376_1), ((HB.out.cell (World.block_lt_of_cell? w _ hw376_2)).trans hw376_2), ((HB.out.cell (World.block_lt_of_cell? w _ hw376_3)).trans hw376_3), ((HB.out.cell (World.block_lt_of_cell? w _ hw377_0)).trans hw377_0), ((HB.out.cell (World.block_lt_of_cell? w _ hw377_1)).trans hw377_1), ((HB.out.cell (World.block_lt_of_cell? w _ hw377_2)).trans hw377_2), ((HB.out.cell (World.block_lt_of_cell? w _ hw377_3)).trans hw377_3)⟩ (fun hHeld => ?_)
          clear hK K
          refine norm_ (a' := ?_) ?_ ?_
          rotate_left
          ·show Act.put _ (some 37) _ = _
           simp only [Act.put, List.setIfInBounds_toArray, List.set_cons_zero, List.set_cons_succ, i64_w, i32_w]
           rfl
          refine pure_ (i := 13) (N := some 38) (v := ?_) (a' := ?_) #[true, true, true, true, true, true, true, true, true, true, true, true, true, true, false] rfl rfl (any_of HT_.out (by kernel_rfl)) (fun _ _ _ h => h) (Or.inl ⟨by rfl, ?_⟩) ?_ ?_
          rotate_left
          ·intro w'
           go_simp
           with_reducible rfl
          rotate_left
          ·simp only [Act.put, List.setIfInBounds_toArray, List.set_cons_zero, List.set_cons_succ, i64_w, i32_w]
           rfl
          refine pure_ (i := 14) (N := some 3) (v := ?_) (a' := ?_) #[true, true, true, true, true, true, true, true, true, true, true, true, true, true, true] rfl rfl (any_of HT_.out (by kernel_rfl)) (fun _ _ _ h => h) (Or.inl ⟨by rfl, ?_⟩) ?_ ?_
          rotate_left
          ·intro w'
           go_simp
           with_reducible rfl
          rotate_left
          ·simp only [Act.put, List.setIfInBounds_toArray, List.set_cons_zero, List.set_cons_succ, i64_w, i32_w]
           rfl
          refine done_ (done_of HT_.out (by kernel_rfl)) ?_
          try go_wp2
          go_roundg kj2
          case measure => have := HK1.out; have := HJ2.out; omega
          case rel => exact ⟨(x3_1 ++ t379), (wrap64 (x4_1 + 1)), (by first | rfl | (simp; done) | (simp [*]; done)), (by first | rfl | (simp; done) | (simp [*]; done)), H', ⟨by have := HK1.out; have := HJ2.out; omega⟩, ⟨by repeat (first | (with_reducible first | exact HB.out | apply bA | apply bN | apply bD) | exact HB.out)⟩⟩
         ·rw [if_neg c11] at H
          exact absurd H (by simp)
        ·rw [if_neg c8] at H
         exact absurd H (by simp)
       ·rw [if_neg c7] at H
        exact absurd H (by simp)
      ·replace c6 := Bool.eq_false_iff.mpr c6
       subst c6
       have H1 : (if 0 ≤ x4_1 then (if x4_1 < (l0.length : Int) then (if x3_1.size + ((rd_T87 l0 x4_1).f3).size ≤ 9223372036854775807 then (palanquinref01_Write.l0 kj2 l0 (x3_1 ++ ((rd_T87 l0 x4_1).f3)) (wrap64 (x4_1 + 1))) else (none)) else (none)) else (none)) = some r := by rw [if_neg (show ¬ (false = true) by decide)] at H; exact H
       clear H
       have H := H1
       clear H1
       by_cases c14 : 0 ≤ x4_1
       ·rw [if_pos c14] at H
        have c14b0 : decide (0 ≤ x4_1) = true := decide_eq_true c14
        clear c14
        by_cases c15 : x4_1 < (l0.length : Int)
        ·rw [if_pos c15] at H
         have c15b0 : decide (x4_1 < (l0.length : Int)) = true := decide_eq_true c15
         clear c15
         by_cases c16 : x3_1.size + ((rd_T87 l0 x4_1).f3).size ≤ 9223372036854775807
         ·rw [if_pos c16] at H
          have c16b0 := eq_true c16
          have c16b1 : decide (x3_1.size + ((rd_T87 l0 x4_1).f3).size ≤ 9223372036854775807) = true := decide_eq_true c16
          try have c16b2 : (9223372036854775807 < x3_1.size + ((rd_T87 l0 x4_1).f3).size) = False := eq_false (Nat.not_lt.2 c16)
          have H' := mA H
          clear H
          have p380 : 0 ≤ (x4_1 : Int) := of_decide_eq_true (by first | (with_reducible assumption) | assumption)
          have q380 : x4_1 < (l0.length : Int) := of_decide_eq_true (by first | (with_reducible assumption) | assumption)
          obtain ⟨ad380, e380, hx380_0, hx380_1, hx380_2, hx380_3⟩ := at_T87 HR0.out x4_1 p380 q380
          cases e380
          replace hx380_0 := (HB.out.cell (World.block_lt_of_cell? w _ hx380_0)).trans hx380_0
          replace hx380_1 := (HB.out.cell (World.block_lt_of_cell? w _ hx380_1)).trans hx380_1
          replace hx380_2 := (HB.out.cell (World.block_lt_of_cell? w _ hx380_2)).trans hx380_2
          replace hx380_3 := (HB.out.cell (World.block_lt_of_cell? w _ hx380_3)).trans hx380_3
          replace p380 := eq_true p380
          replace q380 := eq_true q380
          go_wp2
          go_roundg kj2
          case measure => have := HK1.out; have := HJ2.out; omega
          case rel => exact ⟨(x3_1 ++ ((rd_T87 l0 x4_1).f3)), (wrap64 (x4_1 + 1)), (by first | rfl | (simp; done) | (simp [*]; done)), (by first | rfl | (simp; done) | (simp [*]; done)), H', ⟨by have := HK1.out; have := HJ2.out; omega⟩, ⟨by repeat (first | (with_reducible first | exact HB.out | apply bA | apply bN | apply bD) | exact HB.out)⟩⟩
         ·rw [if_neg c16] at H
          exact absurd H (by simp)
        ·rw [if_neg c15] at H
         exact absurd H (by simp)
       ·rw [if_neg c14] at H
        exact absurd H (by simp)
   ·rw [if_neg c2] at H
    have c2b0 : decide (x4_1 < (l0.length : Int)) = false := decide_eq_false c2
    clear c2
    obtain rfl := Option.some.inj H
    go_wp2
    go_ret
    exact ⟨by first | rfl | (simp [errW_none, errW_some] <;> rfl) | (simp [*, errW_none, errW_some] <;> rfl), by repeat (first | (with_reducible first | exact HB.out | apply bA | apply bN | apply bD) | exact HB.out)⟩

end Go.Proofs.Ytejmipoolbodgaa.G
end
