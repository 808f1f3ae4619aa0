/- Texts of this session, joined: each is a section. -/
import Derived.Test.YtejmipoolbodgaaMTcpTells1
import Derived.OneCell
import Derived.RangeFuncNested
import Derived.RangeFuncBound
import Derived.RangeFuncCalls
import Derived.RangeFuncLeaves
import Derived.RangeFuncFrom
import Derived.Shelf.Abstract
import Derived.Shelf.RegionOpen
import Derived.WalkKit
import Derived.OwnWalkIn
import Derived.TacticsInMore
import Derived.LoopNIn
import Derived.LoopIn
import Derived.Laws.Strings2
import Derived.Laws.Strings
set_option linter.unusedVariables false
set_option linter.unusedSimpArgs false
section
/- Plain theory: what a walk over options yields, one behind the other. No program in it. -/
namespace Go.Proofs.Ytejmipoolbodgaa.Pal
/-- What is yielded from i on: each option's place and bytes; -1 where they aren't right. -/
def itemsF : Nat → ByteArray → Nat → List (Int × ByteArray)
  | 0, _, _ => []
  | k + 1, s, i => if i < (bl s).length ∧ (bl s).getD i 0 ≠ 0 then (match optLen (bl s) i with | none => [(-1, ⟨#[]⟩)] | some n => ((i : Int), s.extract i (i + n)) :: itemsF k s (i + n)) else []
theorem itemsF_fuel (s : ByteArray) : ∀ (k k' i : Nat), (bl s).length < k + i → (bl s).length < k' + i → itemsF k s i = itemsF k' s i
  | 0, 0, _, _, _ => rfl
  | 0, k' + 1, i, h, _ => by rw [itemsF, itemsF, if_neg (by omega)]
  | k + 1, 0, i, _, h => by rw [itemsF, itemsF, if_neg (by omega)]
  | k + 1, k' + 1, i, h, h' => by
    rw [itemsF, itemsF]
    by_cases c : i < (bl s).length ∧ (bl s).getD i 0 ≠ 0
    · rw [if_pos c, if_pos c]
      cases ho : optLen (bl s) i with
      | none => rfl
      | some n =>
        have hb := optLen_bound c.1 ho
        simp only
        rw [itemsF_fuel s k k' (i + n) (by omega) (by omega)]
    · rw [if_neg c, if_neg c]
def items (s : ByteArray) (i : Nat) : List (Int × ByteArray) := itemsF ((bl s).length + 1) s i
theorem items_end {s : ByteArray} {i : Nat} (h : ¬ (i < (bl s).length ∧ (bl s).getD i 0 ≠ 0)) : items s i = [] := by unfold items; rw [itemsF, if_neg h]
theorem items_bad {s : ByteArray} {i : Nat} (h : i < (bl s).length ∧ (bl s).getD i 0 ≠ 0) (ho : optLen (bl s) i = none) : items s i = [(-1, ⟨#[]⟩)] := by unfold items; rw [itemsF, if_pos h, ho]
theorem items_step {s : ByteArray} {i n : Nat} (h : i < (bl s).length ∧ (bl s).getD i 0 ≠ 0) (ho : optLen (bl s) i = some n) : items s i = ((i : Int), s.extract i (i + n)) :: items s (i + n) := by
  have hb := optLen_bound h.1 ho
  unfold items
  rw [itemsF, if_pos h, ho]
  simp only
  rw [itemsF_fuel s (bl s).length ((bl s).length + 1) (i + n) (by omega) (by omega)]
def itemOf (s : ByteArray) (p : Nat × Nat) : Int × ByteArray := ((p.1 : Int), s.extract p.1 (p.1 + p.2))
/-- Options that are right are yielded as they are walked. -/
theorem items_right (s : ByteArray) : ∀ i L, W (bl s) i = some L → items s i = L.map (itemOf s) := by
  refine W_ind (P := fun i => ∀ L, W (bl s) i = some L → items s i = L.map (itemOf s)) (bl s) fun i ih L h => ?_
  rcases W_cons h with ⟨c, rfl⟩ | ⟨c, n, L', ho, hw, rfl⟩
  · exact items_end c
  · have hb := optLen_bound c.1 ho
    rw [items_step c ho, ih n hb.1 c.1 L' hw]; rfl
theorem items_wrong (s : ByteArray) : ∀ i, W (bl s) i = none → ∃ L : List (Nat × Nat), items s i = L.map (itemOf s) ++ [(-1, ⟨#[]⟩)] := by
  refine W_ind (P := fun i => W (bl s) i = none → ∃ L : List (Nat × Nat), items s i = L.map (itemOf s) ++ [(-1, ⟨#[]⟩)]) (bl s) fun i ih h => ?_
  by_cases c : i < (bl s).length ∧ (bl s).getD i 0 ≠ 0
  · cases ho : optLen (bl s) i with
    | none => exact ⟨[], items_bad c ho⟩
    | some n =>
      have hb := optLen_bound c.1 ho
      rw [W_step c, ho, Option.bind_some] at h
      obtain ⟨L, hL⟩ := ih n hb.1 c.1 (by cases hw : W (bl s) (i + n) with | none => rfl | some M => rw [hw] at h; exact absurd h (by simp))
      exact ⟨(i, n) :: L, by rw [items_step c ho, hL]; rfl⟩
  · rw [W_end c] at h; exact absurd h (by simp)
/-- Right: none of what is yielded has a place below 0. -/
theorem items_all (s : ByteArray) : rightO (bl s) = true ↔ ∀ x ∈ items s 0, ¬ x.1 < 0 := by
  unfold rightO
  cases hw : W (bl s) 0 with
  | some L =>
    rw [items_right s 0 L hw]
    refine ⟨fun _ x hx => ?_, fun _ => rfl⟩
    obtain ⟨p, _, rfl⟩ := List.mem_map.mp hx
    unfold itemOf; dsimp only; omega
  | none =>
    obtain ⟨L, hL⟩ := items_wrong s 0 hw
    rw [hL]
    refine ⟨fun h => absurd h (by simp), fun h => absurd (h (-1, ⟨#[]⟩) (by simp)) (by decide)⟩
end Go.Proofs.Ytejmipoolbodgaa.Pal
end

section
/- Plain facts on worlds: a block known whole, what a call leaves of the others. No function of the program in it. -/
namespace Go.Proofs.Ytejmipoolbodgaa.Pal
open Go.RowKit
/-- Block b holds the cells cs, of type T, none of them frozen. -/
def Blk (w : World) (b : Nat) (T : TypeId) (cs : Array Value) : Prop := w.heap[b]? = some (.cells cs T (0, 0))
theorem Blk.cell {w : World} {b : Nat} {T : TypeId} {cs : Array Value} (h : Blk w b T cs) (j : Nat) (v : Value) (hv : cs[j]? = some v) : w.cell? ⟨b, j, none⟩ = some v := by
  unfold Blk at h
  simp [World.cell?, h, hv]
theorem Blk.free {w : World} {b : Nat} {T : TypeId} {cs : Array Value} (h : Blk w b T cs) (j : Nat) : w.frozen? ⟨b, j, none⟩ = false := by
  unfold Blk at h
  simp [World.frozen?, h]
theorem Blk.lt {w : World} {b : Nat} {T : TypeId} {cs : Array Value} (h : Blk w b T cs) : b < w.heap.size := lt_of_block h
theorem Blk.set {w : World} {b : Nat} {T : TypeId} {cs : Array Value} (h : Blk w b T cs) (j : Nat) (v : Value) : Blk (w.setCell ⟨b, j, none⟩ v) b T (cs.setIfInBounds j v) := by
  have hlt := h.lt
  unfold Blk at h ⊢
  have h' : w.heap[b] = .cells cs T (0, 0) := by simpa [Array.getElem?_eq_getElem hlt] using h
  show (w.heap.modify b _)[b]? = _
  rw [Array.getElem?_eq_getElem (by simpa using hlt), Array.getElem_modify_self, h']
  rfl
theorem Blk.other {w : World} {b : Nat} {T : TypeId} {cs : Array Value} (h : Blk w b T cs) (p : Addr) (hp : b ≠ p.block) (v : Value) : Blk (w.setCell p v) b T cs := by
  unfold Blk at h ⊢
  rw [Below.heap_setCell _ _ _ _ hp]; exact h
theorem Blk.alloc {w : World} {b : Nat} {T : TypeId} {cs : Array Value} (h : Blk w b T cs) (o : Obj) : Blk (w.alloc o) b T cs := by
  have hlt := h.lt
  unfold Blk at h ⊢
  rw [Below.heap_alloc _ _ _ hlt]; exact h
theorem Blk.drew {w : World} {b : Nat} {T : TypeId} {cs : Array Value} (h : Blk w b T cs) : Blk w.drew b T cs := h
theorem Blk.drewN {w : World} {b : Nat} {T : TypeId} {cs : Array Value} (h : Blk w b T cs) (n : Nat) : Blk (w.drewN n) b T cs := h
theorem Blk.new (w : World) (T : TypeId) (cs : Array Value) : Blk (w.alloc (.cells cs T)) w.heap.size T cs := heap_alloc_new w _
/-- What a call that writes block R alone (and makes what it likes) leaves: the kit's 'grownBy' with some block. -/
theorem Blk.grown {w w' : World} {b : Nat} {T : TypeId} {cs : Array Value} (h : Blk w b T cs) {R : Nat} (hg : w.grownBy w' (some R)) (hb : b ≠ R) : Blk w' b T cs := by
  have hlt := h.lt
  unfold Blk at h ⊢
  rw [hg.block b hlt (by simpa using hb)]; exact h
theorem Blk.below {w w' : World} {b : Nat} {T : TypeId} {cs : Array Value} (h : Blk w b T cs) {B : Nat} (hg : Below B w w') (hb : b < B) : Blk w' b T cs := by
  unfold Blk at h ⊢
  rw [hg.block b hb]; exact h
/-- Below B all is as it was, if the one block that was written is none of those. -/
theorem below_of_grown {w w' : World} {R B : Nat} (hg : w.grownBy w' (some R)) (hB : B ≤ w.heap.size) (hR : B ≤ R) : Below B w w' :=
  ⟨hg.os, hg.tape, hg.output, hg.size, fun k hk => hg.block k (by omega) (by simp; omega)⟩
theorem grown_setCell (w : World) (b j : Nat) (v : Value) : w.grownBy (w.setCell ⟨b, j, none⟩ v) (some b) :=
  ⟨rfl, rfl, rfl, by simp [World.setCell], fun k _ hk => Below.heap_setCell _ _ _ _ (by simpa using hk)⟩
theorem grown_refl (w : World) (r : Option Nat) : w.grownBy w r := ⟨rfl, rfl, rfl, Nat.le_refl _, fun _ _ _ => rfl⟩
theorem grown_alloc {a w : World} {r : Option Nat} (h : a.grownBy w r) (o : Obj) : a.grownBy (w.alloc o) r := World.grownBy.trans h (World.grownBy_alloc w o r)
theorem grown_drew {a w : World} {r : Option Nat} (h : a.grownBy w r) : a.grownBy w.drew r := ⟨h.os, h.tape, h.output, h.size, h.block⟩
theorem grown_drewN {a w : World} {r : Option Nat} (h : a.grownBy w r) (n : Nat) : a.grownBy (w.drewN n) r := ⟨h.os, h.tape, h.output, h.size, h.block⟩
theorem grown_of_below' {a w w' : World} {r : Option Nat} (h : a.grownBy w r) (k : Below w.heap.size w w') : a.grownBy w' r := World.grownBy.trans h ⟨k.os, k.tape, k.output, k.size, fun i hi _ => k.block i hi⟩
theorem Blk.cells {w : World} {b : Nat} {T : TypeId} {cs : Array Value} (h : Blk w b T cs) : ∀ j, w.cell? ⟨b, j, none⟩ = cs[j]? := fun j => by
  unfold Blk at h
  simp [World.cell?, h]
theorem Blk.frees {w : World} {b : Nat} {T : TypeId} {cs : Array Value} (h : Blk w b T cs) : ∀ j, w.frozen? ⟨b, j, none⟩ = false := fun j => h.free j
/-- Blocks known whole. -/
def Hp (w : World) (bs : List (Nat × TypeId × Array Value)) : Prop := ∀ x ∈ bs, Blk w x.1 x.2.1 x.2.2
theorem Hp.nil (w : World) : Hp w [] := fun _ h => nomatch h
theorem Hp.cons {w : World} {b : Nat} {T : TypeId} {cs : Array Value} {bs : List (Nat × TypeId × Array Value)} (h : Blk w b T cs) (k : Hp w bs) : Hp w ((b, T, cs) :: bs) := fun x hx => by
  rcases List.mem_cons.1 hx with rfl | hx
  · exact h
  · exact k x hx
theorem Hp.head {w : World} {b : Nat} {T : TypeId} {cs : Array Value} {bs : List (Nat × TypeId × Array Value)} (h : Hp w ((b, T, cs) :: bs)) : Blk w b T cs := h _ List.mem_cons_self
theorem Hp.tail {w : World} {x : Nat × TypeId × Array Value} {bs : List (Nat × TypeId × Array Value)} (h : Hp w (x :: bs)) : Hp w bs := fun y hy => h y (List.mem_cons_of_mem _ hy)
theorem Hp.grown {w w' : World} {bs : List (Nat × TypeId × Array Value)} (h : Hp w bs) {R : Nat} (hg : w.grownBy w' (some R)) (hR : ∀ x ∈ bs, x.1 ≠ R) : Hp w' bs := fun x hx => (h x hx).grown hg (hR x hx)
theorem Hp.below {w w' : World} {bs : List (Nat × TypeId × Array Value)} (h : Hp w bs) {B : Nat} (hg : Below B w w') (hB : ∀ x ∈ bs, x.1 < B) : Hp w' bs := fun x hx => (h x hx).below hg (hB x hx)
theorem Hp.alloc {w : World} {bs : List (Nat × TypeId × Array Value)} (h : Hp w bs) (o : Obj) : Hp (w.alloc o) bs := fun x hx => (h x hx).alloc o
theorem Hp.drew {w : World} {bs : List (Nat × TypeId × Array Value)} (h : Hp w bs) : Hp w.drew bs := h
theorem Hp.drewN {w : World} {bs : List (Nat × TypeId × Array Value)} (h : Hp w bs) (n : Nat) : Hp (w.drewN n) bs := h
theorem Hp.other {w : World} {bs : List (Nat × TypeId × Array Value)} (h : Hp w bs) (p : Addr) (hp : ∀ x ∈ bs, x.1 ≠ p.block) (v : Value) : Hp (w.setCell p v) bs := fun x hx => (h x hx).other p (hp x hx) v
theorem Hp.set {w : World} {b : Nat} {T : TypeId} {cs : Array Value} {l1 l2 : List (Nat × TypeId × Array Value)} (h : Hp w (l1 ++ (b, T, cs) :: l2)) (j : Nat) (v : Value) (h1 : ∀ x ∈ l1, x.1 ≠ b) (h2 : ∀ x ∈ l2, x.1 ≠ b) :
    Hp (w.setCell ⟨b, j, none⟩ v) (l1 ++ (b, T, cs.setIfInBounds j v) :: l2) := fun x hx => by
  rcases List.mem_append.1 hx with hx | hx
  · exact (h x (List.mem_append.2 (.inl hx))).other _ (h1 x hx) v
  · rcases List.mem_cons.1 hx with rfl | hx
    · exact (h (b, T, cs) (List.mem_append.2 (.inr List.mem_cons_self))).set j v
    · exact (h x (List.mem_append.2 (.inr (List.mem_cons_of_mem _ hx)))).other _ (h2 x hx) v
/-- A row of texts, by its cells. -/
theorem C_cells {w : World} {b : Nat} (xs : List ByteArray) (hn : xs.length ≤ 9223372036854775807) (h : ∀ j p, xs[j]? = some p → w.cell? ⟨b, j, none⟩ = some (.string p)) : Go.Proofs.YtejmipoolbodgaaW.PrintWords.Kd.C Go.Proofs.YtejmipoolbodgaaW.PrintWords.Kd.string w (some ⟨b, 0, none⟩) xs.length xs :=
  ⟨rfl, hn, fun _ => ⟨⟨b, 0, none⟩, rfl, fun j p hp => ⟨[.string p], rfl, rfl, fun i u hi => by
    match i, hi with
    | 0, hi =>
      obtain rfl := Option.some.inj hi
      have e : Addr.add ⟨b, 0, none⟩ (j * 1 + 0) = ⟨b, j, none⟩ := by rw [Nat.mul_one, Nat.add_zero]; cases j <;> simp [Addr.add]
      exact (congrArg w.cell? e).trans (h j p hp)
    | i + 1, hi => simp at hi⟩⟩⟩
theorem C_one (w : World) (T : TypeId) (x : ByteArray) : Go.Proofs.YtejmipoolbodgaaW.PrintWords.Kd.C Go.Proofs.YtejmipoolbodgaaW.PrintWords.Kd.string (w.alloc (.cells #[.string x] T)) (some ⟨w.heap.size, 0, none⟩) 1 [x] :=
  C_cells [x] (by simp) fun j p hp => by
    match j, hp with
    | 0, hp => obtain rfl := Option.some.inj hp; exact (Blk.new w T #[.string x]).cell 0 _ rfl
    | j + 1, hp => simp at hp
theorem C_two (w : World) (T : TypeId) (x y : ByteArray) : Go.Proofs.YtejmipoolbodgaaW.PrintWords.Kd.C Go.Proofs.YtejmipoolbodgaaW.PrintWords.Kd.string (w.alloc (.cells #[.string x, .string y] T)) (some ⟨w.heap.size, 0, none⟩) 2 [x, y] :=
  C_cells [x, y] (by simp) fun j p hp => by
    match j, hp with
    | 0, hp => obtain rfl := Option.some.inj hp; exact (Blk.new w T #[.string x, .string y]).cell 0 _ rfl
    | 1, hp => obtain rfl := Option.some.inj hp; exact (Blk.new w T #[.string x, .string y]).cell 1 _ rfl
    | j + 2, hp => simp at hp
end Go.Proofs.Ytejmipoolbodgaa.Pal
end

section
/- By hand: tcp.walk (an iterator over options), tcp.Right and tcp.MSS (ranges over it). The walks are turned from the kit's worked texts on ranges over a function. -/
namespace Go.Proofs.Ytejmipoolbodgaa.G
open Go.RowKit Go.Shelf Go.Proofs.YtejmipoolbodgaaW.PrintWords Go.Proofs.YtejmipoolbodgaaW.PrintLast Go.Proofs.YtejmipoolbodgaaW.PrintMore Go.Proofs.Ytejmipoolbodgaa.Pal
attribute [local go_sem] Oper.semAt_some
set_option linter.unusedVariables false
set_option linter.unusedSimpArgs false

set_option maxRecDepth 100000 in
set_option maxHeartbeats 2000000 in
theorem walk_in (F : Fence) (n : Nat) (hf : F.fn 133) (hro : F.round = none) (s : ByteArray) (w : World) :
    CallsIn F n Try.prog 133 #[.string s] w fun e w' => e = .returned (.func (.func 159) #[] #[.pointer (some ⟨w.heap.size, 0, none⟩)]) ∧ w' = w.alloc (.cells #[.string s] 9) := by
  have hmf : ∀ (fn : Fn) (first cap : Array Value) (w : World), (Instr.makeFunc fn first cap).run Try.prog w = .ok (.func fn first cap) w := fun _ _ _ _ => rfl
  refine callsIn_of_wp Try.func133 rfl hf ?_ hro
  simp only [Try.ntmps133, List.size_toArray, List.length_cons, List.length_nil, Nat.reduceAdd, Nat.reduceSub, Array.replicate_succ, Array.replicate_zero, List.push_toArray, List.append_toArray, List.nil_append, List.cons_append]
  gi_wp2
  go_ret
  exact ⟨rfl, rfl⟩

theorem wr_one (m : Nat) (h : m < 256) : wrap64 (m : Int) = (m : Int) ∧ IntKind.i64.wrap (m : Int) = (m : Int) := by
  refine ⟨by unfold wrap64; omega, by rw [IntKind.wrap_i64]; omega⟩
theorem lt_two {a i m : Nat} (h : a < i + m) : (a : Int) < (i : Int) + (m : Int) := by omega
theorem not_lt_two {a i m : Nat} (h : ¬ a < i + m) : ¬ (a : Int) < (i : Int) + (m : Int) := by omega
theorem le_two (i m : Nat) : (i : Int) ≤ (i : Int) + (m : Int) := by omega
theorem le_two' {a i m : Nat} (h : i + m ≤ a) : (i : Int) + (m : Int) ≤ (a : Int) := by omega
theorem toNat_two (i m : Nat) : ((i : Int) + (m : Int)).toNat = i + m := by omega
theorem less_two {s i m : Nat} (h : 2 ≤ m) (h2 : i < s) : s - ((i : Int) + (m : Int)).toNat < s - (i : Int).toNat := by omega
theorem wr_two (i m : Nat) (h : i + m ≤ 140737488351232 + 256) : wrap64 ((i : Int) + (m : Int)) = (i : Int) + (m : Int) ∧ IntKind.i64.wrap ((i : Int) + (m : Int)) = (i : Int) + (m : Int) := by
  refine ⟨by unfold wrap64; omega, by rw [IntKind.wrap_i64]; omega⟩
set_option maxRecDepth 100000 in
set_option maxHeartbeats 4000000 in
theorem walk1_in (n : Nat) (hn : 1 ≤ n) (l Bn n₀ : Nat) (s : ByteArray) (hs : s.size ≤ 140737488351232) (J Jx : List (Int × ByteArray) → World → Prop)
    (hA : ∀ p W k, J p W → J p (W.drewN k))
    (hY : ∀ pre (x : Int × ByteArray) W, J pre W → pre.length < (items s 0).length → pre ++ [x] <+: items s 0 → YieldAt Fence.wide (n - 1) Try.prog l #[.int .i64 x.1, .string x.2] W fun e W' =>
      (e = .returned (.bool true) ∧ J (pre ++ [x]) W' ∧ Below n₀ W W') ∨ (e = .returned (.bool false) ∧ Jx (pre ++ [x]) W'))
    (W : World) (hB : Bn < n₀) (hBn : W.cell? ⟨Bn, 0, none⟩ = some (.string s)) (h0 : J [] W) :
    CallsIn Fence.wide n Try.prog 159 #[.func (.yield l) #[] #[], .pointer (some ⟨Bn, 0, none⟩)] W fun e W' => (∃ v, e = .returned v) ∧
      ((∃ ys, ys = items s 0 ∧ J ys W') ∨ (∃ pre, pre <+: items s 0 ∧ Jx pre W')) := by
  refine callsIn_of_wp Try.func159 rfl trivial ?_ rfl
  simp only [Try.ntmps159, List.size_toArray, List.length_cons, List.length_nil, Nat.reduceAdd, Nat.reduceSub, Array.replicate_succ, Array.replicate_zero, List.push_toArray, List.append_toArray, List.nil_append, List.cons_append]
  have HS := Aside0.mk hs
  clear hs
  gi_wp2
  gi_loopw [3] (fun p wr => ∃ (i : Nat) (pre : List (Int × ByteArray)), p = .int .i64 (i : Int) ∧ Aside0 (i ≤ s.size) ∧ Aside0 (items s 0 = pre ++ items s i) ∧ J pre wr ∧ wr.cell? ⟨Bn, 0, none⟩ = some (.string s))
    (fun p wr => s.size - (intOf p).toNat)
  case atStart => exact ⟨0, [], rfl, ⟨Nat.zero_le _⟩, ⟨rfl⟩, h0, hBn⟩
  case round =>
    obtain ⟨i, pre, rfl, HI, HT, hJ, hc⟩ := hrel
    by_cases hlt : i < s.size
    case neg =>
      have q1 : decide ((i : Int) < (s.size : Int)) = false := decide_eq_false (by omega)
      have q2 : decide (i < s.size) = false := decide_eq_false hlt
      have he : items s i = [] := items_end (by rw [bl_length]; exact fun h => hlt h.1)
      rw [he, List.append_nil] at HT
      gi_wp2
      go_end0
      exact ⟨⟨_, rfl⟩, .inl ⟨pre, HT.out.symm, hJ⟩⟩
    have q1 : decide ((i : Int) < (s.size : Int)) = true := decide_eq_true (by omega)
    have q2 : decide (i < s.size) = true := decide_eq_true hlt
    have hx : (bl s).getD i 0 = s[i] := by simp [List.getD_eq_getElem?_getD, List.getElem?_eq_getElem (show i < (bl s).length by rw [bl_length]; exact hlt)]; rfl
    by_cases h0 : s[i] = 0
    · have e1 : ((s[i].toNat : Int) != 0) = false := by rw [h0]; rfl
      have e2 : (s[i].toNat != 0) = false := by rw [h0]; rfl
      have he : items s i = [] := items_end (by rw [hx, h0]; exact fun h => h.2 rfl)
      rw [he, List.append_nil] at HT
      gi_wp2
      go_end0
      exact ⟨⟨_, rfl⟩, .inl ⟨pre, HT.out.symm, hJ⟩⟩
    have e1 : ((s[i].toNat : Int) != 0) = true := by rw [bne_iff_ne]; intro h; exact h0 (UInt8.toNat_inj.1 (by show s[i].toNat = 0; omega))
    have e2 : (s[i].toNat != 0) = true := by rw [bne_iff_ne]; intro h; exact h0 (UInt8.toNat_inj.1 h)
    by_cases h1 : s[i] = 1
    · have f1 : ((s[i].toNat : Int) != 1) = false := by rw [h1]; rfl
      have f2 : (s[i].toNat != 1) = false := by rw [h1]; rfl
      have ho : optLen (bl s) i = some 1 := by unfold optLen; rw [hx, if_pos h1]
      have hc' : i < (bl s).length ∧ (bl s).getD i 0 ≠ 0 := ⟨by rw [bl_length]; exact hlt, by rw [hx]; exact h0⟩
      have HE := Aside0.mk (items_step hc' ho)
      have HL := Aside0.mk hlt
      rw [HE.out] at HT
      obtain ⟨fn, tmps, assign, body, hy, hR⟩ := hY pre ((i : Int), s.extract i (i + 1)) wr hJ (by rw [HT.out]; simp) (by rw [HT.out]; simp)
      have HY := Aside0.mk hY
      have w1_ : wrap64 ((i : Int) + 1) = ((i + 1 : Nat) : Int) := by have := HS.out; unfold wrap64; omega
      have w2_ : IntKind.i64.wrap ((i : Int) + 1) = ((i + 1 : Nat) : Int) := by have := HS.out; rw [IntKind.wrap_i64]; omega
      have q3 : ((i : Int) + 1 ≤ (s.size : Int)) = True := eq_true (by omega)
      have q4 : (i + 1 ≤ s.size) = True := eq_true (by omega)
      clear h0 h1 hY hx ho hc' HE
      dsimp only at hy
      have hsl : ∀ wx : World, (Instr.slice 9 (.string s) (some (.int .i64 (i : Int))) (some (.int .i64 ((i : Int) + 1))) none).run Try.prog wx = .ok (.string (s.extract i (i + 1))) wx := fun wx => by
        have := run_slice_string (P := Try.prog) wx 9 s .i64 .i64 (i : Int) ((i : Int) + 1) Try.underlying9 (by omega) (by omega) (by have := HL.out; omega)
        rwa [Int.toNat_natCast, show ((i : Int) + 1).toNat = i + 1 by omega] at this
      gi_wp2
      clear hsl
      refine hR.mono ?_
      rintro e W3 (⟨rfl, hJ3, hk3⟩ | ⟨rfl, hJx3⟩)
      · have hc3 := (hk3.cell (p := ⟨Bn, 0, none⟩) hB).trans hc
        gi_wp2
        go_roundw
        case rel => exact ⟨i + 1, pre ++ [((i : Int), s.extract i (i + 1))], rfl, ⟨by have := HL.out; omega⟩, ⟨by rw [HT.out]; simp⟩, hJ3, hc3⟩
        case measure => have := HL.out; simp [intOf]; omega
      · gi_wp2
        refine bodyPost_ret (results_none rfl _ _ _) rfl ?_
        exact ⟨⟨_, rfl⟩, .inr ⟨pre ++ [((i : Int), s.extract i (i + 1))], ⟨items s (i + 1), by rw [HT.out]; simp⟩, hJx3⟩⟩
    have f1 : ((s[i].toNat : Int) != 1) = true := by rw [bne_iff_ne]; intro h; exact h1 (UInt8.toNat_inj.1 (by show s[i].toNat = 1; omega))
    have f2 : (s[i].toNat != 1) = true := by rw [bne_iff_ne]; intro h; exact h1 (UInt8.toNat_inj.1 h)
    have hmx : Try.prog.follows .mixedOrders = true := by kernel_rfl
    have hc' : i < (bl s).length ∧ (bl s).getD i 0 ≠ 0 := ⟨by rw [bl_length]; exact hlt, by rw [hx]; exact h0⟩
    have w1_ : wrap64 ((i : Int) + 1) = (i : Int) + 1 := by have := HS.out; unfold wrap64; omega
    have w2_ : IntKind.i64.wrap ((i : Int) + 1) = (i : Int) + 1 := by have := HS.out; rw [IntKind.wrap_i64]; omega
    have HL := Aside0.mk hlt
    by_cases hend : i + 1 = s.size
    · have g1 : (((i : Int) + 1) == (s.size : Int)) = true := by rw [beq_iff_eq]; omega
      have g2 : ((i + 1) == s.size) = true := by rw [beq_iff_eq]; exact hend
      have ho : optLen (bl s) i = none := by unfold optLen; rw [hx, if_neg h1, if_pos (.inl (by rw [bl_length]; exact hend))]
      have HE := Aside0.mk (items_bad hc' ho)
      rw [HE.out] at HT
      obtain ⟨fn, tmps, assign, body, hy, hR⟩ := hY pre ((-1 : Int), (⟨#[]⟩ : ByteArray)) wr.drew (hA _ _ 1 hJ) (by rw [HT.out]; simp) (by rw [HT.out]; simp)
      dsimp only at hy
      clear h0 h1 hY hx ho hc' HE hend
      gi_wp2
      refine wpIn_wide.2 ?_
      go_region
      gi_wp2
      refine hR.mono ?_
      rintro e W3 (⟨rfl, hJ3, hk3⟩ | ⟨rfl, hJx3⟩)
      · gi_wp2
        refine bodyPost_ret (results_none rfl _ _ _) rfl ?_
        exact ⟨⟨_, rfl⟩, .inl ⟨pre ++ [(-1, ⟨#[]⟩)], by rw [HT.out], hJ3⟩⟩
      · gi_wp2
        refine bodyPost_ret (results_none rfl _ _ _) rfl ?_
        exact ⟨⟨_, rfl⟩, .inr ⟨pre ++ [(-1, ⟨#[]⟩)], by rw [HT.out]; exact List.prefix_refl _, hJx3⟩⟩
    have hl2 : i + 1 < s.size := by omega
    have g1 : (((i : Int) + 1) == (s.size : Int)) = false := by rw [beq_eq_false_iff_ne]; omega
    have g2 : ((i + 1) == s.size) = false := by rw [beq_eq_false_iff_ne]; exact hend
    obtain ⟨m, hm⟩ : ∃ m : Nat, m = s[i + 1].toNat := ⟨_, rfl⟩
    have hx1 : ((bl s).getD (i + 1) 0).toNat = m := by
      rw [hm]; simp [List.getD_eq_getElem?_getD, List.getElem?_eq_getElem (show i + 1 < (bl s).length by rw [bl_length]; exact hl2)]; rfl
    have HM := Aside0.mk (show m < 256 by rw [hm]; exact s[i + 1].toNat_lt)
    have hix : ∀ wx : World, (Instr.index 9 (.string s) (.int .i64 ((i : Int) + 1))).run Try.prog wx = .ok (.int .u8 (m : Int)) wx := fun wx => by
      rw [run_index_string (P := Try.prog) (w := wx) 9 s .i64 ((i : Int) + 1) Try.underlying9, dif_pos ⟨by omega, by omega⟩, hm]
      congr 1
    have HEND := Aside0.mk hend
    clear hm hend
    by_cases hm2 : m < 2
    · have g3 : decide ((m : Int) < 2) = true := decide_eq_true (by omega)
      have g4 : decide (m < 2) = true := decide_eq_true hm2
      have ho : optLen (bl s) i = none := by unfold optLen; rw [hx, if_neg h1, if_pos (.inr (.inl (by rw [hx1]; exact hm2)))]
      have HE := Aside0.mk (items_bad hc' ho)
      rw [HE.out] at HT
      obtain ⟨fn, tmps, assign, body, hy, hR⟩ := hY pre ((-1 : Int), (⟨#[]⟩ : ByteArray)) wr.drew (hA _ _ 1 hJ) (by rw [HT.out]; simp) (by rw [HT.out]; simp)
      dsimp only at hy
      clear h0 h1 hY hx ho hc' HE hm2 hx1
      gi_wp2
      refine wpIn_wide.2 ?_
      go_region
      gi_wp2
      refine hR.mono ?_
      rintro e W3 (⟨rfl, hJ3, hk3⟩ | ⟨rfl, hJx3⟩)
      · gi_wp2
        refine bodyPost_ret (results_none rfl _ _ _) rfl ?_
        exact ⟨⟨_, rfl⟩, .inl ⟨pre ++ [(-1, ⟨#[]⟩)], by rw [HT.out], hJ3⟩⟩
      · gi_wp2
        refine bodyPost_ret (results_none rfl _ _ _) rfl ?_
        exact ⟨⟨_, rfl⟩, .inr ⟨pre ++ [(-1, ⟨#[]⟩)], by rw [HT.out]; exact List.prefix_refl _, hJx3⟩⟩
    have g3 : decide ((m : Int) < 2) = false := decide_eq_false (by omega)
    have g4 : decide (m < 2) = false := decide_eq_false hm2
    have HQ : i + m ≤ 140737488351232 + 256 := Nat.add_le_add (Nat.le_trans (Nat.le_of_lt HL.out) HS.out) (Nat.le_of_lt HM.out)
    have w5_ := (wr_one m HM.out).1
    have w6_ := (wr_one m HM.out).2
    have w3_ := (wr_two i m HQ).1
    have w4_ := (wr_two i m HQ).2
    by_cases hms : s.size < i + m
    · have g5 : decide ((s.size : Int) < (i : Int) + (m : Int)) = true := decide_eq_true (lt_two hms)
      have g6 : decide (s.size < i + m) = true := decide_eq_true hms
      have ho : optLen (bl s) i = none := by unfold optLen; rw [hx, if_neg h1, if_pos (.inr (.inr (by rw [hx1, bl_length]; exact hms)))]
      have HE := Aside0.mk (items_bad hc' ho)
      rw [HE.out] at HT
      obtain ⟨fn, tmps, assign, body, hy, hR⟩ := hY pre ((-1 : Int), (⟨#[]⟩ : ByteArray)) wr.drew (hA _ _ 1 hJ) (by rw [HT.out]; simp) (by rw [HT.out]; simp)
      dsimp only at hy
      clear h0 h1 hY hx ho hc' HE hm2 hx1 hms
      gi_wp2
      refine wpIn_wide.2 ?_
      go_region
      gi_wp2
      refine hR.mono ?_
      rintro e W3 (⟨rfl, hJ3, hk3⟩ | ⟨rfl, hJx3⟩)
      · gi_wp2
        refine bodyPost_ret (results_none rfl _ _ _) rfl ?_
        exact ⟨⟨_, rfl⟩, .inl ⟨pre ++ [(-1, ⟨#[]⟩)], by rw [HT.out], hJ3⟩⟩
      · gi_wp2
        refine bodyPost_ret (results_none rfl _ _ _) rfl ?_
        exact ⟨⟨_, rfl⟩, .inr ⟨pre ++ [(-1, ⟨#[]⟩)], by rw [HT.out]; exact List.prefix_refl _, hJx3⟩⟩
    have g5 : decide ((s.size : Int) < (i : Int) + (m : Int)) = false := decide_eq_false (not_lt_two hms)
    have g6 : decide (s.size < i + m) = false := decide_eq_false hms
    have ho : optLen (bl s) i = some m := by unfold optLen; rw [hx, if_neg h1, hx1, if_neg (by rw [bl_length]; exact fun h => h.elim HEND.out (fun h => h.elim hm2 hms))]
    have HE := Aside0.mk (items_step hc' ho)
    rw [HE.out] at HT
    obtain ⟨fn, tmps, assign, body, hy, hR⟩ := hY pre ((i : Int), s.extract i (i + m)) wr.drew (hA _ _ 1 hJ) (by rw [HT.out]; simp) (by rw [HT.out]; simp)
    dsimp only at hy
    have HN := Aside0.mk (show 2 ≤ m ∧ i + m ≤ s.size from ⟨Nat.le_of_not_lt hm2, Nat.le_of_not_lt hms⟩)
    have hsl : ∀ wx : World, (Instr.slice 9 (.string s) (some (.int .i64 (i : Int))) (some (.int .i64 ((i : Int) + (m : Int)))) none).run Try.prog wx = .ok (.string (s.extract i (i + m))) wx := fun wx => by
      have := run_slice_string (P := Try.prog) wx 9 s .i64 .i64 (i : Int) ((i : Int) + (m : Int)) Try.underlying9 (Int.natCast_nonneg _) (le_two i m) (le_two' HN.out.2)
      rwa [Int.toNat_natCast, show ((i : Int) + (m : Int)).toNat = i + m from toNat_two i m] at this
    clear h0 h1 hY hx ho hc' HE hm2 hx1 hms
    gi_wp2
    refine wpIn_wide.2 ?_
    go_region
    have hc2 : wr.drew.cell? ⟨Bn, 0, none⟩ = some (.string s) := hc
    gi_wp2
    clear hsl hix
    refine hR.mono ?_
    rintro e W3 (⟨rfl, hJ3, hk3⟩ | ⟨rfl, hJx3⟩)
    · have hc3 := (hk3.cell (p := ⟨Bn, 0, none⟩) hB).trans hc2
      gi_wp2
      go_roundw
      case rel => exact ⟨i + m, pre ++ [((i : Int), s.extract i (i + m))], by simp, ⟨HN.out.2⟩, ⟨by rw [HT.out]; simp⟩, hJ3, hc3⟩
      case measure => simp only [intOf]; exact less_two HN.out.1 HL.out
    · gi_wp2
      refine bodyPost_ret (results_none rfl _ _ _) rfl ?_
      exact ⟨⟨_, rfl⟩, .inr ⟨pre ++ [((i : Int), s.extract i (i + m))], ⟨items s (i + m), by rw [HT.out]; simp⟩, hJx3⟩⟩
/-- What is yielded of options that are right has a byte at least. -/
abbrev ItemR := { x : Int × ByteArray // 0 < x.2.size }
abbrev encR (x : ItemR) : Array Value := #[.int .i64 x.1.1, .string x.1.2]
abbrev encI (x : Int × ByteArray) : Array Value := #[.int .i64 x.1, .string x.2]
theorem walk_stops (n : Nat) (hn : 1 ≤ n) (Bn n₀ : Nat) (s : ByteArray) (hs : s.size ≤ 140737488351232) (w : World) (hB : Bn < n₀) (hn₀ : n₀ ≤ w.heap.size) (hc : w.cell? ⟨Bn, 0, none⟩ = some (.string s)) :
    SeqStopsK Fence.wide n Try.prog 159 #[.pointer (some ⟨Bn, 0, none⟩)] encI (Below n₀) (fun ys => ys = items s 0) (fun pre => pre <+: items s 0) (items s 0).length w := fun l J Jx W hW hJ _ hY h0 =>
  walk1_in n hn l Bn n₀ s hs J Jx (fun p W k h => hJ p W (W.drewN k) none h (grown_drewN (grown_refl W none) k) (fun r e => by cases e)) (fun pre x W h1 h2 _ => hY pre x W h1 h2) W hB ((hW.cell (p := ⟨Bn, 0, none⟩) (Nat.lt_of_lt_of_le hB hn₀)).trans hc) h0
theorem walk_stopsR (n : Nat) (hn : 1 ≤ n) (Bn n₀ : Nat) (s : ByteArray) (hs : s.size ≤ 140737488351232) (hr : ∀ x ∈ items s 0, 0 < x.2.size) (w : World) (hB : Bn < n₀) (hn₀ : n₀ ≤ w.heap.size) (hc : w.cell? ⟨Bn, 0, none⟩ = some (.string s)) :
    SeqStopsK Fence.wide n Try.prog 159 #[.pointer (some ⟨Bn, 0, none⟩)] encR (Below n₀) (fun ys => ys.map (·.1) = items s 0) (fun pre => pre.map (·.1) <+: items s 0) (items s 0).length w := fun l J Jx W hW hJ _ hY h0 => by
  refine (walk1_in n hn l Bn n₀ s hs (fun pre W => ∃ q : List ItemR, q.map (·.1) = pre ∧ J q W) (fun pre W => ∃ q : List ItemR, q.map (·.1) = pre ∧ Jx q W)
    (fun p W k h => by obtain ⟨q, rfl, h⟩ := h; exact ⟨q, rfl, hJ q W (W.drewN k) none h (grown_drewN (grown_refl W none) k) (fun r e => by cases e)⟩)
    (fun pre x W h1 h2 h3 => ?_) W hB ((hW.cell (p := ⟨Bn, 0, none⟩) (Nat.lt_of_lt_of_le hB hn₀)).trans hc) ⟨[], rfl, h0⟩).mono ?_
  · obtain ⟨q, rfl, h1⟩ := h1
    obtain ⟨fn, tmps, assign, body, hy, hR⟩ := hY q ⟨x, hr x (h3.subset (by simp))⟩ W h1 (by simpa using h2)
    refine ⟨fn, tmps, assign, body, hy, hR.mono ?_⟩
    rintro e W3 (⟨rfl, hJ3, hk3⟩ | ⟨rfl, hJx3⟩)
    · exact .inl ⟨rfl, ⟨_, by simp, hJ3⟩, hk3⟩
    · exact .inr ⟨rfl, _, by simp, hJx3⟩
  · rintro e W' ⟨he, ⟨ys, h1, q, rfl, h2⟩ | ⟨pre, h1, q, rfl, h2⟩⟩
    · exact ⟨he, .inl ⟨q, h1, h2⟩⟩
    · exact ⟨he, .inr ⟨q, h1, h2⟩⟩
end Go.Proofs.Ytejmipoolbodgaa.G
end

section
/- By hand: tcp.Right, tcp.MSS: ranges over tcp.walk. -/
namespace Go.Proofs.Ytejmipoolbodgaa.G
open Go.RowKit Go.Shelf Go.Proofs.YtejmipoolbodgaaW.PrintWords Go.Proofs.YtejmipoolbodgaaW.PrintLast Go.Proofs.YtejmipoolbodgaaW.PrintMore Go.Proofs.Ytejmipoolbodgaa.Pal
attribute [local go_sem] Oper.semAt_some
set_option linter.unusedVariables false
set_option linter.unusedSimpArgs false
def hasNeg (l : List (Int × ByteArray)) : Prop := ∃ x ∈ l, x.1 < 0
def noNeg (l : List (Int × ByteArray)) : Prop := ∀ x ∈ l, ¬ x.1 < 0
set_option maxRecDepth 100000 in
set_option maxHeartbeats 4000000 in
theorem tcp_Right.calls (s : ByteArray) (r : Bool) (w : World) (h : tcp_Right.f s = some r) :
    Calls Try.prog 65 #[.string s] w fun e w' => e = .returned (.bool r) ∧ Below w.heap.size w w' := by
  unfold tcp_Right.f at h
  split at h
  case isFalse => exact absurd h (by simp)
  rename_i hs
  have hr := Option.some.inj h
  clear h
  refine (callsIn_wide (n := 4)).1 ?_
  refine callsIn_of_wp_marks Try.func65 rfl trivial ?_ rfl
  simp only [Try.ntmps65, List.size_toArray, List.length_cons, List.length_nil, Nat.reduceAdd, Nat.reduceSub, Array.replicate_succ, Array.replicate_zero, List.push_toArray, List.append_toArray, List.nil_append, List.cons_append]
  gi_wp2_with (refine ⟨trivial, ?_⟩; gi_at_call 133; refine (walk_in Fence.wide _ trivial rfl s _).mono ?_; rintro e w' ⟨rfl, rfl⟩)
  have hc0 : ((w.alloc (.cells #[.bool false] 4)).alloc (.cells #[.string s] 9)).cell? ⟨w.heap.size + 1, 0, none⟩ = some (.string s) := by
    have := (Blk.new (w.alloc (.cells #[.bool false] 4)) 9 #[.string s]).cell 0 _ rfl
    rwa [World.size_alloc] at this
  have hb0 := (Blk.new w 4 #[.bool false]).alloc (.cells #[.string s] 9)
  have hB0 : Below w.heap.size w ((w.alloc (.cells #[.bool false] 4)).alloc (.cells #[.string s] 9)) := ((Below.refl _ w).alloc (Nat.le_refl _) _).alloc (by simp) _
  refine wpIn_rangeFunc_ownF (α := Int × ByteArray) (encs := encI) rfl (show 1 ≤ 4 by decide) (gf := 159) (lb := #[.pointer (some ⟨w.heap.size + 1, 0, none⟩)]) rfl trivial (enters_of Try.func159 (by kernel_rfl) rfl)
    (walk_stops 3 (by decide) (w.heap.size + 1) (w.heap.size + 2) s hs _ (by omega) (by simp) hc0) belowK_t (belowK_b (by simp)) (Below.refl _ _) (fun _ => rfl)
    (fun pre W => (W.cell? ⟨w.heap.size, 0, none⟩ = some (.bool false) ∧ W.frozen? ⟨w.heap.size, 0, none⟩ = false ∧ noNeg pre) ∧ Below w.heap.size w W)
    (fun c pre W => (c = .ret ∧ W.cell? ⟨w.heap.size, 0, none⟩ = some (.bool false) ∧ hasNeg pre) ∧ Below w.heap.size w W)
    (OwnFrom.and (Own.from (fun s A B row hs hg hr => ⟨cell_kept hs.1 hg hr, (frozen_kept hs.1 hg hr).trans hs.2.1, hs.2.2⟩) _) (ownFrom_below (Nat.le_refl _) (by simp; omega)))
    (fun c => OwnFrom.and (Own.from (fun s A B row hs hg hr => ⟨hs.1, cell_kept hs.2.1 hg hr, hs.2.2⟩) _) (ownFrom_below (Nat.le_refl _) (by simp; omega)))
    ⟨⟨hb0.cell 0 _ rfl, hb0.free 0, fun x hx => absurd hx (by simp)⟩, hB0⟩
    (fun x => { tmps := #[.string s, undef, .pointer (some ⟨w.heap.size, 0, none⟩), .int .i64 x.1, .string s, .func (.func 159) #[] #[.pointer (some ⟨w.heap.size + 1, 0, none⟩)], .int .i64 x.1, .string x.2, undef, undef], defers := [] }) ?assign ?body ?done ?stop
  case assign =>
    intro l x W K hK
    gi_wp2
    exact hK
  case body =>
    rintro l pre x W ⟨⟨hcl, hfr, hall⟩, hB⟩ _
    by_cases hx : x.1 < 0
    · have d1 : decide (x.1 < 0) = true := decide_eq_true hx
      have HX := Aside0.mk (show hasNeg (pre ++ [x]) from ⟨x, by simp, hx⟩)
      clear hx
      gi_wp2
      exact ⟨KeepsOthers.setCell _ _ _, ⟨rfl, World.cell?_setCell_same' _ _ _ (by rw [hcl]; rfl), HX.out⟩, hB.setCell (p := ⟨w.heap.size, 0, none⟩) (Nat.le_refl _) _⟩
    · have d1 : decide (x.1 < 0) = false := decide_eq_false hx
      have HX := Aside0.mk (show noNeg (pre ++ [x]) from fun y hy => by rcases List.mem_append.1 hy with hy | hy; exact hall y hy; rw [List.mem_singleton.1 hy]; exact hx)
      clear hx
      gi_wp2
      exact ⟨KeepsOthers.refl _, Below.refl _ _, ⟨hcl, hfr, HX.out⟩, hB⟩
  case done =>
    rintro D ys W hD rfl ⟨⟨hcl, hfr, hall⟩, hB⟩ hK
    have hrt : rightO (bl s) = true := (items_all s).mpr hall
    gi_wp2
    have hK' := (KeepsOthers.setCell W ⟨w.heap.size, 0, none⟩ (.bool true)).same D _ hK rfl
    refine ⟨by simp, .inl ⟨_, _, rfl, run_takeDeferred hK', ?_⟩⟩
    have hc5 := cell_kept (World.cell?_setCell_same' W ⟨w.heap.size, 0, none⟩ (.bool true) (by rw [hcl]; rfl)) (grownBy_putObj' _ D (.deferred none)) (fun r e => by cases e; exact ⟨_, hK', rfl⟩)
    refine ⟨.bool true, ?_, by rw [← hr, hrt], (hB.setCell (p := ⟨w.heap.size, 0, none⟩) (Nat.le_refl _) _).trans (belowK_b (w := w) (Nat.le_refl _) _ D _ _ (by simp at hD; omega) hK' rfl rfl)⟩
    simp [results, Try.f65, go_sem, hc5]
  case stop =>
    rintro D c pre W hD hSp ⟨⟨rfl, hcl, x, hx, hx0⟩, hB⟩ hK
    have hrt : rightO (bl s) = false := by
      cases hq : rightO (bl s) with
      | false => rfl
      | true => exact absurd hx0 ((items_all s).mp hq x (hSp.subset hx))
    gi_wp2
    refine ⟨by simp, .inl ⟨_, _, rfl, run_takeDeferred hK, ?_⟩⟩
    have hc5 := cell_kept hcl (grownBy_putObj' _ D (.deferred none)) (fun r e => by cases e; exact ⟨_, hK, rfl⟩)
    refine ⟨.bool false, ?_, by rw [← hr, hrt], hB.trans (belowK_b (w := w) (Nat.le_refl _) _ D _ _ (by simp at hD; omega) hK rfl rfl)⟩
    simp [results, Try.f65, go_sem, hc5]
end Go.Proofs.Ytejmipoolbodgaa.G
end

section
/- Plain theory: the first MSS among what a walk over options yields. No program in it. -/
namespace Go.Proofs.Ytejmipoolbodgaa.Pal
open Go.RowKit Go.Proofs.Ytejmipoolbodgaa.G Go.Proofs.Ytejmipoolbodgaa.Pure
set_option linter.unusedVariables false
set_option linter.unusedSimpArgs false
def hitI (x : Int × ByteArray) : Bool := (bl x.2).getD 0 0 == 2 && x.2.size == 4
def valI (x : Int × ByteArray) : Int × Int := (((((bl x.2).getD 2 0).toNat * 256 + ((bl x.2).getD 3 0).toNat : Nat) : Int), wrap64 (x.1 + 2))
def found (l : List (Int × ByteArray)) : Option (Int × Int) := (l.find? hitI).map valI
theorem found_miss {l : List (Int × ByteArray)} {x : Int × ByteArray} (h : found l = none) (hx : hitI x = false) : found (l ++ [x]) = none := by
  unfold found at *
  rw [List.find?_append, Option.map_eq_none_iff.mp h]
  simp [hx]
theorem found_hit {l : List (Int × ByteArray)} {x : Int × ByteArray} (h : found l = none) (hx : hitI x = true) : found (l ++ [x]) = some (valI x) := by
  unfold found at *
  rw [List.find?_append, Option.map_eq_none_iff.mp h]
  simp [hx]
theorem found_prefix {l m : List (Int × ByteArray)} {v : Int × Int} (hp : l <+: m) (h : found l = some v) : found m = some v := by
  obtain ⟨t, rfl⟩ := hp
  unfold found at *
  rw [List.find?_append]
  obtain ⟨x, hx, hv⟩ := Option.map_eq_some_iff.mp h
  rw [hx]
  simp [hv]
theorem item_byte (s : ByteArray) (p : Nat × Nat) (k : Nat) (h : p.1 + p.2 ≤ (bl s).length) (hk : k < p.2) : (bl (itemOf s p).2).getD k 0 = (bl s).getD (p.1 + k) 0 := by
  have e : bl (s.extract p.1 (p.1 + p.2)) = ((bl s).take (p.1 + p.2)).drop p.1 := by simp [bl, ByteArray.data_extract, List.drop_take]
  unfold itemOf
  dsimp only
  rw [e]
  simp [List.getD_eq_getElem?_getD, List.getElem?_drop, List.getElem?_take, hk]
theorem item_size (s : ByteArray) (p : Nat × Nat) (h : p.1 + p.2 ≤ (bl s).length) : (itemOf s p).2.size = p.2 := by
  rw [bl_length] at h
  unfold itemOf; dsimp only
  simp only [ByteArray.size_extract]; omega
theorem found_is (s : ByteArray) (hs : s.size ≤ 140737488351232) {L : List (Nat × Nat)} (hL : W (bl s) 0 = some L) : found (items s 0) = (mssOf (bl s)).map fun p => ((p.1 : Int), (p.2 : Int)) := by
  rw [items_right s 0 L hL, mssOf_of hL]
  have hm := W_mem 0 L hL
  clear hL
  unfold found
  induction L with
  | nil => rfl
  | cons p L ih =>
    have hp := hm p List.mem_cons_self
    have e : hitI (itemOf s p) = isMSS (bl s) p := by
      unfold hitI isMSS
      rw [item_byte s p 0 hp.2.1 (by omega), item_size s p hp.2.1]
      rfl
    rw [List.map_cons, List.find?_cons, List.find?_cons, e]
    cases hx : isMSS (bl s) p with
    | false => exact ih fun q hq => hm q (List.mem_cons_of_mem _ hq)
    | true =>
      have h4 : p.2 = 4 := by
        unfold isMSS at hx
        simp only [Bool.and_eq_true, beq_iff_eq] at hx
        exact hx.2
      have hb := bl_length s
      simp only [Option.map_some, valI, mssAt]
      rw [item_byte s p 2 hp.2.1 (by omega), item_byte s p 3 hp.2.1 (by omega)]
      congr 2
      unfold itemOf; dsimp only
      unfold wrap64; omega
theorem items_some (s : ByteArray) (h : rightO (bl s) = true) : ∀ x ∈ items s 0, 0 < x.2.size := by
  obtain ⟨L, hL⟩ := rightO_some h
  rw [items_right s 0 L hL]
  intro x hx
  obtain ⟨p, hp, rfl⟩ := List.mem_map.mp hx
  have hm := W_mem 0 L hL p hp
  rw [item_size s p hm.2.1]; omega
end Go.Proofs.Ytejmipoolbodgaa.Pal
end
