/- Plain facts on worlds: a block known whole, what a call leaves of the others. No function of the program in it. -/
import Derived.Test.YtcmalglippmocaaDoorG0
import Derived.OneCell
namespace Go.Proofs.YtcmalglippmocaaDoor.Pal
open Go.RowKit
/-- Block b holds the cells cs, of type T, none of them frozen. -/
def Blk (w : World) (b : Nat) (T : TypeId) (cs : Array Value) : Prop := w.heap[b]? = some (.cells cs T (0, 0))
theorem Blk.cell {w : World} {b : Nat} {T : TypeId} {cs : Array Value} (h : Blk w b T cs) (j : Nat) (v : Value) (hv : cs[j]? = some v) : w.cell? ⟨b, j, none⟩ = some v := by
  unfold Blk at h
  simp [World.cell?, h, hv]
theorem Blk.free {w : World} {b : Nat} {T : TypeId} {cs : Array Value} (h : Blk w b T cs) (j : Nat) : w.frozen? ⟨b, j, none⟩ = false := by
  unfold Blk at h
  simp [World.frozen?, h]
theorem Blk.lt {w : World} {b : Nat} {T : TypeId} {cs : Array Value} (h : Blk w b T cs) : b < w.heap.size := lt_of_block h
theorem Blk.set {w : World} {b : Nat} {T : TypeId} {cs : Array Value} (h : Blk w b T cs) (j : Nat) (v : Value) : Blk (w.setCell ⟨b, j, none⟩ v) b T (cs.setIfInBounds j v) := by
  have hlt := h.lt
  unfold Blk at h ⊢
  have h' : w.heap[b] = .cells cs T (0, 0) := by simpa [Array.getElem?_eq_getElem hlt] using h
  show (w.heap.modify b _)[b]? = _
  rw [Array.getElem?_eq_getElem (by simpa using hlt), Array.getElem_modify_self, h']
  rfl
theorem Blk.other {w : World} {b : Nat} {T : TypeId} {cs : Array Value} (h : Blk w b T cs) (p : Addr) (hp : b ≠ p.block) (v : Value) : Blk (w.setCell p v) b T cs := by
  unfold Blk at h ⊢
  rw [Below.heap_setCell _ _ _ _ hp]; exact h
theorem Blk.alloc {w : World} {b : Nat} {T : TypeId} {cs : Array Value} (h : Blk w b T cs) (o : Obj) : Blk (w.alloc o) b T cs := by
  have hlt := h.lt
  unfold Blk at h ⊢
  rw [Below.heap_alloc _ _ _ hlt]; exact h
theorem Blk.drew {w : World} {b : Nat} {T : TypeId} {cs : Array Value} (h : Blk w b T cs) : Blk w.drew b T cs := h
theorem Blk.drewN {w : World} {b : Nat} {T : TypeId} {cs : Array Value} (h : Blk w b T cs) (n : Nat) : Blk (w.drewN n) b T cs := h
theorem Blk.new (w : World) (T : TypeId) (cs : Array Value) : Blk (w.alloc (.cells cs T)) w.heap.size T cs := heap_alloc_new w _
/-- What a call that writes block R alone (and makes what it likes) leaves: the kit's 'grownBy' with some block. -/
theorem Blk.grown {w w' : World} {b : Nat} {T : TypeId} {cs : Array Value} (h : Blk w b T cs) {R : Nat} (hg : w.grownBy w' (some R)) (hb : b ≠ R) : Blk w' b T cs := by
  have hlt := h.lt
  unfold Blk at h ⊢
  rw [hg.block b hlt (by simpa using hb)]; exact h
theorem Blk.below {w w' : World} {b : Nat} {T : TypeId} {cs : Array Value} (h : Blk w b T cs) {B : Nat} (hg : Below B w w') (hb : b < B) : Blk w' b T cs := by
  unfold Blk at h ⊢
  rw [hg.block b hb]; exact h
/-- Below B all is as it was, if the one block that was written is none of those. -/
theorem below_of_grown {w w' : World} {R B : Nat} (hg : w.grownBy w' (some R)) (hB : B ≤ w.heap.size) (hR : B ≤ R) : Below B w w' :=
  ⟨hg.os, hg.tape, hg.output, hg.size, fun k hk => hg.block k (by omega) (by simp; omega)⟩
theorem grown_setCell (w : World) (b j : Nat) (v : Value) : w.grownBy (w.setCell ⟨b, j, none⟩ v) (some b) :=
  ⟨rfl, rfl, rfl, by simp [World.setCell], fun k _ hk => Below.heap_setCell _ _ _ _ (by simpa using hk)⟩
theorem grown_refl (w : World) (r : Option Nat) : w.grownBy w r := ⟨rfl, rfl, rfl, Nat.le_refl _, fun _ _ _ => rfl⟩
theorem grown_alloc {a w : World} {r : Option Nat} (h : a.grownBy w r) (o : Obj) : a.grownBy (w.alloc o) r := World.grownBy.trans h (World.grownBy_alloc w o r)
theorem grown_drew {a w : World} {r : Option Nat} (h : a.grownBy w r) : a.grownBy w.drew r := ⟨h.os, h.tape, h.output, h.size, h.block⟩
theorem grown_drewN {a w : World} {r : Option Nat} (h : a.grownBy w r) (n : Nat) : a.grownBy (w.drewN n) r := ⟨h.os, h.tape, h.output, h.size, h.block⟩
theorem grown_of_below' {a w w' : World} {r : Option Nat} (h : a.grownBy w r) (k : Below w.heap.size w w') : a.grownBy w' r := World.grownBy.trans h ⟨k.os, k.tape, k.output, k.size, fun i hi _ => k.block i hi⟩
theorem Blk.cells {w : World} {b : Nat} {T : TypeId} {cs : Array Value} (h : Blk w b T cs) : ∀ j, w.cell? ⟨b, j, none⟩ = cs[j]? := fun j => by
  unfold Blk at h
  simp [World.cell?, h]
theorem Blk.frees {w : World} {b : Nat} {T : TypeId} {cs : Array Value} (h : Blk w b T cs) : ∀ j, w.frozen? ⟨b, j, none⟩ = false := fun j => h.free j
/-- Blocks known whole. -/
def Hp (w : World) (bs : List (Nat × TypeId × Array Value)) : Prop := ∀ x ∈ bs, Blk w x.1 x.2.1 x.2.2
theorem Hp.nil (w : World) : Hp w [] := fun _ h => nomatch h
theorem Hp.cons {w : World} {b : Nat} {T : TypeId} {cs : Array Value} {bs : List (Nat × TypeId × Array Value)} (h : Blk w b T cs) (k : Hp w bs) : Hp w ((b, T, cs) :: bs) := fun x hx => by
  rcases List.mem_cons.1 hx with rfl | hx
  · exact h
  · exact k x hx
theorem Hp.head {w : World} {b : Nat} {T : TypeId} {cs : Array Value} {bs : List (Nat × TypeId × Array Value)} (h : Hp w ((b, T, cs) :: bs)) : Blk w b T cs := h _ List.mem_cons_self
theorem Hp.tail {w : World} {x : Nat × TypeId × Array Value} {bs : List (Nat × TypeId × Array Value)} (h : Hp w (x :: bs)) : Hp w bs := fun y hy => h y (List.mem_cons_of_mem _ hy)
theorem Hp.grown {w w' : World} {bs : List (Nat × TypeId × Array Value)} (h : Hp w bs) {R : Nat} (hg : w.grownBy w' (some R)) (hR : ∀ x ∈ bs, x.1 ≠ R) : Hp w' bs := fun x hx => (h x hx).grown hg (hR x hx)
theorem Hp.below {w w' : World} {bs : List (Nat × TypeId × Array Value)} (h : Hp w bs) {B : Nat} (hg : Below B w w') (hB : ∀ x ∈ bs, x.1 < B) : Hp w' bs := fun x hx => (h x hx).below hg (hB x hx)
theorem Hp.alloc {w : World} {bs : List (Nat × TypeId × Array Value)} (h : Hp w bs) (o : Obj) : Hp (w.alloc o) bs := fun x hx => (h x hx).alloc o
theorem Hp.drew {w : World} {bs : List (Nat × TypeId × Array Value)} (h : Hp w bs) : Hp w.drew bs := h
theorem Hp.drewN {w : World} {bs : List (Nat × TypeId × Array Value)} (h : Hp w bs) (n : Nat) : Hp (w.drewN n) bs := h
theorem Hp.other {w : World} {bs : List (Nat × TypeId × Array Value)} (h : Hp w bs) (p : Addr) (hp : ∀ x ∈ bs, x.1 ≠ p.block) (v : Value) : Hp (w.setCell p v) bs := fun x hx => (h x hx).other p (hp x hx) v
theorem Hp.set {w : World} {b : Nat} {T : TypeId} {cs : Array Value} {l1 l2 : List (Nat × TypeId × Array Value)} (h : Hp w (l1 ++ (b, T, cs) :: l2)) (j : Nat) (v : Value) (h1 : ∀ x ∈ l1, x.1 ≠ b) (h2 : ∀ x ∈ l2, x.1 ≠ b) :
    Hp (w.setCell ⟨b, j, none⟩ v) (l1 ++ (b, T, cs.setIfInBounds j v) :: l2) := fun x hx => by
  rcases List.mem_append.1 hx with hx | hx
  · exact (h x (List.mem_append.2 (.inl hx))).other _ (h1 x hx) v
  · rcases List.mem_cons.1 hx with rfl | hx
    · exact (h (b, T, cs) (List.mem_append.2 (.inr List.mem_cons_self))).set j v
    · exact (h x (List.mem_append.2 (.inr (List.mem_cons_of_mem _ hx)))).other _ (h2 x hx) v
/-- A row of texts, by its cells. -/
theorem C_cells {w : World} {b : Nat} (xs : List ByteArray) (hn : xs.length ≤ 9223372036854775807) (h : ∀ j p, xs[j]? = some p → w.cell? ⟨b, j, none⟩ = some (.string p)) : Go.Proofs.YtcmalglippmocaaDoorW.PrintWords.Kd.C Go.Proofs.YtcmalglippmocaaDoorW.PrintWords.Kd.string w (some ⟨b, 0, none⟩) xs.length xs :=
  ⟨rfl, hn, fun _ => ⟨⟨b, 0, none⟩, rfl, fun j p hp => ⟨[.string p], rfl, rfl, fun i u hi => by
    match i, hi with
    | 0, hi =>
      obtain rfl := Option.some.inj hi
      have e : Addr.add ⟨b, 0, none⟩ (j * 1 + 0) = ⟨b, j, none⟩ := by rw [Nat.mul_one, Nat.add_zero]; cases j <;> simp [Addr.add]
      exact (congrArg w.cell? e).trans (h j p hp)
    | i + 1, hi => simp at hi⟩⟩⟩
theorem C_one (w : World) (T : TypeId) (x : ByteArray) : Go.Proofs.YtcmalglippmocaaDoorW.PrintWords.Kd.C Go.Proofs.YtcmalglippmocaaDoorW.PrintWords.Kd.string (w.alloc (.cells #[.string x] T)) (some ⟨w.heap.size, 0, none⟩) 1 [x] :=
  C_cells [x] (by simp) fun j p hp => by
    match j, hp with
    | 0, hp => obtain rfl := Option.some.inj hp; exact (Blk.new w T #[.string x]).cell 0 _ rfl
    | j + 1, hp => simp at hp
theorem C_two (w : World) (T : TypeId) (x y : ByteArray) : Go.Proofs.YtcmalglippmocaaDoorW.PrintWords.Kd.C Go.Proofs.YtcmalglippmocaaDoorW.PrintWords.Kd.string (w.alloc (.cells #[.string x, .string y] T)) (some ⟨w.heap.size, 0, none⟩) 2 [x, y] :=
  C_cells [x, y] (by simp) fun j p hp => by
    match j, hp with
    | 0, hp => obtain rfl := Option.some.inj hp; exact (Blk.new w T #[.string x, .string y]).cell 0 _ rfl
    | 1, hp => obtain rfl := Option.some.inj hp; exact (Blk.new w T #[.string x, .string y]).cell 1 _ rfl
    | j + 2, hp => simp at hp
end Go.Proofs.YtcmalglippmocaaDoor.Pal
