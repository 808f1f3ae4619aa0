/- Texts of this session, joined: each is a section. -/
import Derived.Test.YtcmalglippmocaaDoorMFtun1
import Derived.OneCell
import Derived.Laws.Rows
import Derived.Laws.BitsLemmas
import Derived.Laws.Bits64
import Derived.Laws.BitsAllLaws
import Derived.Lib.Builder
import Derived.Lib.FrozenHead2
import Derived.Lib.UnsafeStr
import Derived.Laws.Externs
import Derived.Lib.Hide
import Derived.RegionTactic
import Derived.StillTailTactics
import Derived.Shelf.Strings.BuilderX
set_option linter.unusedVariables false
set_option linter.unusedSimpArgs false
section
namespace Go.Proofs.YtcmalglippmocaaDoor.Pal
open Go.RowKit
def Blk (w : World) (b : Nat) (T : TypeId) (cs : Array Value) : Prop := w.heap[b]? = some (.cells cs T (0, 0))
theorem Blk.cell {w : World} {b : Nat} {T : TypeId} {cs : Array Value} (h : Blk w b T cs) (j : Nat) (v : Value) (hv : cs[j]? = some v) : w.cell? ⟨b, j, none⟩ = some v := by
  unfold Blk at h
  simp [World.cell?, h, hv]
theorem Blk.free {w : World} {b : Nat} {T : TypeId} {cs : Array Value} (h : Blk w b T cs) (j : Nat) : w.frozen? ⟨b, j, none⟩ = false := by
  unfold Blk at h
  simp [World.frozen?, h]
theorem Blk.lt {w : World} {b : Nat} {T : TypeId} {cs : Array Value} (h : Blk w b T cs) : b < w.heap.size := lt_of_block h
theorem Blk.set {w : World} {b : Nat} {T : TypeId} {cs : Array Value} (h : Blk w b T cs) (j : Nat) (v : Value) : Blk (w.setCell ⟨b, j, none⟩ v) b T (cs.setIfInBounds j v) := by
  have hlt := h.lt
  unfold Blk at h ⊢
  have h' : w.heap[b] = .cells cs T (0, 0) := by simpa [Array.getElem?_eq_getElem hlt] using h
  show (w.heap.modify b _)[b]? = _
  rw [Array.getElem?_eq_getElem (by simpa using hlt), Array.getElem_modify_self, h']
  rfl
theorem Blk.other {w : World} {b : Nat} {T : TypeId} {cs : Array Value} (h : Blk w b T cs) (p : Addr) (hp : b ≠ p.block) (v : Value) : Blk (w.setCell p v) b T cs := by
  unfold Blk at h ⊢
  rw [Below.heap_setCell _ _ _ _ hp]; exact h
theorem Blk.alloc {w : World} {b : Nat} {T : TypeId} {cs : Array Value} (h : Blk w b T cs) (o : Obj) : Blk (w.alloc o) b T cs := by
  have hlt := h.lt
  unfold Blk at h ⊢
  rw [Below.heap_alloc _ _ _ hlt]; exact h
theorem Blk.drew {w : World} {b : Nat} {T : TypeId} {cs : Array Value} (h : Blk w b T cs) : Blk w.drew b T cs := h
theorem Blk.drewN {w : World} {b : Nat} {T : TypeId} {cs : Array Value} (h : Blk w b T cs) (n : Nat) : Blk (w.drewN n) b T cs := h
theorem Blk.new (w : World) (T : TypeId) (cs : Array Value) : Blk (w.alloc (.cells cs T)) w.heap.size T cs := heap_alloc_new w _
theorem Blk.grown {w w' : World} {b : Nat} {T : TypeId} {cs : Array Value} (h : Blk w b T cs) {R : Nat} (hg : w.grownBy w' (some R)) (hb : b ≠ R) : Blk w' b T cs := by
  have hlt := h.lt
  unfold Blk at h ⊢
  rw [hg.block b hlt (by simpa using hb)]; exact h
theorem Blk.below {w w' : World} {b : Nat} {T : TypeId} {cs : Array Value} (h : Blk w b T cs) {B : Nat} (hg : Below B w w') (hb : b < B) : Blk w' b T cs := by
  unfold Blk at h ⊢
  rw [hg.block b hb]; exact h
theorem below_of_grown {w w' : World} {R B : Nat} (hg : w.grownBy w' (some R)) (hB : B ≤ w.heap.size) (hR : B ≤ R) : Below B w w' :=
  ⟨hg.os, hg.tape, hg.output, hg.size, fun k hk => hg.block k (by omega) (by simp; omega)⟩
theorem grown_setCell (w : World) (b j : Nat) (v : Value) : w.grownBy (w.setCell ⟨b, j, none⟩ v) (some b) :=
  ⟨rfl, rfl, rfl, by simp [World.setCell], fun k _ hk => Below.heap_setCell _ _ _ _ (by simpa using hk)⟩
theorem grown_refl (w : World) (r : Option Nat) : w.grownBy w r := ⟨rfl, rfl, rfl, Nat.le_refl _, fun _ _ _ => rfl⟩
theorem grown_alloc {a w : World} {r : Option Nat} (h : a.grownBy w r) (o : Obj) : a.grownBy (w.alloc o) r := World.grownBy.trans h (World.grownBy_alloc w o r)
theorem grown_drewN {a w : World} {r : Option Nat} (h : a.grownBy w r) (n : Nat) : a.grownBy (w.drewN n) r := ⟨h.os, h.tape, h.output, h.size, h.block⟩
theorem grown_of_below' {a w w' : World} {r : Option Nat} (h : a.grownBy w r) (k : Below w.heap.size w w') : a.grownBy w' r := World.grownBy.trans h ⟨k.os, k.tape, k.output, k.size, fun i hi _ => k.block i hi⟩
theorem Blk.cells {w : World} {b : Nat} {T : TypeId} {cs : Array Value} (h : Blk w b T cs) : ∀ j, w.cell? ⟨b, j, none⟩ = cs[j]? := fun j => by
  unfold Blk at h
  simp [World.cell?, h]
theorem Blk.frees {w : World} {b : Nat} {T : TypeId} {cs : Array Value} (h : Blk w b T cs) : ∀ j, w.frozen? ⟨b, j, none⟩ = false := fun j => h.free j
def Hp (w : World) (bs : List (Nat × TypeId × Array Value)) : Prop := ∀ x ∈ bs, Blk w x.1 x.2.1 x.2.2
theorem Hp.nil (w : World) : Hp w [] := fun _ h => nomatch h
theorem Hp.cons {w : World} {b : Nat} {T : TypeId} {cs : Array Value} {bs : List (Nat × TypeId × Array Value)} (h : Blk w b T cs) (k : Hp w bs) : Hp w ((b, T, cs) :: bs) := fun x hx => by
  rcases List.mem_cons.1 hx with rfl | hx
  · exact h
  · exact k x hx
theorem Hp.head {w : World} {b : Nat} {T : TypeId} {cs : Array Value} {bs : List (Nat × TypeId × Array Value)} (h : Hp w ((b, T, cs) :: bs)) : Blk w b T cs := h _ List.mem_cons_self
theorem Hp.tail {w : World} {x : Nat × TypeId × Array Value} {bs : List (Nat × TypeId × Array Value)} (h : Hp w (x :: bs)) : Hp w bs := fun y hy => h y (List.mem_cons_of_mem _ hy)
theorem Hp.grown {w w' : World} {bs : List (Nat × TypeId × Array Value)} (h : Hp w bs) {R : Nat} (hg : w.grownBy w' (some R)) (hR : ∀ x ∈ bs, x.1 ≠ R) : Hp w' bs := fun x hx => (h x hx).grown hg (hR x hx)
theorem Hp.below {w w' : World} {bs : List (Nat × TypeId × Array Value)} (h : Hp w bs) {B : Nat} (hg : Below B w w') (hB : ∀ x ∈ bs, x.1 < B) : Hp w' bs := fun x hx => (h x hx).below hg (hB x hx)
theorem Hp.alloc {w : World} {bs : List (Nat × TypeId × Array Value)} (h : Hp w bs) (o : Obj) : Hp (w.alloc o) bs := fun x hx => (h x hx).alloc o
theorem Hp.drew {w : World} {bs : List (Nat × TypeId × Array Value)} (h : Hp w bs) : Hp w.drew bs := h
theorem Hp.drewN {w : World} {bs : List (Nat × TypeId × Array Value)} (h : Hp w bs) (n : Nat) : Hp (w.drewN n) bs := h
theorem Hp.other {w : World} {bs : List (Nat × TypeId × Array Value)} (h : Hp w bs) (p : Addr) (hp : ∀ x ∈ bs, x.1 ≠ p.block) (v : Value) : Hp (w.setCell p v) bs := fun x hx => (h x hx).other p (hp x hx) v
theorem Hp.set {w : World} {b : Nat} {T : TypeId} {cs : Array Value} {l1 l2 : List (Nat × TypeId × Array Value)} (h : Hp w (l1 ++ (b, T, cs) :: l2)) (j : Nat) (v : Value) (h1 : ∀ x ∈ l1, x.1 ≠ b) (h2 : ∀ x ∈ l2, x.1 ≠ b) :
    Hp (w.setCell ⟨b, j, none⟩ v) (l1 ++ (b, T, cs.setIfInBounds j v) :: l2) := fun x hx => by
  rcases List.mem_append.1 hx with hx | hx
  · exact (h x (List.mem_append.2 (.inl hx))).other _ (h1 x hx) v
  · rcases List.mem_cons.1 hx with rfl | hx
    · exact (h (b, T, cs) (List.mem_append.2 (.inr List.mem_cons_self))).set j v
    · exact (h x (List.mem_append.2 (.inr (List.mem_cons_of_mem _ hx)))).other _ (h2 x hx) v
theorem C_cells {w : World} {b : Nat} (xs : List ByteArray) (hn : xs.length ≤ 9223372036854775807) (h : ∀ j p, xs[j]? = some p → w.cell? ⟨b, j, none⟩ = some (.string p)) : Go.Proofs.YtcmalglippmocaaDoorW.PrintWords.Kd.C Go.Proofs.YtcmalglippmocaaDoorW.PrintWords.Kd.string w (some ⟨b, 0, none⟩) xs.length xs :=
  ⟨rfl, hn, fun _ => ⟨⟨b, 0, none⟩, rfl, fun j p hp => ⟨[.string p], rfl, rfl, fun i u hi => by
    match i, hi with
    | 0, hi =>
      obtain rfl := Option.some.inj hi
      have e : Addr.add ⟨b, 0, none⟩ (j * 1 + 0) = ⟨b, j, none⟩ := by rw [Nat.mul_one, Nat.add_zero]; cases j <;> simp [Addr.add]
      exact (congrArg w.cell? e).trans (h j p hp)
    | i + 1, hi => simp at hi⟩⟩⟩
theorem C_one (w : World) (T : TypeId) (x : ByteArray) : Go.Proofs.YtcmalglippmocaaDoorW.PrintWords.Kd.C Go.Proofs.YtcmalglippmocaaDoorW.PrintWords.Kd.string (w.alloc (.cells #[.string x] T)) (some ⟨w.heap.size, 0, none⟩) 1 [x] :=
  C_cells [x] (by simp) fun j p hp => by
    match j, hp with
    | 0, hp => obtain rfl := Option.some.inj hp; exact (Blk.new w T #[.string x]).cell 0 _ rfl
    | j + 1, hp => simp at hp
end Go.Proofs.YtcmalglippmocaaDoor.Pal
end

section
namespace Go.Proofs.YtcmalglippmocaaDoor.G
open Go.RowKit Go.Proofs.YtcmalglippmocaaDoor.Pal
def TabAt (w : World) (b : Nat) (l : List Int) : Prop := ∀ j x, l[j]? = some x → w.cell? ⟨b, j, none⟩ = some (.int .i64 x)
theorem TabAt.lt {w : World} {b : Nat} {l : List Int} {x : Int} (h : TabAt w b (x :: l)) : b < w.heap.size := by
  have := h 0 x rfl
  by_cases hb : b < w.heap.size
  · exact hb
  · rw [World.cell?] at this
    simp [Array.getElem?_eq_none (Nat.le_of_not_lt hb)] at this
theorem TabAt.below {w w' : World} {b : Nat} {x : Int} {l : List Int} (h : TabAt w b (x :: l)) (hb : Below w.heap.size w w') : TabAt w' b (x :: l) := fun j y hy =>
  (hb.cell (p := ⟨b, j, none⟩) h.lt).trans (h j y hy)
theorem isEmpty_of {s : ByteArray} (h : s.size = 0) : s.toList.isEmpty = true := by
  have e : s = ⟨#[]⟩ := by apply ByteArray.ext; exact Array.eq_empty_of_size_eq_zero h
  rw [e]; decide +kernel
theorem isEmpty_not {s : ByteArray} (h : ¬ s.size = 0) : s.toList.isEmpty = false := by
  have e : s.toList = s.data.toList := ByteArray.toList_eq s
  rw [e]
  cases hb : s.data.toList with
  | nil => exact absurd (show s.data.size = 0 by rw [← Array.length_toList, hb]; rfl) h
  | cons a l => rfl
theorem results_cell_tmp {P : Program} {fn : Func} {p t : Tmp} {ty : TypeId} (h : fn.results = #[.cell p ty, .tmp t]) (tmps : Array Value) (w : World) (k : Nat) (cs : Array Value) (d : TypeDesc)
    (hp : tmps.getD p undef = .pointer (some ⟨k, 0, none⟩)) (hb : Blk w k ty cs) (hu : P.underlying ty = some d) (hd : (match d with | .struct _ | .array _ _ => true | _ => false) = true) (hi : (P.info? ty).map (·.size) = some cs.size) :
    (results fn tmps).run P w = .ok (.tuple #[.agg cs, tmps.getD t undef]) w := by
  have hp' : tmps[p]?.getD undef = .pointer (some ⟨k, 0, none⟩) := by simpa using hp
  simp [results, h, hp', asAddr, run_loadVar_row w k ty ty cs (0, 0) d hb hu hd hi]
def GV (w : World) : Prop := TabAt w 0 [4, 4, 2048, 6, 41, 34525]
theorem GV.below {w w' : World} (h : GV w) (hb : Below w.heap.size w w') : GV w' := TabAt.below h hb
theorem GV.cells {w : World} (h : GV w) : w.cell? ⟨0, 0, none⟩ = some (.int .i64 4) ∧ w.cell? ⟨0, 1, none⟩ = some (.int .i64 4) ∧ w.cell? ⟨0, 2, none⟩ = some (.int .i64 2048) ∧ w.cell? ⟨0, 3, none⟩ = some (.int .i64 6) ∧ w.cell? ⟨0, 4, none⟩ = some (.int .i64 41) ∧ w.cell? ⟨0, 5, none⟩ = some (.int .i64 34525) :=
  ⟨h 0 _ rfl, h 1 _ rfl, h 2 _ rfl, h 3 _ rfl, h 4 _ rfl, h 5 _ rfl⟩
def GP (w : World) : Prop := TabAt w 1 [6, 16, 17, 6] ∧ TabAt w 2 [20, 8]
theorem GP.below {w w' : World} (h : GP w) (hb : Below w.heap.size w w') : GP w' := ⟨TabAt.below h.1 hb, TabAt.below h.2 hb⟩
theorem GP.cells {w : World} (h : GP w) : (w.cell? ⟨1, 0, none⟩ = some (.int .i64 6) ∧ w.cell? ⟨1, 1, none⟩ = some (.int .i64 16) ∧ w.cell? ⟨1, 2, none⟩ = some (.int .i64 17) ∧ w.cell? ⟨1, 3, none⟩ = some (.int .i64 6)) ∧ w.cell? ⟨2, 0, none⟩ = some (.int .i64 20) ∧ w.cell? ⟨2, 1, none⟩ = some (.int .i64 8) :=
  ⟨⟨h.1 0 _ rfl, h.1 1 _ rfl, h.1 2 _ rfl, h.1 3 _ rfl⟩, h.2 0 _ rfl, h.2 1 _ rfl⟩
end Go.Proofs.YtcmalglippmocaaDoor.G
end

section
namespace Go.Proofs.YtcmalglippmocaaDoor.Pal
def bl (s : ByteArray) : List UInt8 := s.data.toList
def tot : Bool → List UInt8 → Nat
  | _, [] => 0
  | false, b :: r => b.toNat * 256 + tot true r
  | true, b :: r => b.toNat + tot false r
def fold16 (n : Nat) : Nat := if n = 0 then 0 else (n - 1) % 65535 + 1
def csum (l : List UInt8) : Nat := 65535 - fold16 (tot false l)
def odd (l : List UInt8) : Bool := l.length % 2 == 1
theorem bl_length (s : ByteArray) : (bl s).length = s.size := by simp [bl]
theorem bl_append (a b : ByteArray) : bl (a ++ b) = bl a ++ bl b := by simp [bl]
theorem fold16_le (n : Nat) : fold16 n ≤ 65535 := by unfold fold16; split <;> omega
theorem fold16_id (n : Nat) (h : n ≤ 65535) : fold16 n = n := by unfold fold16; split <;> omega
theorem fold16_step (n : Nat) : fold16 (n % 65536 + n / 65536) = fold16 n := by unfold fold16; split <;> split <;> omega
theorem tot_append (a b : List UInt8) : ∀ o, tot o (a ++ b) = tot o a + tot (o != odd a) b := by
  induction a with
  | nil => intro o; cases o <;> simp [tot, odd]
  | cons x a ih =>
    intro o
    have hp : odd (x :: a) = !odd a := by
      unfold odd
      rw [List.length_cons]
      rcases Nat.mod_two_eq_zero_or_one a.length with h | h
      · have : (a.length + 1) % 2 = 1 := by omega
        rw [h, this]; rfl
      · have : (a.length + 1) % 2 = 0 := by omega
        rw [h, this]; rfl
    cases o
    · simp only [List.cons_append, tot, ih, hp]; cases odd a <;> simp <;> omega
    · simp only [List.cons_append, tot, ih, hp]; cases odd a <;> simp <;> omega
theorem tot_snoc (a : List UInt8) (x : UInt8) : tot false (a ++ [x]) = tot false a + (if odd a then x.toNat else x.toNat * 256) := by
  rw [tot_append]; cases odd a <;> simp [tot]
theorem odd_snoc (a : List UInt8) (x : UInt8) : odd (a ++ [x]) = !odd a := by
  unfold odd
  rw [List.length_append, List.length_singleton]
  rcases Nat.mod_two_eq_zero_or_one a.length with h | h
  · have : (a.length + 1) % 2 = 1 := by omega
    rw [h, this]; rfl
  · have : (a.length + 1) % 2 = 0 := by omega
    rw [h, this]; rfl
theorem tot_le (a : List UInt8) : ∀ o, tot o a ≤ 65280 * a.length := by
  induction a with
  | nil => intro o; cases o <;> simp [tot]
  | cons x a ih =>
    intro o
    have hx := x.toNat_lt
    have h1 := ih true
    have h2 := ih false
    cases o <;> simp only [tot, List.length_cons] <;> omega
def cat (l : List ByteArray) : List UInt8 := (l.map bl).flatten
theorem cat_nil : cat [] = [] := rfl
theorem cat_cons (s : ByteArray) (l : List ByteArray) : cat (s :: l) = bl s ++ cat l := rfl
end Go.Proofs.YtcmalglippmocaaDoor.Pal
end

section
namespace Go.Proofs.YtcmalglippmocaaDoor.Pal
theorem wraps_i64 (n : Int) (h₀ : 0 ≤ n) (h₁ : n < 2 ^ 63) : IntKind.i64.wrap n = n := by rw [IntKind.wrap_i64]; omega
theorem wraps_u64 (n : Int) (h₀ : 0 ≤ n) (h₁ : n < 2 ^ 64) : IntKind.u64.wrap n = n := by rw [IntKind.wrap_u64]; omega
theorem wraps_u32 (n : Int) (h₀ : 0 ≤ n) (h₁ : n < 2 ^ 32) : IntKind.u32.wrap n = n := by rw [IntKind.wrap_u32]; omega
theorem i64_and (a b : Nat) (ha : a < 2 ^ 63) (hb : b < 2 ^ 63) : Go.bits .and .i64 (a : Int) (b : Int) = ((a &&& b : Nat) : Int) := (bits_nat .i64 63 (by decide) wraps_i64 a b ha hb).1
theorem i64_or (a b : Nat) (ha : a < 2 ^ 63) (hb : b < 2 ^ 63) : Go.bits .or .i64 (a : Int) (b : Int) = ((a ||| b : Nat) : Int) := (bits_nat .i64 63 (by decide) wraps_i64 a b ha hb).2
theorem i64_xor (a b : Nat) (ha : a < 2 ^ 63) (hb : b < 2 ^ 63) : Go.bits .xor .i64 (a : Int) (b : Int) = ((a ^^^ b : Nat) : Int) := by
  have ha' : a % 2 ^ IntKind.i64.bits = a := Nat.mod_eq_of_lt (Nat.lt_of_lt_of_le ha (by decide))
  have hb' : b % 2 ^ IntKind.i64.bits = b := Nat.mod_eq_of_lt (Nat.lt_of_lt_of_le hb (by decide))
  have hx := Nat.xor_lt_two_pow ha hb
  simp only [Go.bits, BitVec.ofInt_natCast, BitVec.toNat_xor, BitVec.toNat_ofNat, ha', hb']
  exact wraps_i64 _ (Int.natCast_nonneg _) (by exact_mod_cast hx)
theorem u64_and' (a b : Nat) (ha : a < 2 ^ 64) (hb : b < 2 ^ 64) : Go.bits .and .u64 (a : Int) (b : Int) = ((a &&& b : Nat) : Int) := (bits_nat .u64 64 (by decide) wraps_u64 a b ha hb).1
theorem xor_ones (n : Nat) (h : n < 65536) : n ^^^ 65535 = 65535 - n := by
  have e := BitVec.toNat_not (x := BitVec.ofNat 16 n)
  rw [← BitVec.xor_allOnes, BitVec.toNat_xor, BitVec.toNat_ofNat, BitVec.toNat_allOnes] at e
  rw [Nat.mod_eq_of_lt (show n < 2 ^ 16 from h)] at e
  have h2 : (2 : Nat) ^ 16 - 1 = 65535 := by decide
  rw [h2] at e
  rw [e]
theorem i64_xor_ones (n : Nat) (h : n < 65536) : Go.bits .xor .i64 (n : Int) 65535 = ((65535 - n : Nat) : Int) := by
  have e := i64_xor n 65535 (by omega) (by decide)
  rw [xor_ones n h] at e
  exact e
end Go.Proofs.YtcmalglippmocaaDoor.Pal
end

section
namespace Go.Proofs.YtcmalglippmocaaDoor.G
open Go.RowKit Go.Proofs.YtcmalglippmocaaDoorW.PrintWords Go.Proofs.YtcmalglippmocaaDoorW.PrintLast Go.Proofs.YtcmalglippmocaaDoorW.PrintMore Go.Proofs.YtcmalglippmocaaDoor.Pal

def sum_fold.f (a0 : Int) : Option Int := if 0 ≤ a0 ∧ a0 ≤ 18446744073709551615 then some ((fold16 a0.toNat : Nat) : Int) else none

def addW (t : Int) (o : Bool) (b : Int) : Int := t + if o then b else b * 256
set_option maxHeartbeats 400000 in
set_option maxRecDepth 100000 in
theorem sum_add.calls (b t : Int) (o : Bool) (po pt : Nat) (w : World) (hb0 : 0 ≤ b) (hb1 : b ≤ 255) (ht0 : 0 ≤ t) (ht1 : t ≤ 18446744073709486000)
    (h1 : w.cell? ⟨po, 0, none⟩ = some (.bool o)) (h2 : w.cell? ⟨pt, 0, none⟩ = some (.int .u64 t)) (f1 : w.frozen? ⟨po, 0, none⟩ = false) (f2 : w.frozen? ⟨pt, 0, none⟩ = false) (hne : ¬ po = pt) :
    Calls Tryd.prog 101 #[.int .u8 b, .pointer (some ⟨po, 0, none⟩), .pointer (some ⟨pt, 0, none⟩)] w fun e w' => e = .returned (.tuple #[]) ∧ w' = (w.setCell ⟨pt, 0, none⟩ (.int .u64 (addW t o b))).setCell ⟨po, 0, none⟩ (.bool (!o)) := by
  have hnot : ∀ (x : Bool) (w : World), (Op.unary .not (.bool x)).run Tryd.prog w = .ok (.bool (!x)) w := fun _ _ => rfl
  cases o
  · go_enter Tryd.func101, Tryd.ntmps101
    go_wp2
    go_end0
    exact ⟨rfl, by simp [addW]⟩
  · go_enter Tryd.func101, Tryd.ntmps101
    go_wp2
    go_end0
    exact ⟨rfl, by simp [addW]⟩

theorem and_low (x : Nat) (h : x ≤ 18446744073709551615) : Go.bits .and .u64 (x : Int) 65535 = ((x % 65536 : Nat) : Int) := by
  have e := u64_and' x 65535 (by omega) (by decide)
  rw [Nat.and_two_pow_sub_one_eq_mod x 16] at e
  exact e

set_option maxHeartbeats 400000 in
theorem sum_fold.calls (a0 : Int) (r : Int) (w : World) (h : sum_fold.f a0 = some r) :
    Calls Tryd.prog 102 #[.int .u64 a0] w fun e w' => e = .returned (.int .i64 r) ∧ Below w.heap.size w w' := by
  unfold sum_fold.f at h
  by_cases hc : 0 ≤ a0 ∧ a0 ≤ 18446744073709551615
  case neg => rw [if_neg hc] at h; exact absurd h (by simp)
  rw [if_pos hc] at h
  have H := Aside0.mk (Option.some.inj h)
  obtain ⟨h0, hk⟩ := hc
  clear h
  go_enter Tryd.func102, Tryd.ntmps102
  go_wp2
  go_loopg [0] a0.toNat (fun kq v0 w' => ∃ x : Nat, v0 = .int .u64 (x : Int) ∧ Aside0 (fold16 x = fold16 a0.toNat) ∧ Aside0 (x ≤ kq ∧ x ≤ 18446744073709551615) ∧ Aside0 (Below w.heap.size w w'))
  case atStart => exact ⟨a0.toNat, by rw [Int.toNat_of_nonneg h0], ⟨rfl⟩, ⟨by omega⟩, ⟨Below.refl _ _⟩⟩
  case round =>
    obtain ⟨x, rfl, HA, HK, HB⟩ := hrel
    have hx := HK.out.2
    clear hk h0
    by_cases hlt : 65535 < x
    · have e1 := and_low x hx
      go_wp2
      go_roundg (x % 65536 + x / 65536)
      case measure => have := HK.out; omega
      case rel => exact ⟨x % 65536 + x / 65536, by simp, ⟨by rw [fold16_step]; exact HA.out⟩, ⟨by omega⟩, HB⟩
    · have e2 : wrap64 (x : Int) = x := by unfold wrap64; omega
      have HX := Aside0.mk (fold16_id x (by omega))
      go_wp2
      go_ret
      exact ⟨by have h1 := H.out; have h2 := HA.out; have h3 := HX.out; rw [h2] at h3; rw [← h1, h3]; rfl, HB.out⟩

def SumInv (w wr : World) (bs : List UInt8) : Prop :=
  Below w.heap.size w wr ∧ wr.heap[w.heap.size]? = some (.cells #[.int .u64 (tot false bs : Nat)] 114 (0, 0)) ∧ wr.heap[w.heap.size + 1]? = some (.cells #[.bool (odd bs)] 4 (0, 0))
theorem SumInv.start (w : World) : SumInv w ((w.alloc (.cells #[.int .u64 0] 114)).alloc (.cells #[.bool false] 4)) [] := by
  refine ⟨((Below.refl _ _).alloc (Nat.le_refl _) _).alloc (by simp) _, ?_, ?_⟩
  · rw [Below.heap_alloc _ _ _ (by simp)]
    exact heap_alloc_new w _
  · have := heap_alloc_new (w.alloc (.cells #[.int .u64 0] 114)) (.cells #[.bool false] 4)
    rwa [World.size_alloc] at this
theorem SumInv.step {w wr : World} {bs : List UInt8} (h : SumInv w wr bs) (b : UInt8) :
    SumInv w ((wr.setCell ⟨w.heap.size, 0, none⟩ (.int .u64 (addW (tot false bs : Nat) (odd bs) (b.toNat : Int)))).setCell ⟨w.heap.size + 1, 0, none⟩ (.bool (!odd bs))) (bs ++ [b]) := by
  obtain ⟨h1, h2, h3⟩ := h
  refine ⟨(h1.setCell (by simp) _).setCell (by simp) _, ?_, ?_⟩
  · rw [Below.heap_setCell _ _ _ _ (by simp), one_setCell h2, tot_snoc, addW]
    cases odd bs <;> simp
  · rw [odd_snoc]
    exact one_setCell (by rw [Below.heap_setCell _ _ _ _ (by simp)]; exact h3)

theorem SumInv.facts {w wr : World} {bs : List UInt8} (h : SumInv w wr bs) :
    wr.cell? ⟨w.heap.size, 0, none⟩ = some (.int .u64 (tot false bs : Nat)) ∧ wr.frozen? ⟨w.heap.size, 0, none⟩ = false ∧ wr.cell? ⟨w.heap.size + 1, 0, none⟩ = some (.bool (odd bs)) ∧ wr.frozen? ⟨w.heap.size + 1, 0, none⟩ = false :=
  ⟨cell_of_one h.2.1, free_of_one h.2.1, cell_of_one h.2.2, free_of_one h.2.2⟩

set_option maxHeartbeats 400000 in
theorem sum_Sum.walk (A0 : Option Addr) (c0 : Nat) (l0 : List ByteArray) (w : World) (hr0 : Kd.C Kd.string w A0 l0.length l0) (hc0 : l0.length ≤ c0) (hs : (cat l0).length ≤ 1099511627776) :
    Calls Tryd.prog 60 #[.slice A0 l0.length c0] w fun e w' => e = .returned (.int .i64 (csum (cat l0) : Nat)) ∧ Below w.heap.size w w' := by
  have hmf : ∀ (fn : Fn) (first cap : Array Value) (w : World), (Instr.makeFunc fn first cap).run Tryd.prog w = .ok (.func fn first cap) w := fun _ _ _ _ => rfl
  have HR := Aside0.mk hr0
  have HS := Aside0.mk hs
  clear hr0 hs
  go_enter Tryd.func60, Tryd.ntmps60
  go_wp2
  go_loopg [12] l0.length (fun kq v12 wr => ∃ i : Nat, v12 = .int .i64 (i : Int) ∧ Aside0 (i + kq = l0.length) ∧ SumInv w wr (cat (l0.take i)))
  case atStart => exact ⟨0, rfl, ⟨by omega⟩, SumInv.start w⟩
  case round =>
    obtain ⟨i, rfl, HK, HI⟩ := hrel
    by_cases hlt : i < l0.length
    · obtain ⟨ad, rfl, hcell⟩ := Kd.at_string (Kd.C_below HR.out HI.1) (i : Int) (by omega) (by omega)
      rw [Int.toNat_natCast] at hcell
      have HP : Aside0 (rdOf ByteArray.empty l0 (i : Int) = l0[i]) := ⟨by simp [rdOf, List.getD_eq_getElem?_getD, List.getElem?_eq_getElem hlt]⟩
      generalize rdOf ByteArray.empty l0 (i : Int) = p at hcell HP
      have HL : Aside0 ((cat (l0.take i)).length + p.size ≤ 1099511627776) := ⟨by
        have h1 := HS.out
        have h2 : cat l0 = cat (l0.take i) ++ (bl p ++ cat (l0.drop (i + 1))) := by
          conv => lhs; rw [← List.take_append_drop i l0]
          rw [List.drop_eq_getElem_cons hlt, ← HP.out]
          simp [cat]
        rw [h2, List.length_append, List.length_append, bl_length] at h1
        omega⟩
      go_wp2
      obtain ⟨wo, rfl⟩ : ∃ wo : World, wo = wr := ⟨_, rfl⟩
      clear hcell
      go_loopg [18] p.size (fun kq v18 wr => ∃ j : Nat, v18 = .int .i64 (j : Int) ∧ Aside0 (j + kq = p.size) ∧ SumInv w wr (cat (l0.take i) ++ (bl p).take j))
      case atStart => exact ⟨0, rfl, ⟨by omega⟩, by rw [List.take_zero, List.append_nil]; exact HI⟩
      case round =>
        obtain ⟨j, rfl, HKj, HJ⟩ := hrel
        by_cases hj : j < p.size
        · obtain ⟨c1, c2, c3, c4⟩ := HJ.facts
          have htot := tot_le (cat (l0.take i) ++ (bl p).take j) false
          have hlen : (cat (l0.take i) ++ (bl p).take j).length ≤ 1099511627776 := by
            have := HL.out
            rw [List.length_append, List.length_take, bl_length]
            omega
          have HT : Aside0 ((bl p).take (j + 1) = (bl p).take j ++ [p[j]]) := ⟨by
            rw [List.take_succ_eq_append_getElem (by rw [bl_length]; exact hj)]
            rfl⟩
          have hbyte := p[j].toNat_lt
          have hw : wrap64 ((j : Int) + 1) = ((j + 1 : Nat) : Int) := by have := HL.out; unfold wrap64; omega
          go_wp2_with fail
          refine (sum_add.calls _ _ _ _ _ _ (by omega) (by omega) (by omega) (by omega) c3 c1 c4 c2 (by omega)).mono ?_
          rintro e w' ⟨rfl, rfl⟩
          have HN := Aside0.mk (HJ.step p[j])
          clear c1 c2 c3 c4
          go_wp2
          go_roundg (p.size - (j + 1))
          case measure => have := HKj.out; omega
          case rel => exact ⟨j + 1, by first | rfl | rw [hw], ⟨by have := HKj.out; omega⟩, by rw [HT.out, ← List.append_assoc]; exact HN.out⟩
        · have HT : Aside0 ((bl p).take j = bl p) := ⟨List.take_of_length_le (by rw [bl_length]; omega)⟩
          have HT2 : Aside0 (cat (l0.take (i + 1)) = cat (l0.take i) ++ bl p) := ⟨by
            rw [List.take_succ_eq_append_getElem hlt, ← HP.out]
            simp [cat]⟩
          have hlen : l0.length ≤ 9223372036854775807 := HR.out.2.1
          have hw : wrap64 ((i : Int) + 1) = ((i + 1 : Nat) : Int) := by unfold wrap64; omega
          go_wp2
          go_roundg (l0.length - (i + 1))
          case measure => have := HK.out; omega
          case rel => exact ⟨i + 1, by rfl, ⟨by omega⟩, by rw [HT2.out, ← HT.out]; exact HJ⟩
    · have HT : Aside0 (l0.take i = l0) := ⟨List.take_of_length_le (by omega)⟩
      rw [HT.out] at HI
      obtain ⟨c1, c2, c3, c4⟩ := HI.facts
      have htot := tot_le (cat l0) false
      have hlen := HS.out
      have hfold := fold16_le (tot false (cat l0))
      have hx := i64_xor_ones (fold16 (tot false (cat l0))) (by omega)
      go_wp2_with fail
      refine (sum_fold.calls _ ((fold16 (tot false (cat l0)) : Nat) : Int) _ (by unfold sum_fold.f; rw [if_pos (by omega), Int.toNat_natCast])).mono ?_
      rintro e w' ⟨rfl, hB⟩
      have HB := Aside0.mk hB
      have HI' := Aside0.mk HI
      clear hB HI c1 c2 c3 c4 htot hlen
      go_wp2
      go_ret
      exact ⟨rfl, HI'.out.1.trans (HB.out.mono HI'.out.1.size)⟩

def sum_Sum.f (l0 : List ByteArray) : Option Int := if (cat l0).length ≤ 1099511627776 then some (csum (cat l0) : Nat) else none
theorem sum_Sum.calls (A0 : Option Addr) (c0 : Nat) (l0 : List ByteArray) (r : Int) (w : World) (hr0 : Kd.C Kd.string w A0 l0.length l0) (hc0 : l0.length ≤ c0) (h : sum_Sum.f l0 = some r) :
    Calls Tryd.prog 60 #[.slice A0 l0.length c0] w fun e w' => e = .returned (.int .i64 r) ∧ Below w.heap.size w w' := by
  unfold sum_Sum.f at h
  by_cases hs : (cat l0).length ≤ 1099511627776
  · rw [if_pos hs] at h
    obtain rfl := Option.some.inj h
    exact sum_Sum.walk A0 c0 l0 w hr0 hc0 hs
  · rw [if_neg hs] at h
    exact absurd h (by simp)
end Go.Proofs.YtcmalglippmocaaDoor.G
end

section
namespace Go.Proofs.YtcmalglippmocaaDoor.G
open Go.RowKit Go.Proofs.YtcmalglippmocaaDoorW.PrintWords Go.Proofs.YtcmalglippmocaaDoorW.PrintLast Go.Proofs.YtcmalglippmocaaDoorW.PrintMore
theorem kN {w : World} {g : Nat} {o : Obj} (h : w.heap[g]? = some o) (n : Nat) : (w.drewN n).heap[g]? = some o := blk_drewN h n
theorem kD {w : World} {g : Nat} {o : Obj} (h : w.heap[g]? = some o) : w.drew.heap[g]? = some o := blk_drew h
theorem kA {w : World} {g : Nat} {o : Obj} (h : w.heap[g]? = some o) (o' : Obj) : (w.alloc o').heap[g]? = some o := blk_alloc h o'
theorem bN {B : Nat} {w W : World} (h : Below B w W) (n : Nat) : Below B w (W.drewN n) := pw_below_drewN h n
theorem bA {w W : World} (h : Below w.heap.size w W) (o : Obj) : Below w.heap.size w (W.alloc o) := below_alloc h o
theorem bD {base : Nat} {w W : World} (h : Below base w W) : Below base w W.drew := below_drew1 h
theorem bS {w W : World} {g j : Nat} {v : Value} (h : Below w.heap.size w W) (hg : w.heap.size ≤ g) : Below w.heap.size w (W.setCell ⟨g, j, none⟩ v) := below_set h hg
theorem bP {w W w2 : World} (h : Below w.heap.size w W) (k : Below W.heap.size W w2) : Below w.heap.size w w2 := below_step h k
theorem zF {w : World} {g : Nat} {t : TypeId} {cs : Array Value} (h : w.heap[g]? = some (.cells cs t)) (i : Nat) : w.frozen? ⟨g, i, none⟩ = false := blk_frozen h i
theorem zC {w : World} {g : Nat} {t : TypeId} {cs : Array Value} (h : w.heap[g]? = some (.cells cs t)) (i : Nat) : w.cell? ⟨g, i, none⟩ = cs[i]? := blk_cell h i
theorem mA {p : Prop} (h : p) : Aside0 p := ⟨h⟩
theorem bpr {w W w2 : World} (h : Below w.heap.size w W) (k : Below W.heap.size W w2) : Aside0 (Below w.heap.size w w2) ∧ w.heap.size ≤ W.heap.size := ⟨⟨below_step h k⟩, h.size⟩
theorem bt3 {W w2 : World} {g : Nat} {o : Obj} (h : W.heap[g]? = some o) (k : Below W.heap.size W w2) : Aside0 (w2.heap[g]? = some o) ∧ g < W.heap.size := ⟨⟨blk_below h k⟩, blk_lt h⟩
theorem bc2 {w : World} {g : Nat} {t : TypeId} {c0 c1 : Value} (h : w.heap[g]? = some (.cells #[c0, c1] t)) : w.cell? ⟨g, 0, none⟩ = some c0 ∧ w.cell? ⟨g, 1, none⟩ = some c1 := ⟨(blk_cell h 0).trans rfl, (blk_cell h 1).trans rfl⟩
theorem bc3 {w : World} {g : Nat} {t : TypeId} {c0 c1 c2 : Value} (h : w.heap[g]? = some (.cells #[c0, c1, c2] t)) : w.cell? ⟨g, 0, none⟩ = some c0 ∧ w.cell? ⟨g, 1, none⟩ = some c1 ∧ w.cell? ⟨g, 2, none⟩ = some c2 := ⟨(blk_cell h 0).trans rfl, (blk_cell h 1).trans rfl, (blk_cell h 2).trans rfl⟩
theorem bc4 {w : World} {g : Nat} {t : TypeId} {c0 c1 c2 c3 : Value} (h : w.heap[g]? = some (.cells #[c0, c1, c2, c3] t)) : w.cell? ⟨g, 0, none⟩ = some c0 ∧ w.cell? ⟨g, 1, none⟩ = some c1 ∧ w.cell? ⟨g, 2, none⟩ = some c2 ∧ w.cell? ⟨g, 3, none⟩ = some c3 := ⟨(blk_cell h 0).trans rfl, (blk_cell h 1).trans rfl, (blk_cell h 2).trans rfl, (blk_cell h 3).trans rfl⟩
theorem bc5 {w : World} {g : Nat} {t : TypeId} {c0 c1 c2 c3 c4 : Value} (h : w.heap[g]? = some (.cells #[c0, c1, c2, c3, c4] t)) : w.cell? ⟨g, 0, none⟩ = some c0 ∧ w.cell? ⟨g, 1, none⟩ = some c1 ∧ w.cell? ⟨g, 2, none⟩ = some c2 ∧ w.cell? ⟨g, 3, none⟩ = some c3 ∧ w.cell? ⟨g, 4, none⟩ = some c4 := ⟨(blk_cell h 0).trans rfl, (blk_cell h 1).trans rfl, (blk_cell h 2).trans rfl, (blk_cell h 3).trans rfl, (blk_cell h 4).trans rfl⟩
theorem bc6 {w : World} {g : Nat} {t : TypeId} {c0 c1 c2 c3 c4 c5 : Value} (h : w.heap[g]? = some (.cells #[c0, c1, c2, c3, c4, c5] t)) : w.cell? ⟨g, 0, none⟩ = some c0 ∧ w.cell? ⟨g, 1, none⟩ = some c1 ∧ w.cell? ⟨g, 2, none⟩ = some c2 ∧ w.cell? ⟨g, 3, none⟩ = some c3 ∧ w.cell? ⟨g, 4, none⟩ = some c4 ∧ w.cell? ⟨g, 5, none⟩ = some c5 := ⟨(blk_cell h 0).trans rfl, (blk_cell h 1).trans rfl, (blk_cell h 2).trans rfl, (blk_cell h 3).trans rfl, (blk_cell h 4).trans rfl, (blk_cell h 5).trans rfl⟩
theorem bc7 {w : World} {g : Nat} {t : TypeId} {c0 c1 c2 c3 c4 c5 c6 : Value} (h : w.heap[g]? = some (.cells #[c0, c1, c2, c3, c4, c5, c6] t)) : w.cell? ⟨g, 0, none⟩ = some c0 ∧ w.cell? ⟨g, 1, none⟩ = some c1 ∧ w.cell? ⟨g, 2, none⟩ = some c2 ∧ w.cell? ⟨g, 3, none⟩ = some c3 ∧ w.cell? ⟨g, 4, none⟩ = some c4 ∧ w.cell? ⟨g, 5, none⟩ = some c5 ∧ w.cell? ⟨g, 6, none⟩ = some c6 := ⟨(blk_cell h 0).trans rfl, (blk_cell h 1).trans rfl, (blk_cell h 2).trans rfl, (blk_cell h 3).trans rfl, (blk_cell h 4).trans rfl, (blk_cell h 5).trans rfl, (blk_cell h 6).trans rfl⟩
theorem bc9 {w : World} {g : Nat} {t : TypeId} {c0 c1 c2 c3 c4 c5 c6 c7 c8 : Value} (h : w.heap[g]? = some (.cells #[c0, c1, c2, c3, c4, c5, c6, c7, c8] t)) : w.cell? ⟨g, 0, none⟩ = some c0 ∧ w.cell? ⟨g, 1, none⟩ = some c1 ∧ w.cell? ⟨g, 2, none⟩ = some c2 ∧ w.cell? ⟨g, 3, none⟩ = some c3 ∧ w.cell? ⟨g, 4, none⟩ = some c4 ∧ w.cell? ⟨g, 5, none⟩ = some c5 ∧ w.cell? ⟨g, 6, none⟩ = some c6 ∧ w.cell? ⟨g, 7, none⟩ = some c7 ∧ w.cell? ⟨g, 8, none⟩ = some c8 := ⟨(blk_cell h 0).trans rfl, (blk_cell h 1).trans rfl, (blk_cell h 2).trans rfl, (blk_cell h 3).trans rfl, (blk_cell h 4).trans rfl, (blk_cell h 5).trans rfl, (blk_cell h 6).trans rfl, (blk_cell h 7).trans rfl, (blk_cell h 8).trans rfl⟩
theorem bc10 {w : World} {g : Nat} {t : TypeId} {c0 c1 c2 c3 c4 c5 c6 c7 c8 c9 : Value} (h : w.heap[g]? = some (.cells #[c0, c1, c2, c3, c4, c5, c6, c7, c8, c9] t)) : w.cell? ⟨g, 0, none⟩ = some c0 ∧ w.cell? ⟨g, 1, none⟩ = some c1 ∧ w.cell? ⟨g, 2, none⟩ = some c2 ∧ w.cell? ⟨g, 3, none⟩ = some c3 ∧ w.cell? ⟨g, 4, none⟩ = some c4 ∧ w.cell? ⟨g, 5, none⟩ = some c5 ∧ w.cell? ⟨g, 6, none⟩ = some c6 ∧ w.cell? ⟨g, 7, none⟩ = some c7 ∧ w.cell? ⟨g, 8, none⟩ = some c8 ∧ w.cell? ⟨g, 9, none⟩ = some c9 := ⟨(blk_cell h 0).trans rfl, (blk_cell h 1).trans rfl, (blk_cell h 2).trans rfl, (blk_cell h 3).trans rfl, (blk_cell h 4).trans rfl, (blk_cell h 5).trans rfl, (blk_cell h 6).trans rfl, (blk_cell h 7).trans rfl, (blk_cell h 8).trans rfl, (blk_cell h 9).trans rfl⟩
def bv (n m : Nat) : Array Bool := ((List.range n).map fun j => m.testBit j).toArray
theorem bf2 {w : World} {g : Nat} {t : TypeId} {cs : Array Value} (h : w.heap[g]? = some (.cells cs t)) : w.frozen? ⟨g, 0, none⟩ = false ∧ w.frozen? ⟨g, 1, none⟩ = false := ⟨zF h 0, zF h 1⟩
theorem bf3 {w : World} {g : Nat} {t : TypeId} {cs : Array Value} (h : w.heap[g]? = some (.cells cs t)) : w.frozen? ⟨g, 0, none⟩ = false ∧ w.frozen? ⟨g, 1, none⟩ = false ∧ w.frozen? ⟨g, 2, none⟩ = false := ⟨zF h 0, zF h 1, zF h 2⟩
theorem bf4 {w : World} {g : Nat} {t : TypeId} {cs : Array Value} (h : w.heap[g]? = some (.cells cs t)) : w.frozen? ⟨g, 0, none⟩ = false ∧ w.frozen? ⟨g, 1, none⟩ = false ∧ w.frozen? ⟨g, 2, none⟩ = false ∧ w.frozen? ⟨g, 3, none⟩ = false := ⟨zF h 0, zF h 1, zF h 2, zF h 3⟩
theorem bf5 {w : World} {g : Nat} {t : TypeId} {cs : Array Value} (h : w.heap[g]? = some (.cells cs t)) : w.frozen? ⟨g, 0, none⟩ = false ∧ w.frozen? ⟨g, 1, none⟩ = false ∧ w.frozen? ⟨g, 2, none⟩ = false ∧ w.frozen? ⟨g, 3, none⟩ = false ∧ w.frozen? ⟨g, 4, none⟩ = false := ⟨zF h 0, zF h 1, zF h 2, zF h 3, zF h 4⟩
theorem bf6 {w : World} {g : Nat} {t : TypeId} {cs : Array Value} (h : w.heap[g]? = some (.cells cs t)) : w.frozen? ⟨g, 0, none⟩ = false ∧ w.frozen? ⟨g, 1, none⟩ = false ∧ w.frozen? ⟨g, 2, none⟩ = false ∧ w.frozen? ⟨g, 3, none⟩ = false ∧ w.frozen? ⟨g, 4, none⟩ = false ∧ w.frozen? ⟨g, 5, none⟩ = false := ⟨zF h 0, zF h 1, zF h 2, zF h 3, zF h 4, zF h 5⟩
theorem bf7 {w : World} {g : Nat} {t : TypeId} {cs : Array Value} (h : w.heap[g]? = some (.cells cs t)) : w.frozen? ⟨g, 0, none⟩ = false ∧ w.frozen? ⟨g, 1, none⟩ = false ∧ w.frozen? ⟨g, 2, none⟩ = false ∧ w.frozen? ⟨g, 3, none⟩ = false ∧ w.frozen? ⟨g, 4, none⟩ = false ∧ w.frozen? ⟨g, 5, none⟩ = false ∧ w.frozen? ⟨g, 6, none⟩ = false := ⟨zF h 0, zF h 1, zF h 2, zF h 3, zF h 4, zF h 5, zF h 6⟩
theorem bf9 {w : World} {g : Nat} {t : TypeId} {cs : Array Value} (h : w.heap[g]? = some (.cells cs t)) : w.frozen? ⟨g, 0, none⟩ = false ∧ w.frozen? ⟨g, 1, none⟩ = false ∧ w.frozen? ⟨g, 2, none⟩ = false ∧ w.frozen? ⟨g, 3, none⟩ = false ∧ w.frozen? ⟨g, 4, none⟩ = false ∧ w.frozen? ⟨g, 5, none⟩ = false ∧ w.frozen? ⟨g, 6, none⟩ = false ∧ w.frozen? ⟨g, 7, none⟩ = false ∧ w.frozen? ⟨g, 8, none⟩ = false := ⟨zF h 0, zF h 1, zF h 2, zF h 3, zF h 4, zF h 5, zF h 6, zF h 7, zF h 8⟩
theorem bf10 {w : World} {g : Nat} {t : TypeId} {cs : Array Value} (h : w.heap[g]? = some (.cells cs t)) : w.frozen? ⟨g, 0, none⟩ = false ∧ w.frozen? ⟨g, 1, none⟩ = false ∧ w.frozen? ⟨g, 2, none⟩ = false ∧ w.frozen? ⟨g, 3, none⟩ = false ∧ w.frozen? ⟨g, 4, none⟩ = false ∧ w.frozen? ⟨g, 5, none⟩ = false ∧ w.frozen? ⟨g, 6, none⟩ = false ∧ w.frozen? ⟨g, 7, none⟩ = false ∧ w.frozen? ⟨g, 8, none⟩ = false ∧ w.frozen? ⟨g, 9, none⟩ = false := ⟨zF h 0, zF h 1, zF h 2, zF h 3, zF h 4, zF h 5, zF h 6, zF h 7, zF h 8, zF h 9⟩

end Go.Proofs.YtcmalglippmocaaDoor.G
end

section
namespace Go.Proofs.YtcmalglippmocaaDoor.G
open Go.RowKit Go.Proofs.YtcmalglippmocaaDoorW.PrintWords Go.Proofs.YtcmalglippmocaaDoorW.PrintLast Go.Proofs.YtcmalglippmocaaDoorW.PrintMore
attribute [local go_sem] max2_int min2_int max_two min_two max_three min_three max_four min_four

def sum_Pseudo.f (a0 : ByteArray) (a1 : ByteArray) (a2 : Int) (a3 : Int) : Option (ByteArray) := if (a0.size : Int) = 16 then (if a0.size + a1.size ≤ 9223372036854775807 then ((some (([(a3 / 16777216) % 256, (a3 / 65536) % 256, (a3 / 256) % 256, (a3) % 256, 0, 0, 0, (a2) % 256] : List Int) : List Int)).bind fun y259 => (if (a0 ++ a1).size + (strOfNums y259).size ≤ 9223372036854775807 then (some ((a0 ++ a1) ++ (strOfNums y259))) else (none))) else (none)) else (if a0.size + a1.size ≤ 9223372036854775807 then ((some (([0, (a2) % 256, (a3 / 256) % 256, (a3) % 256] : List Int) : List Int)).bind fun y262 => (if (a0 ++ a1).size + (strOfNums y262).size ≤ 9223372036854775807 then (some ((a0 ++ a1) ++ (strOfNums y262))) else (none))) else (none))
set_option maxHeartbeats 8000000 in
set_option maxRecDepth 100000 in
theorem sum_Pseudo.calls (a0 : ByteArray) (a1 : ByteArray) (a2 : Int) (a3 : Int) (r : ByteArray) (w : World) (h : sum_Pseudo.f a0 a1 a2 a3 = some r) :
  Calls Tryd.prog 77 #[.string a0, .string a1, .int .i64 a2, .int .i64 a3] w fun e w' => e = .returned (.string r) ∧ Below w.heap.size w w' := by
 have HB := mA (Below.refl w.heap.size w)
 have H : (if (a0.size : Int) = 16 then (if a0.size + a1.size ≤ 9223372036854775807 then ((some (([(a3 / 16777216) % 256, (a3 / 65536) % 256, (a3 / 256) % 256, (a3) % 256, 0, 0, 0, (a2) % 256] : List Int) : List Int)).bind fun y259 => (if (a0 ++ a1).size + (strOfNums y259).size ≤ 9223372036854775807 then (some ((a0 ++ a1) ++ (strOfNums y259))) else (none))) else (none)) else (if a0.size + a1.size ≤ 9223372036854775807 then ((some (([0, (a2) % 256, (a3 / 256) % 256, (a3) % 256] : List Int) : List Int)).bind fun y262 => (if (a0 ++ a1).size + (strOfNums y262).size ≤ 9223372036854775807 then (some ((a0 ++ a1) ++ (strOfNums y262))) else (none))) else (none))) = some r := h
 clear h
 by_cases c5 : (a0.size : Int) = 16
 ·rw [if_pos c5] at H
  have c5b0 : ((a0.size : Int) == 16) = true := beq_iff_eq.mpr c5
  have c5b1 : ((a0.size : Int) != 16) = false := bne_eq_false_iff_eq.mpr c5
  clear c5
  by_cases c6 : a0.size + a1.size ≤ 9223372036854775807
  ·rw [if_pos c6] at H
   have c6b0 := eq_true c6
   have c6b1 : decide (a0.size + a1.size ≤ 9223372036854775807) = true := decide_eq_true c6
   try have c6b2 : (9223372036854775807 < a0.size + a1.size) = False := eq_false (Nat.not_lt.2 c6)
   obtain ⟨y259, hy259⟩ : ∃ y_ : List Int, y_ = (([(a3 / 16777216) % 256, (a3 / 65536) % 256, (a3 / 256) % 256, (a3) % 256, 0, 0, 0, (a2) % 256] : List Int)) := ⟨_, rfl⟩
   replace H : (if (a0 ++ a1).size + (strOfNums y259).size ≤ 9223372036854775807 then (some ((a0 ++ a1) ++ (strOfNums y259))) else (none)) = some r := by first | (rw [hy259]; with_reducible exact H) | (have H2_ := (Option.bind_some _ _).symm.trans H; rw [hy259]; with_reducible exact H2_) | (have H2_ := (Option.bind_some _ _).symm.trans H; with_reducible exact H2_) | with_reducible exact H | (rw [hy259]; exact H) | exact H
   have Ny259 := mA hy259
   clear hy259
   by_cases c7 : (a0 ++ a1).size + (strOfNums y259).size ≤ 9223372036854775807
   ·rw [if_pos c7] at H
    have c7b0 := eq_true c7
    have c7b1 : decide ((a0 ++ a1).size + (strOfNums y259).size ≤ 9223372036854775807) = true := decide_eq_true c7
    try have c7b2 : (9223372036854775807 < (a0 ++ a1).size + (strOfNums y259).size) = False := eq_false (Nat.not_lt.2 c7)
    try have c7b3 : (9223372036854775807 < (a0.size) + (a1.size) + (strOfNums y259).size) = False := eq_false (by have h_ := c7; simp only [ByteArray.size_append] at h_; omega)
    try have c7b4 : ((a0.size) + (a1.size) + (strOfNums y259).size ≤ 9223372036854775807) = True := eq_true (by have h_ := c7; simp only [ByteArray.size_append] at h_; omega)
    obtain rfl := Option.some.inj H
    go_enter Tryd.func77, Tryd.ntmps77
    go_wp2_with (first | ((with_reducible refine gate_dst (N := 28) rfl ?_); refine Kd.R_lit (Kd.int .u8) _ 5 ?hg (N := 28) ?hd (xs := ([(a3 / 16777216) % 256, (a3 / 65536) % 256, (a3 / 256) % 256, (a3) % 256, 0, 0, 0, (a2) % 256] : List Int)) (inner := [.int .u8 ((a3 / 16777216) % 256), .int .u8 ((a3 / 65536) % 256), .int .u8 ((a3 / 256) % 256), .int .u8 ((a3) % 256), .int .u8 0, .int .u8 0, .int .u8 0, .int .u8 ((a2) % 256)]) (ok := fun _ => True) (okp := fun _ => True) ?hr ?hp (fun _ hk => hk) trivial (Below.refl _ _) (Nat.le_refl _) (by simp) ?_; (case hd => rfl); (case hg => rfl); (case hr => first | (go_simp; done) | (go_simp; rfl)); (case hp => exact (Reps.one (show Kd.M (Kd.int .u8) _ _ _ ((a3 / 16777216) % 256) [.int .u8 ((a3 / 16777216) % 256)] from rfl) (Reps.one (show Kd.M (Kd.int .u8) _ _ _ ((a3 / 65536) % 256) [.int .u8 ((a3 / 65536) % 256)] from rfl) (Reps.one (show Kd.M (Kd.int .u8) _ _ _ ((a3 / 256) % 256) [.int .u8 ((a3 / 256) % 256)] from rfl) (Reps.one (show Kd.M (Kd.int .u8) _ _ _ ((a3) % 256) [.int .u8 ((a3) % 256)] from rfl) (Reps.one (show Kd.M (Kd.int .u8) _ _ _ 0 [.int .u8 0] from rfl) (Reps.one (show Kd.M (Kd.int .u8) _ _ _ 0 [.int .u8 0] from rfl) (Reps.one (show Kd.M (Kd.int .u8) _ _ _ 0 [.int .u8 0] from rfl) (Reps.one (show Kd.M (Kd.int .u8) _ _ _ ((a2) % 256) [.int .u8 ((a2) % 256)] from rfl) (Reps.none _ _)))))))))); intro v260 w8 ho9 hb hg_ hnew_; clear hg_ hnew_; (first | rw [← Ny259.out] at ho9 | (simp only [Int.reduceToNat] at ho9; rw [← Ny259.out] at ho9)); have n0_ := mA (Kd.R_lower ho9 (below_size (by repeat (first | (with_reducible first | exact HB.out | apply bA | apply bN | apply bD) | exact HB.out)))); have n1_ := mA (bP (by repeat (first | (with_reducible first | exact HB.out | apply bA | apply bN | apply bD) | exact HB.out)) hb); clear HB; have HO261 := n0_; have HB := n1_; clear n0_ n1_; clear hb ho9; have hcv10 := own_string (P := Tryd.prog) Tryd.underlying23 Tryd.underlying5 Tryd.underlying9 (Kd.own_of_R HO261.out)))
    go_ret
    exact ⟨by first | rfl | (simp [errW_none, errW_some] <;> rfl) | (simp [*, errW_none, errW_some] <;> rfl), by repeat (first | (with_reducible first | exact HB.out | apply bA | apply bN | apply bD) | exact HB.out)⟩
   ·rw [if_neg c7] at H
    exact absurd H (by simp)
  ·rw [if_neg c6] at H
   exact absurd H (by simp)
 ·rw [if_neg c5] at H
  have c5b0 : ((a0.size : Int) == 16) = false := beq_eq_false_iff_ne.mpr c5
  have c5b1 : ((a0.size : Int) != 16) = true := bne_iff_ne.mpr c5
  by_cases c11 : a0.size + a1.size ≤ 9223372036854775807
  ·rw [if_pos c11] at H
   have c11b0 := eq_true c11
   have c11b1 : decide (a0.size + a1.size ≤ 9223372036854775807) = true := decide_eq_true c11
   try have c11b2 : (9223372036854775807 < a0.size + a1.size) = False := eq_false (Nat.not_lt.2 c11)
   obtain ⟨y262, hy262⟩ : ∃ y_ : List Int, y_ = (([0, (a2) % 256, (a3 / 256) % 256, (a3) % 256] : List Int)) := ⟨_, rfl⟩
   replace H : (if (a0 ++ a1).size + (strOfNums y262).size ≤ 9223372036854775807 then (some ((a0 ++ a1) ++ (strOfNums y262))) else (none)) = some r := by first | (rw [hy262]; with_reducible exact H) | (have H2_ := (Option.bind_some _ _).symm.trans H; rw [hy262]; with_reducible exact H2_) | (have H2_ := (Option.bind_some _ _).symm.trans H; with_reducible exact H2_) | with_reducible exact H | (rw [hy262]; exact H) | exact H
   have Ny262 := mA hy262
   clear hy262
   by_cases c12 : (a0 ++ a1).size + (strOfNums y262).size ≤ 9223372036854775807
   ·rw [if_pos c12] at H
    have c12b0 := eq_true c12
    have c12b1 : decide ((a0 ++ a1).size + (strOfNums y262).size ≤ 9223372036854775807) = true := decide_eq_true c12
    try have c12b2 : (9223372036854775807 < (a0 ++ a1).size + (strOfNums y262).size) = False := eq_false (Nat.not_lt.2 c12)
    try have c12b3 : (9223372036854775807 < (a0.size) + (a1.size) + (strOfNums y262).size) = False := eq_false (by have h_ := c12; simp only [ByteArray.size_append] at h_; omega)
    try have c12b4 : ((a0.size) + (a1.size) + (strOfNums y262).size ≤ 9223372036854775807) = True := eq_true (by have h_ := c12; simp only [ByteArray.size_append] at h_; omega)
    obtain rfl := Option.some.inj H
    go_enter Tryd.func77, Tryd.ntmps77
    go_wp2_with (first | ((with_reducible refine gate_dst (N := 41) rfl ?_); refine Kd.R_lit (Kd.int .u8) _ 5 ?hg (N := 41) ?hd (xs := ([0, (a2) % 256, (a3 / 256) % 256, (a3) % 256] : List Int)) (inner := [.int .u8 0, .int .u8 ((a2) % 256), .int .u8 ((a3 / 256) % 256), .int .u8 ((a3) % 256)]) (ok := fun _ => True) (okp := fun _ => True) ?hr ?hp (fun _ hk => hk) trivial (Below.refl _ _) (Nat.le_refl _) (by simp) ?_; (case hd => rfl); (case hg => rfl); (case hr => first | (go_simp; done) | (go_simp; rfl)); (case hp => exact (Reps.one (show Kd.M (Kd.int .u8) _ _ _ 0 [.int .u8 0] from rfl) (Reps.one (show Kd.M (Kd.int .u8) _ _ _ ((a2) % 256) [.int .u8 ((a2) % 256)] from rfl) (Reps.one (show Kd.M (Kd.int .u8) _ _ _ ((a3 / 256) % 256) [.int .u8 ((a3 / 256) % 256)] from rfl) (Reps.one (show Kd.M (Kd.int .u8) _ _ _ ((a3) % 256) [.int .u8 ((a3) % 256)] from rfl) (Reps.none _ _)))))); intro v263 w13 ho14 hb hg_ hnew_; clear hg_ hnew_; (first | rw [← Ny262.out] at ho14 | (simp only [Int.reduceToNat] at ho14; rw [← Ny262.out] at ho14)); have n0_ := mA (Kd.R_lower ho14 (below_size (by repeat (first | (with_reducible first | exact HB.out | apply bA | apply bN | apply bD) | exact HB.out)))); have n1_ := mA (bP (by repeat (first | (with_reducible first | exact HB.out | apply bA | apply bN | apply bD) | exact HB.out)) hb); clear HB; have HO264 := n0_; have HB := n1_; clear n0_ n1_; clear hb ho14; have hcv15 := own_string (P := Tryd.prog) Tryd.underlying23 Tryd.underlying5 Tryd.underlying9 (Kd.own_of_R HO264.out)))
    go_ret
    exact ⟨by first | rfl | (simp [errW_none, errW_some] <;> rfl) | (simp [*, errW_none, errW_some] <;> rfl), by repeat (first | (with_reducible first | exact HB.out | apply bA | apply bN | apply bD) | exact HB.out)⟩
   ·rw [if_neg c12] at H
    exact absurd H (by simp)
  ·rw [if_neg c11] at H
   exact absurd H (by simp)

def sum_Right.f (l0 : List ByteArray) : Option (Bool) := (sum_Sum.f l0).bind fun t343 => (some (t343 == 0))
set_option maxHeartbeats 8000000 in
set_option maxRecDepth 100000 in
theorem sum_Right.calls (A0 : Option Addr) (c0 : Nat) (l0 : List ByteArray) (r : Bool) (w : World) (hr0 : Kd.C Kd.string w A0 l0.length l0) (hc0 : l0.length ≤ c0) (h : sum_Right.f l0 = some r) :
  Calls Tryd.prog 67 #[.slice A0 l0.length c0] w fun e w' => e = .returned (.bool r) ∧ Below w.heap.size w w' := by
 have HR0 := mA hr0
 have HC0 := mA hc0
 clear hr0 hc0
 have HB := mA (Below.refl w.heap.size w)
 have H : ((sum_Sum.f l0).bind fun t343 => (some (t343 == 0))) = some r := h
 clear h
 replace H := Option.bind_eq_some_iff.mp H
 obtain ⟨t343, A20, H⟩ := H
 try dsimp +instances only at H
 have A2 := mA A20
 clear A20
 obtain rfl := Option.some.inj H
 go_enter Tryd.func67, Tryd.ntmps67
 go_wp2_with (first | ((with_reducible refine gate_callee (f := 60) rfl ?_); refine goesL_ (some 4) rfl rfl Tryd.func60 (by kernel_rfl) rfl #[.slice A0 l0.length c0] rfl (by (try simp only [List.map_toArray, List.map_cons, List.map_nil]); first | done | rfl | (simp only [List.length_drop, List.length_take]; rfl)) ?_; (with_reducible refine (sum_Sum.calls _ _ l0 t343 _ ?side1 ?side2 A2.out).mono ?_); (case side1 => repeat (first | exact HR0.out | (with_reducible refine Kd.C_alloc ?_ _) | (with_reducible refine Kd.C_drewN ?_ _) | (with_reducible refine Kd.C_drew ?_))); (case side2 => exact HC0.out); rintro e w3 ⟨rfl, hb⟩; refine ⟨_, rfl, ?_⟩; have n0_ := mA (bP (by repeat (first | (with_reducible first | exact HB.out | apply bA | apply bN | apply bD) | exact HB.out)) hb); clear HB; have HB := n0_; clear n0_; (try clear hb); (try clear hb2); (try clear hk); (try clear hi)))
 go_ret
 exact ⟨by first | rfl | (simp [errW_none, errW_some] <;> rfl) | (simp [*, errW_none, errW_some] <;> rfl), by repeat (first | (with_reducible first | exact HB.out | apply bA | apply bN | apply bD) | exact HB.out)⟩

end Go.Proofs.YtcmalglippmocaaDoor.G
end

section
namespace Go.Proofs.YtcmalglippmocaaDoor.Pal
def be (l : List UInt8) : Nat := l.foldl (fun a b => a * 256 + b.toNat) 0
theorem be_snoc (l : List UInt8) (b : UInt8) : be (l ++ [b]) = be l * 256 + b.toNat := by simp [be]
theorem be_foldl (l : List UInt8) : ∀ a, l.foldl (fun a b => a * 256 + b.toNat) a = a * 256 ^ l.length + be l := by
  induction l with
  | nil => intro a; simp [be]
  | cons x l ih =>
    intro a
    rw [List.foldl_cons, ih]
    have e : be (x :: l) = x.toNat * 256 ^ l.length + be l := by
      unfold be
      rw [List.foldl_cons, ih]
      simp [be]
    rw [e, List.length_cons, Nat.pow_succ, Nat.add_mul, Nat.mul_assoc, Nat.mul_comm 256, Nat.add_assoc]
theorem be_cons (x : UInt8) (l : List UInt8) : be (x :: l) = x.toNat * 256 ^ l.length + be l := by
  unfold be
  rw [List.foldl_cons, be_foldl]
  simp [be]
theorem be_lt (l : List UInt8) : be l < 256 ^ l.length := by
  induction l with
  | nil => simp [be]
  | cons x l ih =>
    rw [be_cons, List.length_cons, Nat.pow_succ]
    have hx := x.toNat_lt
    have : x.toNat * 256 ^ l.length ≤ 255 * 256 ^ l.length := Nat.mul_le_mul_right _ (by omega)
    omega
theorem be_lt_of (l : List UInt8) (n : Nat) (h : l.length ≤ n) : be l < 256 ^ n := Nat.lt_of_lt_of_le (be_lt l) (Nat.pow_le_pow_right (by decide) h)
def nb : Nat → Nat → List UInt8
  | 0, _ => []
  | n + 1, x => nb n (x / 256) ++ [UInt8.ofNat x]
theorem nb_length (n : Nat) : ∀ x, (nb n x).length = n := by
  induction n with
  | zero => intro x; rfl
  | succ n ih => intro x; simp [nb, ih]
theorem be_nb (n : Nat) : ∀ x, be (nb n x) = x % 256 ^ n := by
  induction n with
  | zero => intro x; simp [nb, be, Nat.mod_one]
  | succ n ih =>
    intro x
    rw [nb, be_snoc, ih, Nat.pow_succ]
    have h1 : (UInt8.ofNat x).toNat = x % 256 := by simp
    rw [h1, Nat.mul_comm (256 ^ n) 256, Nat.mod_mul]
    omega
theorem nb_front (n : Nat) : ∀ x, nb (n + 1) x = UInt8.ofNat (x / 256 ^ n) :: nb n x := by
  induction n with
  | zero => intro x; simp [nb]
  | succ n ih =>
    intro x
    have e : x / 256 ^ (n + 1) = x / 256 / 256 ^ n := by rw [Nat.pow_succ, Nat.mul_comm, Nat.div_div_eq_div_mul]
    rw [nb, ih, e]
    rfl
theorem nb_drop (n : Nat) : ∀ j, j ≤ n → ∀ x, (nb n x).drop j = nb (n - j) x := by
  induction n with
  | zero => intro j hj x; obtain rfl : j = 0 := by omega
            simp
  | succ n ih =>
    intro j hj x
    cases j with
    | zero => simp
    | succ j => rw [nb_front, List.drop_succ_cons, ih j (by omega), Nat.add_sub_add_right]
theorem nb_take_succ (n j x : Nat) (h : j < n) : (nb n x).take (j + 1) = (nb n x).take j ++ [UInt8.ofNat (x / 256 ^ (n - 1 - j))] := by
  rw [List.take_succ_eq_append_getElem (by rw [nb_length]; exact h)]
  congr 2
  have e := nb_drop n j (by omega) x
  rw [List.drop_eq_getElem_cons (by rw [nb_length]; exact h), show n - j = (n - 1 - j) + 1 from by omega, nb_front] at e
  exact (List.cons.inj e).1
end Go.Proofs.YtcmalglippmocaaDoor.Pal
end

section
namespace Go.Proofs.YtcmalglippmocaaDoor.G
open Go.RowKit Go.Proofs.YtcmalglippmocaaDoorW.PrintWords Go.Proofs.YtcmalglippmocaaDoorW.PrintLast Go.Proofs.YtcmalglippmocaaDoorW.PrintMore Go.Proofs.YtcmalglippmocaaDoor.Pal

theorem infoU8 : (Tryd.prog.info? 5).map (fun i => (i.zero, i.size, i.bytes)) = some (some (.int .u8 0), 1, 1) := by kernel_rfl
theorem sizeBuilder : (Tryd.prog.info? 138).map (·.size) = some 2 := by kernel_rfl
theorem liesWriter : liesAt Tryd.prog Tryd.prog.depth 140 (2 / Tryd.prog.cellsOf 140) 0 138 1 = true := by kernel_rfl

def WP (b : Nat) (p v : Value) (l : List UInt8) (w : World) : Prop :=
  w.heap[b]? = some (.cells #[p, v] 140 (0, 0)) ∧ w.ownsRowF b 5 1 v l.length (Lib.byteCells l) ∧ v.ownBlock ≠ some b ∧ (l = [] → v = .slice none 0 0)
def self (b : Nat) : Value := .pointer (some ⟨b, 0, none⟩)
def WAt (b : Nat) (l : List UInt8) (w : World) : Prop := ∃ v, WP b (.pointer none) v l w ∨ WP b (self b) v l w

theorem WP.shape {b : Nat} {p v : Value} {l : List UInt8} {w : World} (h : WP b p v l w) : w.shape? b = some (140, 2) := by
  have hb := h.1
  simp [World.shape?, hb]
theorem WP.lt {b : Nat} {p v : Value} {l : List UInt8} {w : World} (h : WP b p v l w) : b < w.heap.size := lt_of_block h.1
theorem WP.used {b : Nat} {p v : Value} {l : List UInt8} {w : World} (h : WP b p v l w) (q : Value) : WP b q v l (w.setCell ⟨b, 0, none⟩ q) := by
  obtain ⟨hb, hown, hne, hn⟩ := h
  refine ⟨?_, ?_, hne, hn⟩
  · simp [World.setCell, Array.getElem?_modify, hb]
  · exact hown.kept (row := some b) ⟨rfl, rfl, rfl, by simp [World.setCell], fun k _ hk => Below.heap_setCell _ _ _ _ (fun e => hk (by simp [e]))⟩ (Or.inr hne)
theorem WP.put {b : Nat} {p v v' : Value} {l : List UInt8} {w : World} (hb : w.heap[b]? = some (.cells #[p, v] 140 (0, 0))) (hown : w.ownsRowF b 5 1 v' l.length (Lib.byteCells l)) (hn : l = [] → v' = .slice none 0 0) :
    WP b p v' l (w.setCell ⟨b, 1, none⟩ v') := by
  have hne := Lib.ownBlock_neF hown hb (by decide)
  refine ⟨?_, ?_, hne, hn⟩
  · simp [World.setCell, Array.getElem?_modify, hb]
  · exact hown.kept (row := some b) ⟨rfl, rfl, rfl, by simp [World.setCell], fun k _ hk => Below.heap_setCell _ _ _ _ (fun e => hk (by simp [e]))⟩ (Or.inr hne)

set_option maxHeartbeats 1000000 in
set_option maxRecDepth 100000 in
theorem copyCheck_used (b : Nat) (w : World) (h0 : w.cell? ⟨b, 0, none⟩ = some (self b)) :
    Calls Tryd.prog 137 #[self b] w fun e w' => e = .returned (.tuple #[]) ∧ w' = w := by
  obtain ⟨j, hj, _⟩ := Option.map_eq_some_iff.1 sizeBuilder
  unfold self at h0 ⊢
  go_enter Tryd.func137, Tryd.ntmps137
  go_wp2
  rw [Lib.run_neq_ptr_same w _ Tryd.underlying136 hj]
  go_wp2
  go_end0
  exact ⟨rfl, rfl⟩

set_option maxHeartbeats 1000000 in
set_option maxRecDepth 100000 in
theorem copyCheck_fresh (b : Nat) (w : World) (h0 : w.cell? ⟨b, 0, none⟩ = some (.pointer none)) (hsh : w.shape? b = some (140, 2)) (hfz : w.frozen? ⟨b, 0, none⟩ = false) :
    Calls Tryd.prog 137 #[self b] w fun e w' => e = .returned (.tuple #[]) ∧ w' = w.setCell ⟨b, 0, none⟩ (self b) := by
  obtain ⟨j, hj, hjs⟩ := Option.map_eq_some_iff.1 sizeBuilder
  unfold self
  go_enter Tryd.func137, Tryd.ntmps137
  go_wp2
  rw [Lib.run_to_unsafe w ⟨b, 0, none⟩ Tryd.underlying136 Tryd.underlying209 hj (by rw [hjs]; decide) hsh (Nat.zero_lt_succ 1)]
  simp only [Result.andThen]
  rw [Oper.upon_value]
  go_wp2
  rw [run_callFunc_extern Tryd.func145 (by kernel_rfl) (by kernel_rfl) (by kernel_rfl) (e := Extern.AbiNoEscape.same) (by kernel_rfl)]
  rw [Lib.run_noEscape]
  simp only [Result.andThen]
  rw [Oper.upon_value]
  go_wp2
  rw [Lib.run_from_unsafe w ⟨b, 0, none⟩ Tryd.underlying209 Tryd.underlying136 hj hsh liesWriter]
  simp only [Result.andThen]
  rw [Oper.upon_value]
  go_wp2
  go_end0
  exact ⟨rfl, rfl⟩

theorem copyCheck_any (b : Nat) (l : List UInt8) (w : World) (h : WAt b l w) :
    Calls Tryd.prog 137 #[self b] w fun e w' => e = .returned (.tuple #[]) ∧ (∃ v, WP b (self b) v l w') ∧ Below b w w' := by
  obtain ⟨v, h | h⟩ := h
  · refine (copyCheck_fresh b w (by rw [Lib.cell_of_heap h.1]; rfl) h.shape (Lib.frozen_of_heap h.1 0)).mono ?_
    rintro e w' ⟨rfl, rfl⟩
    exact ⟨rfl, ⟨v, h.used _⟩, (Below.refl b w).setCell (p := ⟨b, 0, none⟩) (Nat.le_refl _) _⟩
  · refine (copyCheck_used b w (by rw [Lib.cell_of_heap h.1]; rfl)).mono ?_
    rintro e w' ⟨rfl, rfl⟩
    exact ⟨rfl, ⟨v, h⟩, Below.refl b _⟩

set_option maxHeartbeats 2000000 in
set_option maxRecDepth 100000 in
theorem WriteByte_calls (b : Nat) (l : List UInt8) (c : UInt8) (w : World) (h : WAt b l w) (hlen : l.length + 1 ≤ 140737488355328) :
    Calls Tryd.prog 138 #[self b, .int .u8 (c.toNat : Int)] w fun e w' => e = .returned .nilIface ∧ WAt b (l ++ [c]) w' ∧ Below b w w' := by
  obtain ⟨i0, hi, hz0, hz1, hz2⟩ := info_parts infoU8
  unfold self
  go_enter Tryd.func138, Tryd.ntmps138
  go_wp2_with fail
  refine (copyCheck_any b l _ h).mono ?_
  rintro e w1 ⟨rfl, ⟨v, h1⟩, hb1⟩
  obtain ⟨hbk, hown, hne, hnil⟩ := h1
  have c0 : w1.cell? ⟨b, 0, none⟩ = some (.pointer (some ⟨b, 0, none⟩)) := by rw [Lib.cell_of_heap hbk]; rfl
  have c1 : w1.cell? ⟨b, 1, none⟩ = some v := by rw [Lib.cell_of_heap hbk]; rfl
  have HN := Aside0.mk hnil
  have hlt := lt_of_block hbk
  have hsz := hb1.size
  clear hnil h
  go_wp2_with (at_builtin; refine wpList_append_ownF _ rfl _ _ 23 rfl b 5 i0 (.int .u8 0) 1 1 Tryd.underlying23 hi hz0 hz1 hz2 rfl (by decide) _ _ _ rfl (hown.alloc _) ⟨w1.heap.size, 0, none⟩ 1 1 [.int .u8 (c.toNat : Int)] rfl rfl ?c1 ?c2 ?c3 ?c4 ?c5 ?_)
  case c1 =>
    intro j u hj
    match j, hj with
    | 0, hj => simp at hj; subst hj; simp [Addr.add]
  case c2 => intro u hu; simp at hu; subst hu; rfl
  case c3 => unfold maxLen; omega
  case c4 => omega
  case c5 => simp; omega
  intro v' w2 hown' hgrow _
  have hb2 : w2.heap[b]? = some (.cells #[.pointer (some ⟨b, 0, none⟩), v] 140 (0, 0)) := by
    rw [hgrow.block b (by simp; omega) (fun e => hne e.symm), Lib.alloc_old w1 _ b hlt]
    exact hbk
  have d0 : w2.cell? ⟨b, 0, none⟩ = some (.pointer (some ⟨b, 0, none⟩)) := by rw [Lib.cell_of_heap hb2]; rfl
  have d1 : w2.cell? ⟨b, 1, none⟩ = some v := by rw [Lib.cell_of_heap hb2]; rfl
  have f1 : w2.frozen? ⟨b, 1, none⟩ = false := Lib.frozen_of_heap hb2 1
  obtain ⟨g, cap, rfl⟩ : ∃ g cap, v' = .slice (some ⟨g, 0, none⟩) (l.length + 1) cap := by
    rcases hown'.2 with ⟨_, h0⟩ | ⟨g, cap, cur, fz, hv, _⟩
    · omega
    · exact ⟨g, cap, hv⟩
  go_wp2
  go_ret
  refine ⟨rfl, ⟨_, .inr (WP.put (l := l ++ [c]) hb2 (by simpa [Lib.byteCells] using hown') (fun h => by simp at h))⟩, ?_⟩
  exact ((hb1.alloc (by omega) _).grown hgrow (by simp; omega) (fun k hk => (hown.lt k hk).1)).setCell (p := ⟨b, 1, none⟩) (Nat.le_refl _) _

set_option maxHeartbeats 2000000 in
set_option maxRecDepth 100000 in
theorem WriteString_calls (b : Nat) (l : List UInt8) (s : ByteArray) (w : World) (h : WAt b l w) (hlen : l.length + s.size ≤ 140737488355328) :
    Calls Tryd.prog 113 #[self b, .string s] w fun e w' => e = .returned (.tuple #[.int .i64 s.size, .nilIface]) ∧ WAt b (l ++ bl s) w' ∧ Below b w w' := by
  obtain ⟨i0, hi, hz0, hz1, hz2⟩ := info_parts infoU8
  unfold self
  go_enter Tryd.func113, Tryd.ntmps113
  go_wp2_with fail
  refine (copyCheck_any b l _ h).mono ?_
  rintro e w1 ⟨rfl, ⟨v, h1⟩, hb1⟩
  obtain ⟨hbk, hown, hne, hnil⟩ := h1
  have c0 : w1.cell? ⟨b, 0, none⟩ = some (.pointer (some ⟨b, 0, none⟩)) := by rw [Lib.cell_of_heap hbk]; rfl
  have c1 : w1.cell? ⟨b, 1, none⟩ = some v := by rw [Lib.cell_of_heap hbk]; rfl
  have HN := Aside0.mk hnil
  have hlt := lt_of_block hbk
  have hsz := hb1.size
  clear hnil h
  go_wp2_with (at_builtin; refine Lib.wpList_append_own_stringF _ rfl _ _ 23 9 rfl b 5 i0 Tryd.underlying23 Tryd.underlying9 hi hz0 hz1 hz2 _ _ _ rfl hown s rfl ?c3 ?c4 ?c5 ?_)
  case c3 => unfold maxLen; omega
  case c4 => omega
  case c5 => omega
  intro v' w2 hown' hgrow hvn
  have HV := Aside0.mk hvn
  clear hvn
  have hb2 : w2.heap[b]? = some (.cells #[.pointer (some ⟨b, 0, none⟩), v] 140 (0, 0)) := by
    rw [hgrow.block b hlt (fun e => hne e.symm)]
    exact hbk
  have d0 : w2.cell? ⟨b, 0, none⟩ = some (.pointer (some ⟨b, 0, none⟩)) := by rw [Lib.cell_of_heap hb2]; rfl
  have d1 : w2.cell? ⟨b, 1, none⟩ = some v := by rw [Lib.cell_of_heap hb2]; rfl
  have f1 : w2.frozen? ⟨b, 1, none⟩ = false := Lib.frozen_of_heap hb2 1
  obtain ⟨ao, n', cap, rfl⟩ : ∃ ao n' cap, v' = .slice ao n' cap := by
    rcases hown'.2 with ⟨hv, _⟩ | ⟨g, cap, cur, fz, hv, _⟩
    · exact ⟨_, _, _, hv⟩
    · exact ⟨_, _, _, hv⟩
  go_wp2
  go_ret2
  refine ⟨rfl, ⟨_, .inr (WP.put (l := l ++ bl s) hb2 (by rw [List.length_append, bl_length]; simpa [Lib.byteCells, Lib.strCells, bl] using hown') (fun h => ?_))⟩, ?_⟩
  · obtain ⟨h1, h2⟩ := List.append_eq_nil_iff.1 h
    exact HV.out.2 ⟨HN.out h1, ByteArray.ext (by simpa [bl] using h2)⟩
  exact (hb1.grown hgrow (by omega) (fun k hk => (hown.lt k hk).1)).setCell (p := ⟨b, 1, none⟩) (Nat.le_refl _) _

set_option maxHeartbeats 1000000 in
set_option maxRecDepth 100000 in
theorem BString_some (b : Nat) (l : List UInt8) (w : World) (h : WAt b l w) (h0 : l ≠ []) :
    Calls Tryd.prog 115 #[self b] w fun e w' => e = .returned (.string ⟨l.toArray⟩) ∧ WAt b l w' ∧ Below b w w' := by
  obtain ⟨p, v, hp, hbk, hown, hne, hnil⟩ : ∃ p v, (p = .pointer none ∨ p = self b) ∧ WP b p v l w := by
    obtain ⟨v, h | h⟩ := h
    · exact ⟨_, v, .inl rfl, h⟩
    · exact ⟨_, v, .inr rfl, h⟩
  have hl0 : l.length ≠ 0 := by simpa using h0
  obtain ⟨g, cap, cur, fz, rfl, hbg, hg, hfz, hnc, hcm, hcs, htake⟩ : ∃ g cap cur fz, v = .slice (some ⟨g, 0, none⟩) l.length cap ∧ b ≤ g ∧ w.heap[g]? = some (.cells cur 5 fz) ∧ fz.2 ≤ l.length * 1 ∧ l.length ≤ cap ∧ cap ≤ maxLen ∧ cur.size = cap * 1 ∧ cur.toList.take (l.length * 1) = Lib.byteCells l := by
    rcases hown.2 with ⟨_, hz⟩ | ⟨g, cap, cur, fz, hv, r⟩
    · exact absurd hz hl0
    · exact ⟨g, cap, cur, fz, hv, r⟩
  have c1 : w.drew.cell? ⟨b, 1, none⟩ = some (.slice (some ⟨g, 0, none⟩) l.length cap) := by
    have : w.drew.heap[b]? = some (.cells #[p, .slice (some ⟨g, 0, none⟩) l.length cap] 140 (0, 0)) := hbk
    rw [Lib.cell_of_heap this]; rfl
  have hSD : (Builtin.unsafeSliceData_ #[23] 202 #[.slice (some ⟨g, 0, none⟩) l.length cap]).run Tryd.prog w.drew = .ok (.pointer (some ⟨g, 0, none⟩)) w.drew :=
    Lib.run_unsafeSliceData_row _ _ _ _ _ _ (by omega)
  have hUS : (Builtin.unsafeString_ #[202, 3] 9 #[.pointer (some ⟨g, 0, none⟩), .int .i64 l.length]).run Tryd.prog w.drew = .ok (.string ⟨l.toArray⟩) (w.drew.freeze ⟨g, 0, none⟩ l.length) := by
    refine Lib.run_unsafeString_row w.drew 202 3 9 5 Tryd.underlying202 (by kernel_rfl) g cur.size (by have hg' : w.drew.heap[g]? = some (.cells cur 5 fz) := hg; simp [World.shape?, hg']) l h0 (by omega) (by unfold maxLen at hcm; omega) ?_
    intro j x hx
    have := hown.cells (g := g) rfl j (.int .u8 x.toNat) (by simp [Lib.byteCells, hx])
    exact this
  have hkeep : WAt b l (w.drew.freeze ⟨g, 0, none⟩ l.length) := by
    have hA : Lib.BuilderAtF 140 5 b b p (Lib.byteCells l) w.drew := ⟨Nat.le_refl _, _, hbk, by rw [Lib.byteCells_length]; exact hown, hne⟩
    have hF := hA.froze (g := g) (cap := cap) (by rw [Lib.byteCells_length]; exact c1)
    rw [Lib.byteCells_length] at hF
    obtain ⟨_, v2, f1, f2, f3⟩ := hF
    rw [Lib.byteCells_length] at f2
    rcases hp with rfl | rfl
    · exact ⟨v2, .inl ⟨f1, f2, f3, fun e => absurd e h0⟩⟩
    · exact ⟨v2, .inr ⟨f1, f2, f3, fun e => absurd e h0⟩⟩
  have HK := Lib.hid hkeep
  have hkB : Below b w (w.drew.freeze ⟨g, 0, none⟩ l.length) := Lib.below_freeze (Below.drew (Below.refl b w)) (p := ⟨g, 0, none⟩) hbg _
  have HKB := Lib.hid hkB
  clear hkeep hkB hown hnil hne hp hfz hnc hcm hcs htake hbk hg h
  unfold self
  go_enter Tryd.func115, Tryd.ntmps115
  go_wp2
  go_region
  all_goals (go_wp2; go_ret; exact ⟨rfl, HK.out, HKB.out⟩)

set_option maxHeartbeats 1000000 in
set_option maxRecDepth 100000 in
theorem BString_none (b : Nat) (w : World) (h : WAt b [] w) :
    Calls Tryd.prog 115 #[self b] w fun e w' => e = .returned (.string ⟨#[]⟩) ∧ WAt b [] w' ∧ Below b w w' := by
  obtain ⟨p, v, hp, hbk, hown, hne, hnil⟩ : ∃ p v, (p = .pointer none ∨ p = self b) ∧ WP b p v [] w := by
    obtain ⟨v, h | h⟩ := h
    · exact ⟨_, v, .inl rfl, h⟩
    · exact ⟨_, v, .inr rfl, h⟩
  obtain rfl := hnil rfl
  have c1 : w.drew.cell? ⟨b, 1, none⟩ = some (.slice none 0 0) := by
    have : w.drew.heap[b]? = some (.cells #[p, .slice none 0 0] 140 (0, 0)) := hbk
    rw [Lib.cell_of_heap this]; rfl
  have hSD : (Builtin.unsafeSliceData_ #[23] 202 #[.slice none 0 0]).run Tryd.prog w.drew = .ok (.pointer none) w.drew := rfl
  have hUS : (Builtin.unsafeString_ #[202, 3] 9 #[.pointer none, .int .i64 0]).run Tryd.prog w.drew = .ok (.string ⟨#[]⟩) w.drew := Lib.run_unsafeString_none w.drew _ _ _ none
  have HK := Lib.hid h
  clear hown hnil hne hp hbk h
  unfold self
  go_enter Tryd.func115, Tryd.ntmps115
  go_wp2
  go_region
  all_goals (go_wp2; go_ret; exact ⟨rfl, HK.out, (Below.refl b w).drew⟩)

theorem BString_calls (b : Nat) (l : List UInt8) (w : World) (h : WAt b l w) :
    Calls Tryd.prog 115 #[self b] w fun e w' => e = .returned (.string ⟨l.toArray⟩) ∧ WAt b l w' ∧ Below b w w' := by
  cases l with
  | nil => exact BString_none b w h
  | cons x r => exact BString_some b (x :: r) w h (by simp)


set_option maxHeartbeats 400000 in
theorem Writer_Text.calls (b : Nat) (l : List UInt8) (s : ByteArray) (w : World) (h : WAt b l w) (hlen : l.length + s.size ≤ 140737488355328) :
    Calls Tryd.prog 84 #[self b, .string s] w fun e w' => e = .returned (.tuple #[]) ∧ WAt b (l ++ bl s) w' ∧ Below b w w' := by
  unfold self
  go_enter Tryd.func84, Tryd.ntmps84
  go_wp2_with fail
  refine (WriteString_calls b l s w h hlen).mono ?_
  rintro e w1 ⟨rfl, h1, h2⟩
  have H1 := Lib.hid h1
  have H2 := Lib.hid h2
  clear h1 h2 h
  go_wp2
  go_end0
  exact ⟨rfl, H1.out, H2.out⟩

set_option maxHeartbeats 400000 in
theorem Writer_String.calls (b : Nat) (l : List UInt8) (w : World) (h : WAt b l w) :
    Calls Tryd.prog 86 #[self b] w fun e w' => e = .returned (.string ⟨l.toArray⟩) ∧ WAt b l w' ∧ Below b w w' := by
  unfold self
  go_enter Tryd.func86, Tryd.ntmps86
  go_wp2_with fail
  refine (BString_calls b l w h).mono ?_
  rintro e w1 ⟨rfl, h1, h2⟩
  have H1 := Lib.hid h1
  have H2 := Lib.hid h2
  clear h1 h2 h
  go_wp2
  go_ret
  exact ⟨rfl, H1.out, H2.out⟩


theorem byte_at (n k : Nat) : IntKind.u8.wrap ((n : Int) / 2 ^ (8 * (k : Int)).toNat) = ((UInt8.ofNat (n / 256 ^ k)).toNat : Int) := by
  have e1 : (8 * (k : Int)).toNat = 8 * k := by omega
  rw [e1, show ((2 : Int) ^ (8 * k)) = ((2 ^ (8 * k) : Nat) : Int) from by simp, Nat.pow_mul, IntKind.wrap_u8]
  simp
set_option maxHeartbeats 800000 in
set_option maxRecDepth 100000 in
theorem Writer_number.calls (b : Nat) (l : List UInt8) (n m : Nat) (w : World) (h : WAt b l w) (hn : n < 18446744073709551616) (hm : m ≤ 8) (hlen : l.length + m ≤ 140737488355328) :
    Calls Tryd.prog 114 #[self b, .int .u64 (n : Int), .int .i64 (m : Int)] w fun e w' => e = .returned (.tuple #[]) ∧ WAt b (l ++ nb m n) w' ∧ Below b w w' := by
  have H := Lib.hid h
  clear h
  unfold self
  go_enter Tryd.func114, Tryd.ntmps114
  go_wp2
  go_loopg [6] m (fun kq v6 wr => ∃ j : Nat, v6 = .int .i64 ((m : Int) - 1 - j) ∧ Aside0 (j + kq = m) ∧ Hid (WAt b (l ++ (nb m n).take j) wr) ∧ Hid (Below b w wr))
  case atStart => exact ⟨0, by simp, ⟨by omega⟩, by rw [List.take_zero, List.append_nil]; exact H, Lib.hid (Below.refl _ _)⟩
  case round =>
    obtain ⟨j, rfl, HK, HW, HB⟩ := hrel
    by_cases hlt : j < m
    · rw [show ((m : Int) - 1 - j) = ((m - 1 - j : Nat) : Int) from by omega]
      have HT : Aside0 ((nb m n).take (j + 1) = (nb m n).take j ++ [UInt8.ofNat (n / 256 ^ (m - 1 - j))]) := ⟨nb_take_succ m j n hlt⟩
      have HKK : Aside0 (m - 1 - j + j + 1 = m) := ⟨by omega⟩
      have hk7 : m - 1 - j ≤ 7 := by omega
      generalize m - 1 - j = k at HT HKK hk7 ⊢
      have hw8 : IntKind.i64.wrap (8 * (k : Int)) = 8 * (k : Int) := wraps_i64 _ (by omega) (by omega)
      go_wp2_with fail
      go_still_tail 8, (by kernel_rfl)
      change wpList _ _ _ _ _ wr.drew
      rw [byte_at n k]
      generalize UInt8.ofNat (n / 256 ^ k) = c at HT ⊢
      have hW1 : WAt b (l ++ (nb m n).take j) wr.drew := HW.out
      have hlen1 : (l ++ (nb m n).take j).length + 1 ≤ 140737488355328 := by rw [List.length_append, List.length_take, nb_length]; omega
      go_wp2_with fail
      refine (WriteByte_calls b _ c _ hW1 hlen1).mono ?_
      rintro e w1 ⟨rfl, h1, h2⟩
      have H1 := Lib.hid h1
      have H2 := Lib.hid h2
      clear h1 h2 hW1 hlen1 hw8
      go_wp2
      go_roundg k
      case measure => have := HK.out; have := HKK.out; omega
      case rel => exact ⟨j + 1, by rw [show ((m : Int) - 1 - ((j + 1 : Nat) : Int)) = (k : Int) - 1 from by have := HKK.out; omega], ⟨by have := HKK.out; omega⟩, by rw [HT.out, ← List.append_assoc]; exact H1, Lib.hid ((HB.out.drew).trans H2.out)⟩
    · have HT : Aside0 ((nb m n).take j = nb m n) := ⟨List.take_of_length_le (by rw [nb_length]; omega)⟩
      rw [HT.out] at HW
      go_wp2
      go_end0
      exact ⟨rfl, HW.out, HB.out⟩

set_option maxHeartbeats 400000 in
theorem Writer_U8.calls (b : Nat) (l : List UInt8) (x : Int) (w : World) (h : WAt b l w) (hlen : l.length + 1 ≤ 140737488355328) :
    Calls Tryd.prog 108 #[self b, .int .i64 x] w fun e w' => e = .returned (.tuple #[]) ∧ WAt b (l ++ nb 1 (IntKind.u64.wrap x).toNat) w' ∧ Below b w w' := by
  obtain ⟨n, hn, e1⟩ : ∃ n : Nat, n < 18446744073709551616 ∧ IntKind.u64.wrap x = (n : Int) := ⟨(IntKind.u64.wrap x).toNat, by rw [IntKind.wrap_u64]; omega, by rw [IntKind.wrap_u64]; omega⟩
  unfold self
  rw [e1, Int.toNat_natCast]
  go_enter Tryd.func108, Tryd.ntmps108
  go_wp2_with fail
  refine (Writer_number.calls b l n 1 _ h hn (by decide) hlen).mono ?_
  rintro e w1 ⟨rfl, h1, h2⟩
  have H1 := Lib.hid h1
  have H2 := Lib.hid h2
  clear h1 h2 h
  go_wp2
  go_end0
  exact ⟨rfl, H1.out, H2.out⟩
set_option maxHeartbeats 400000 in
theorem Writer_U16.calls (b : Nat) (l : List UInt8) (x : Int) (w : World) (h : WAt b l w) (hlen : l.length + 2 ≤ 140737488355328) :
    Calls Tryd.prog 85 #[self b, .int .i64 x] w fun e w' => e = .returned (.tuple #[]) ∧ WAt b (l ++ nb 2 (IntKind.u64.wrap x).toNat) w' ∧ Below b w w' := by
  obtain ⟨n, hn, e1⟩ : ∃ n : Nat, n < 18446744073709551616 ∧ IntKind.u64.wrap x = (n : Int) := ⟨(IntKind.u64.wrap x).toNat, by rw [IntKind.wrap_u64]; omega, by rw [IntKind.wrap_u64]; omega⟩
  unfold self
  rw [e1, Int.toNat_natCast]
  go_enter Tryd.func85, Tryd.ntmps85
  go_wp2_with fail
  refine (Writer_number.calls b l n 2 _ h hn (by decide) hlen).mono ?_
  rintro e w1 ⟨rfl, h1, h2⟩
  have H1 := Lib.hid h1
  have H2 := Lib.hid h2
  clear h1 h2 h
  go_wp2
  go_end0
  exact ⟨rfl, H1.out, H2.out⟩
set_option maxHeartbeats 400000 in
theorem Writer_U32.calls (b : Nat) (l : List UInt8) (x : Int) (w : World) (h : WAt b l w) (h0 : 0 ≤ x) (hx : x < 4294967296) (hlen : l.length + 4 ≤ 140737488355328) :
    Calls Tryd.prog 100 #[self b, .int .u32 x] w fun e w' => e = .returned (.tuple #[]) ∧ WAt b (l ++ nb 4 (IntKind.u64.wrap x).toNat) w' ∧ Below b w w' := by
  obtain ⟨n, hn, e1⟩ : ∃ n : Nat, n < 18446744073709551616 ∧ IntKind.u64.wrap x = (n : Int) := ⟨(IntKind.u64.wrap x).toNat, by rw [IntKind.wrap_u64]; omega, by rw [IntKind.wrap_u64]; omega⟩
  have e2 : x = (n : Int) := by rw [← e1, IntKind.wrap_u64]; omega
  unfold self
  rw [e1, Int.toNat_natCast]
  go_enter Tryd.func100, Tryd.ntmps100
  go_wp2_with fail
  rw [e2]
  refine (Writer_number.calls b l n 4 _ h hn (by decide) hlen).mono ?_
  rintro e w1 ⟨rfl, h1, h2⟩
  have H1 := Lib.hid h1
  have H2 := Lib.hid h2
  clear h1 h2 h
  go_wp2
  go_end0
  exact ⟨rfl, H1.out, H2.out⟩

def u64n (x : Int) : Nat := (IntKind.u64.wrap x).toNat
theorem WAt.new (w : World) : WAt w.heap.size [] (w.alloc (.cells #[.pointer none, .slice none 0 0] 140)) :=
  ⟨.slice none 0 0, .inl ⟨heap_alloc_new w _, ⟨by simp [Lib.byteCells], .inl ⟨rfl, rfl⟩⟩, by simp [Value.ownBlock], fun _ => rfl⟩⟩
theorem WAt.drew {b : Nat} {l : List UInt8} {w : World} (h : WAt b l w) : WAt b l w.drew := h
theorem WAt.drewN {b : Nat} {l : List UInt8} {w : World} (h : WAt b l w) (n : Nat) : WAt b l (w.drewN n) := h
def WS (B a b : Nat) (w w1 : World) (T : TypeId) (cs : Array Value) (l : List UInt8) : Prop := (WAt b l w1 ∧ Blk w1 a T cs ∧ Below B w w1) ∧ a < b ∧ B ≤ b
theorem WS.next {B a b : Nat} {w w1 w2 : World} {T : TypeId} {cs : Array Value} {l l' : List UInt8} (h : WS B a b w w1 T cs l) (h1 : WAt b l' w2) (h2 : Below b w1 w2) : WS B a b w w2 T cs l' :=
  ⟨⟨h1, h.1.2.1.below h2 h.2.1, h.1.2.2.trans (h2.mono h.2.2)⟩, h.2⟩
theorem WS.startAt {B a : Nat} {w w1 : World} {T : TypeId} {cs : Array Value} (h : Blk w1 a T cs) (hB : Below B w w1) (hs : B ≤ w1.heap.size) : WS B a w1.heap.size w (w1.alloc (.cells #[.pointer none, .slice none 0 0] 140)) T cs [] :=
  ⟨⟨WAt.new w1, h.alloc _, hB.alloc hs _⟩, h.lt, hs⟩
theorem WS.start (w : World) (T : TypeId) (cs : Array Value) : WS w.heap.size w.heap.size (w.heap.size + 1) w ((w.alloc (.cells cs T)).alloc (.cells #[.pointer none, .slice none 0 0] 140)) T cs [] := by
  have h := WS.startAt (Blk.new w T cs) ((Below.refl _ _).alloc (Nat.le_refl _) _) (by simp)
  rwa [World.size_alloc] at h
end Go.Proofs.YtcmalglippmocaaDoor.G
end
