/- Texts of this session, joined: each is a section. -/
import Derived.Test.YtcmalglippmocaaMFlowGets3
import Derived.Lib.ConvBytes
import Derived.WalkLawsBesides
import Derived.Recover
import Derived.Defers
import Derived.WideLaws
import Derived.Lib.Hide
import Derived.Test.YtcmalglippmocaaMFlowGets1
import Derived.RegionTactic
import Derived.Deep.RegionWith
import Derived.StillTailTactics
import Derived.Lib.Builder
import Derived.Lib.FrozenHead2
import Derived.Lib.UnsafeStr
import Derived.Laws.Externs
import Derived.Shelf.Strings.BuilderX
set_option linter.unusedVariables false
set_option linter.unusedSimpArgs false
section
/- By hand: wire's Reader: each method's contract over a reader's block. -/
namespace Go.Proofs.Ytcmalglippmocaa.G
open Go.RowKit Go.Proofs.YtcmalglippmocaaW.PrintWords Go.Proofs.YtcmalglippmocaaW.PrintLast Go.Proofs.YtcmalglippmocaaW.PrintMore Go.Proofs.Ytcmalglippmocaa.Pal
set_option linter.unusedVariables false
set_option linter.unusedSimpArgs false

/-- Block R is a reader of s that has read so many bytes. -/
def Rd (w : World) (R : Nat) (s : ByteArray) (n : Nat) : Prop := Blk w R 135 #[.string s, .int .i64 (n : Int)] ∧ n ≤ s.size ∧ s.size ≤ 140737488351232
def stopV (e : Int) : Value := .iface 133 (.agg #[.int .i64 e])
def stopped (e : Int) : Ending := .panicked [{ v := stopV e, recovered := false }]
theorem Rd.facts {w : World} {R : Nat} {s : ByteArray} {n : Nat} (h : Rd w R s n) :
    w.cell? ⟨R, 0, none⟩ = some (.string s) ∧ w.cell? ⟨R, 1, none⟩ = some (.int .i64 (n : Int)) ∧ w.frozen? ⟨R, 1, none⟩ = false :=
  ⟨h.1.cell 0 _ rfl, h.1.cell 1 _ rfl, h.1.free 1⟩
theorem Rd.step {w : World} {R : Nat} {s : ByteArray} {n : Nat} (h : Rd w R s n) (m : Nat) (hm : m ≤ s.size) : Rd (w.setCell ⟨R, 1, none⟩ (.int .i64 (m : Int))) R s m := ⟨h.1.set 1 _, hm, h.2.2⟩
theorem Rd.below {w w' : World} {R : Nat} {s : ByteArray} {n : Nat} (h : Rd w R s n) (hb : Below w.heap.size w w') : Rd w' R s n := ⟨h.1.below hb h.1.lt, h.2⟩

set_option maxHeartbeats 400000 in
theorem Reader_Left.calls (R : Nat) (s : ByteArray) (n : Nat) (w : World) (h : Rd w R s n) :
    Calls Try.prog 73 #[.pointer (some ⟨R, 0, none⟩)] w fun e w' => e = .returned (.int .i64 ((s.size : Int) - n)) ∧ ∃ k, w' = w.drewN k := by
  obtain ⟨c0, c1, c2⟩ := h.facts
  have hn := h.2.1
  have hs := h.2.2
  clear h
  go_enter Try.func73, Try.ntmps73
  go_wp2
  go_quiet (fail)
  go_wp2
  go_ret
  exact ⟨rfl, _, rfl⟩

set_option maxHeartbeats 400000 in
theorem Reader_Need.yes (R : Nat) (e : Int) (w : World) :
    Calls Try.prog 67 #[.pointer (some ⟨R, 0, none⟩), .bool true, .int .i64 e] w fun e w' => e = .returned (.tuple #[]) ∧ w' = w := by
  go_enter Try.func67, Try.ntmps67
  go_wp2
  go_end0
  exact ⟨rfl, rfl⟩

set_option maxHeartbeats 400000 in
theorem Reader_Need.no (R : Nat) (e : Int) (w : World) :
    Calls Try.prog 67 #[.pointer (some ⟨R, 0, none⟩), .bool false, .int .i64 e] w fun e1 w' => e1 = stopped e ∧ w' = w := by
  go_enter Try.func67, Try.ntmps67
  go_wp2
  exact ⟨rfl, rfl, rfl⟩

set_option maxHeartbeats 800000 in
theorem Reader_Take.yes (R : Nat) (s : ByteArray) (n : Nat) (m : Nat) (w : World) (h : Rd w R s n) (hm : n + m ≤ s.size) :
    Calls Try.prog 70 #[.pointer (some ⟨R, 0, none⟩), .int .i64 (m : Int)] w fun e w' =>
      e = .returned (.string (s.extract n (n + m))) ∧ ∃ k j, w' = ((w.drewN k).setCell ⟨R, 1, none⟩ (.int .i64 ((n + m : Nat) : Int))).drewN j := by
  have hn := h.2.1
  have hs := h.2.2
  have g1 : decide ((0 : Int) ≤ (m : Int)) = true := by simp
  have g2 : decide ((m : Int) ≤ (s.size : Int) - n) = true := by simp; omega
  go_enter Try.func70, Try.ntmps70
  go_wp2_with fail
  refine (Reader_Left.calls R s n _ h).mono ?_
  rintro e w1 ⟨rfl, k, rfl⟩
  have h1 := (show Rd (w.drewN k) R s n from h)
  go_wp2_with fail
  refine (Reader_Need.yes R 2 _).mono ?_
  rintro e w1 ⟨rfl, hw⟩
  subst hw
  obtain ⟨c0, c1, c2⟩ := h1.facts
  have h2 := h1.step (n + m) hm
  obtain ⟨d0, d1, d2⟩ := h2.facts
  have e1 : (((n + m : Nat) : Int)) = (n : Int) + m := by omega
  rw [e1] at d0 d1
  have h2' := Aside0.mk h2
  clear h2 h1 h
  go_wp2
  have hwn : IntKind.i64.wrap (n : Int) = n := wraps_i64 _ (by omega) (by omega)
  have hsl : ∀ wx : World, (Instr.slice 9 (.string s) (some (.int .i64 (n : Int))) (some (.int .i64 ((n : Int) + m))) none).run Try.prog wx = .ok (.string (s.extract n (n + m))) wx := fun wx => by
    have := run_slice_string (P := Try.prog) wx 9 s .i64 .i64 (n : Int) ((n : Int) + m) Try.underlying9 (by omega) (by omega) (by omega)
    rwa [Int.toNat_natCast, ← e1, Int.toNat_natCast] at this
  go_quiet (fail)
  clear hwn hsl
  go_wp2
  go_ret
  exact ⟨rfl, _, _, by rw [e1]⟩

set_option maxHeartbeats 800000 in
theorem Reader_Take.no (R : Nat) (s : ByteArray) (n : Nat) (m : Int) (w : World) (h : Rd w R s n) (hm : m < 0 ∨ (s.size : Int) < n + m) :
    Calls Try.prog 70 #[.pointer (some ⟨R, 0, none⟩), .int .i64 m] w fun e w' =>
      e = stopped 2 ∧ ∃ k, w' = w.drewN k := by
  have hn := h.2.1
  have hs := h.2.2
  by_cases h0 : 0 ≤ m
  · have g1 : decide ((0 : Int) ≤ m) = true := by simp; omega
    have g2 : decide (m ≤ (s.size : Int) - n) = false := by simp; omega
    clear h0 hm
    go_enter Try.func70, Try.ntmps70
    go_wp2_with fail
    refine (Reader_Left.calls R s n _ h).mono ?_
    rintro e w1 ⟨rfl, k, rfl⟩
    go_wp2_with fail
    refine (Reader_Need.no R 2 _).mono ?_
    rintro e w1 ⟨rfl, hw⟩
    subst hw
    exact ⟨rfl, rfl, _, rfl⟩
  · have g1 : decide ((0 : Int) ≤ m) = false := by simp; omega
    clear h0 hm
    go_enter Try.func70, Try.ntmps70
    go_wp2_with fail
    refine (Reader_Need.no R 2 _).mono ?_
    rintro e w1 ⟨rfl, hw⟩
    subst hw
    exact ⟨rfl, rfl, 0, rfl⟩


/-- What a reading that goes on leaves: so many bytes more are read; of the other blocks all is as it was. -/
def Went (w w' : World) (R : Nat) (s : ByteArray) (n : Nat) : Prop := w.grownBy w' (some R) ∧ Rd w' R s n
theorem Went.take {w : World} {R : Nat} {s : ByteArray} {n : Nat} (h : Rd w R s n) (m : Nat) (hm : n + m ≤ s.size) (k j : Nat) :
    Went w (((w.drewN k).setCell ⟨R, 1, none⟩ (.int .i64 ((n + m : Nat) : Int))).drewN j) R s (n + m) :=
  ⟨grown_drewN (World.grownBy.trans (grown_drewN (grown_refl w _) k) (grown_setCell _ _ _ _)) j, ((show Rd (w.drewN k) R s n from h).step (n + m) hm)⟩

set_option maxHeartbeats 400000 in
theorem Reader_Rest.calls (R : Nat) (s : ByteArray) (n : Nat) (w : World) (h : Rd w R s n) :
    Calls Try.prog 71 #[.pointer (some ⟨R, 0, none⟩)] w fun e w' => e = .returned (.string (s.extract n s.size)) ∧ Went w w' R s s.size := by
  have hn := h.2.1
  go_enter Try.func71, Try.ntmps71
  go_wp2_with fail
  refine (Reader_Left.calls R s n _ h).mono ?_
  rintro e w1 ⟨rfl, k, rfl⟩
  have h1 := (show Rd (w.drewN k) R s n from h)
  go_wp2_with fail
  rw [show ((s.size : Int) - n) = ((s.size - n : Nat) : Int) from by omega]
  refine (Reader_Take.yes R s n (s.size - n) _ h1 (by omega)).mono ?_
  rintro e w1 ⟨rfl, k1, j1, rfl⟩
  have HW := Aside0.mk (Went.take h1 (s.size - n) (by omega) k1 j1)
  have hsz : n + (s.size - n) = s.size := by omega
  rw [hsz] at HW ⊢
  generalize (((w.drewN k).drewN k1).setCell ⟨R, 1, none⟩ (.int .i64 ((s.size : Nat) : Int))).drewN j1 = w2 at HW ⊢
  clear hsz
  go_wp2
  go_ret
  exact ⟨rfl, World.grownBy.trans (grown_drewN (grown_refl w _) k) HW.out.1, HW.out.2⟩

theorem shl_or (x : Nat) (b : UInt8) (hx : x < 72057594037927936) : Go.bits .or .u64 ((x : Int) * 256) (b.toNat : Int) = ((x * 256 + b.toNat : Nat) : Int) := by
  have hb := b.toNat_lt
  have e := u64_or_nat (x * 256) b.toNat (by omega) (by omega)
  rw [nat_join 8 (x * 256) b.toNat (by omega) (by omega)] at e
  rw [← e]
  simp
theorem bl_extract (s : ByteArray) (n m : Nat) : bl (s.extract n m) = ((bl s).take m).drop n := by
  simp [bl, ByteArray.data_extract, List.drop_take]

set_option maxHeartbeats 800000 in
theorem Reader_number.yes (R : Nat) (s : ByteArray) (n : Nat) (m : Nat) (w : World) (h : Rd w R s n) (hm : n + m ≤ s.size) (h8 : m ≤ 8) :
    Calls Try.prog 83 #[.pointer (some ⟨R, 0, none⟩), .int .i64 (m : Int)] w fun e w' =>
      e = .returned (.int .u64 (be (bl (s.extract n (n + m))) : Nat)) ∧ Went w w' R s (n + m) := by
  have hs := h.2.2
  go_enter Try.func83, Try.ntmps83
  go_wp2_with fail
  refine (Reader_Take.yes R s n m _ h hm).mono ?_
  rintro e w1 ⟨rfl, k1, j1, rfl⟩
  have HW := Aside0.mk (Went.take h m hm k1 j1)
  have hsz : (s.extract n (n + m)).size = m := by simp only [ByteArray.size_extract]; omega
  generalize ((w.drewN k1).setCell ⟨R, 1, none⟩ (.int .i64 ((n + m : Nat) : Int))).drewN j1 = w2 at HW ⊢
  generalize hte : s.extract n (n + m) = t at hsz ⊢
  have HE := Aside0.mk hte
  have HS := Aside0.mk hsz
  clear hsz h hte
  have hcv := fun (wx : World) => Lib.run_convert_string_bytes (P := Try.prog) wx 9 31 5 t Try.underlying9 Try.underlying31 Try.underlying5
  go_wp2
  clear hcv
  have hB : Below w2.heap.size w2 (Lib.bytesWorld w2 5 t) := ⟨rfl, rfl, rfl, by rw [Lib.bytesWorld_size]; omega, fun k hk => Lib.bytesWorld_at_old _ _ _ _ hk⟩
  have hC : ∀ j, j < t.size → (Lib.bytesWorld w2 5 t).cell? ⟨w2.heap.size, j, none⟩ = some (.int .u8 ((bl t).getD j 0).toNat) := fun j hj => Lib.bytesWorld_cell _ _ _ _ hj
  generalize Lib.bytesWorld w2 5 t = w3 at hB hC ⊢
  have HB := Aside0.mk hB
  have HC := Aside0.mk hC
  clear hB hC
  go_loopg [5, 13] t.size (fun kq v5 v13 wr => ∃ j : Nat, v13 = .int .i64 (j : Int) ∧ v5 = .int .u64 (be ((bl t).take j) : Nat) ∧ Aside0 (j + kq = t.size) ∧ Aside0 (wr = w3))
  case atStart => exact ⟨0, rfl, rfl, ⟨by omega⟩, ⟨rfl⟩⟩
  case round =>
    obtain ⟨j, rfl, rfl, HK, HEw⟩ := hrel
    obtain rfl := HEw.out
    clear HEw
    by_cases hlt : j < t.size
    · have hcell := HC.out j hlt
      have hx : be ((bl t).take j) < 72057594037927936 := by
        have := be_lt_of ((bl t).take j) 7 (by rw [List.length_take, bl_length]; have := HS.out; omega)
        simpa using this
      have HT : Aside0 ((bl t).take (j + 1) = (bl t).take j ++ [(bl t).getD j 0]) := ⟨by
        rw [List.take_succ_eq_append_getElem (by rw [bl_length]; exact hlt), List.getD_eq_getElem?_getD, List.getElem?_eq_getElem (by rw [bl_length]; exact hlt)]
        rfl⟩
      generalize (bl t).getD j 0 = b at hcell HT
      have hor := shl_or (be ((bl t).take j)) b hx
      have HN : Aside0 (be ((bl t).take (j + 1)) = be ((bl t).take j) * 256 + b.toNat) := ⟨by rw [HT.out, be_snoc]⟩
      generalize be ((bl t).take j) = x at hx hor HN ⊢
      have hw : wrap64 ((j : Int) + 1) = ((j + 1 : Nat) : Int) := by have := HS.out; unfold wrap64; omega
      go_wp2
      go_roundg (t.size - (j + 1))
      case measure => have := HK.out; omega
      case rel => exact ⟨j + 1, by rw [hw], by rw [show IntKind.u64.wrap (b.toNat : Int) = (b.toNat : Int) from by have := b.toNat_lt; exact wraps_u64 _ (by omega) (by omega), hor, HN.out], ⟨by omega⟩, ⟨rfl⟩⟩
    · have HT : Aside0 ((bl t).take j = bl t) := ⟨List.take_of_length_le (by rw [bl_length]; omega)⟩
      rw [HT.out]
      go_wp2
      go_ret
      exact ⟨by rw [← HE.out]; rfl, grown_of_below' HW.out.1 HB.out, HW.out.2.below HB.out⟩

set_option maxHeartbeats 800000 in
theorem Reader_number.no (R : Nat) (s : ByteArray) (n : Nat) (m : Nat) (w : World) (h : Rd w R s n) (hm : s.size < n + m) :
    Calls Try.prog 83 #[.pointer (some ⟨R, 0, none⟩), .int .i64 (m : Int)] w fun e w' =>
      e = stopped 2 ∧ ∃ k, w' = w.drewN k := by
  go_enter Try.func83, Try.ntmps83
  go_wp2_with fail
  refine (Reader_Take.no R s n m _ h (.inr (by omega))).mono ?_
  rintro e w1 ⟨rfl, k1, rfl⟩
  exact ⟨rfl, rfl, _, rfl⟩

theorem be_small_U8 (s : ByteArray) (n : Nat) : be (bl (s.extract n (n + 1))) < 256 := by
  have := be_lt_of (bl (s.extract n (n + 1))) 1 (by rw [bl_length]; simp only [ByteArray.size_extract]; omega)
  simpa using this

set_option maxHeartbeats 400000 in
theorem Reader_U8.yes (R : Nat) (s : ByteArray) (n : Nat) (w : World) (h : Rd w R s n) (hm : n + 1 ≤ s.size) :
    Calls Try.prog 68 #[.pointer (some ⟨R, 0, none⟩)] w fun e w' => e = .returned (.int .i64 (be (bl (s.extract n (n + 1))) : Nat)) ∧ Went w w' R s (n + 1) := by
  have hw : wrap64 ((be (bl (s.extract n (n + 1))) : Nat) : Int) = ((be (bl (s.extract n (n + 1))) : Nat) : Int) := by have := be_small_U8 s n; unfold wrap64; omega
  go_enter Try.func68, Try.ntmps68
  go_wp2_with fail
  refine (Reader_number.yes R s n 1 _ h hm (by decide)).mono ?_
  rintro e w1 ⟨rfl, hw1⟩
  have HW := Aside0.mk hw1
  clear hw1
  go_wp2
  go_ret
  exact ⟨by first | rfl | exact congrArg (fun z => Ending.returned (.int .i64 z)) hw, HW.out⟩
set_option maxHeartbeats 400000 in
theorem Reader_U8.no (R : Nat) (s : ByteArray) (n : Nat) (w : World) (h : Rd w R s n) (hm : s.size < n + 1) :
    Calls Try.prog 68 #[.pointer (some ⟨R, 0, none⟩)] w fun e w' => e = stopped 2 ∧ ∃ k, w' = w.drewN k := by
  go_enter Try.func68, Try.ntmps68
  go_wp2_with fail
  refine (Reader_number.no R s n 1 _ h hm).mono ?_
  rintro e w1 ⟨rfl, k1, rfl⟩
  exact ⟨rfl, rfl, _, rfl⟩

theorem be_small_U16 (s : ByteArray) (n : Nat) : be (bl (s.extract n (n + 2))) < 65536 := by
  have := be_lt_of (bl (s.extract n (n + 2))) 2 (by rw [bl_length]; simp only [ByteArray.size_extract]; omega)
  simpa using this

set_option maxHeartbeats 400000 in
theorem Reader_U16.yes (R : Nat) (s : ByteArray) (n : Nat) (w : World) (h : Rd w R s n) (hm : n + 2 ≤ s.size) :
    Calls Try.prog 69 #[.pointer (some ⟨R, 0, none⟩)] w fun e w' => e = .returned (.int .i64 (be (bl (s.extract n (n + 2))) : Nat)) ∧ Went w w' R s (n + 2) := by
  have hw : wrap64 ((be (bl (s.extract n (n + 2))) : Nat) : Int) = ((be (bl (s.extract n (n + 2))) : Nat) : Int) := by have := be_small_U16 s n; unfold wrap64; omega
  go_enter Try.func69, Try.ntmps69
  go_wp2_with fail
  refine (Reader_number.yes R s n 2 _ h hm (by decide)).mono ?_
  rintro e w1 ⟨rfl, hw1⟩
  have HW := Aside0.mk hw1
  clear hw1
  go_wp2
  go_ret
  exact ⟨by first | rfl | exact congrArg (fun z => Ending.returned (.int .i64 z)) hw, HW.out⟩
set_option maxHeartbeats 400000 in
theorem Reader_U16.no (R : Nat) (s : ByteArray) (n : Nat) (w : World) (h : Rd w R s n) (hm : s.size < n + 2) :
    Calls Try.prog 69 #[.pointer (some ⟨R, 0, none⟩)] w fun e w' => e = stopped 2 ∧ ∃ k, w' = w.drewN k := by
  go_enter Try.func69, Try.ntmps69
  go_wp2_with fail
  refine (Reader_number.no R s n 2 _ h hm).mono ?_
  rintro e w1 ⟨rfl, k1, rfl⟩
  exact ⟨rfl, rfl, _, rfl⟩

theorem be_small_U32 (s : ByteArray) (n : Nat) : be (bl (s.extract n (n + 4))) < 4294967296 := by
  have := be_lt_of (bl (s.extract n (n + 4))) 4 (by rw [bl_length]; simp only [ByteArray.size_extract]; omega)
  simpa using this

set_option maxHeartbeats 400000 in
theorem Reader_U32.yes (R : Nat) (s : ByteArray) (n : Nat) (w : World) (h : Rd w R s n) (hm : n + 4 ≤ s.size) :
    Calls Try.prog 74 #[.pointer (some ⟨R, 0, none⟩)] w fun e w' => e = .returned (.int .u32 (be (bl (s.extract n (n + 4))) : Nat)) ∧ Went w w' R s (n + 4) := by
  have hw : IntKind.u32.wrap ((be (bl (s.extract n (n + 4))) : Nat) : Int) = ((be (bl (s.extract n (n + 4))) : Nat) : Int) := by have := be_small_U32 s n; exact wraps_u32 _ (by omega) (by omega)
  go_enter Try.func74, Try.ntmps74
  go_wp2_with fail
  refine (Reader_number.yes R s n 4 _ h hm (by decide)).mono ?_
  rintro e w1 ⟨rfl, hw1⟩
  have HW := Aside0.mk hw1
  clear hw1
  go_wp2
  go_ret
  exact ⟨by first | rfl | exact congrArg (fun z => Ending.returned (.int .i64 z)) hw, HW.out⟩
set_option maxHeartbeats 400000 in
theorem Reader_U32.no (R : Nat) (s : ByteArray) (n : Nat) (w : World) (h : Rd w R s n) (hm : s.size < n + 4) :
    Calls Try.prog 74 #[.pointer (some ⟨R, 0, none⟩)] w fun e w' => e = stopped 2 ∧ ∃ k, w' = w.drewN k := by
  go_enter Try.func74, Try.ntmps74
  go_wp2_with fail
  refine (Reader_number.no R s n 4 _ h hm).mono ?_
  rintro e w1 ⟨rfl, k1, rfl⟩
  exact ⟨rfl, rfl, _, rfl⟩

end Go.Proofs.Ytcmalglippmocaa.G
end

section
/- By hand: wire.Read: whatever closure reads, its end is the error that is told: OK where it comes back, the number where a Need stopped it. -/
namespace Go.Proofs.Ytcmalglippmocaa.G
open Go.RowKit Go.Proofs.YtcmalglippmocaaW.PrintWords Go.Proofs.YtcmalglippmocaaW.PrintLast Go.Proofs.YtcmalglippmocaaW.PrintMore Go.Proofs.Ytcmalglippmocaa.Pal
set_option linter.unusedVariables false
set_option linter.unusedSimpArgs false

/-- How a reading's closure ends: it comes back (0), or is stopped with an error. -/
def did (e : Int) : Ending := if e = 0 then .returned (.tuple #[]) else stopped e

theorem stop_is (v : Value) (W : World) : (Instr.typeAssert (.iface 133 v) 20 133 true).run Try.prog W = .ok (.tuple #[v, .bool true]) W := by kernel_rfl

set_option maxHeartbeats 400000 in
theorem Read1_caught (p : Nat) (x e : Int) (w : World) (hc : w.cell? ⟨p, 0, none⟩ = some (.int .i64 x)) (hz : w.frozen? ⟨p, 0, none⟩ = false) (hp : p < w.heap.size) :
    CallsD Try.prog 82 #[.pointer (some ⟨p, 0, none⟩)] (.panicking [{ v := stopV e, recovered := false }]) w fun e1 u' w' =>
      e1 = .returned (.tuple #[]) ∧ u' = .panicking [{ v := stopV e, recovered := true }] ∧ w' = (w.setCell ⟨p, 0, none⟩ (.int .i64 e)).alloc (.cells #[.int .i64 e] 133) := by
  have hta : ∀ (v : Value) (W : World), (Instr.typeAssert (.iface 133 v) 20 133 true).run Try.prog W = .ok (.tuple #[v, .bool true]) W := stop_is
  refine callsD_of_wpS Try.func82 rfl fun c₀ cs hu => ?_
  simp only [Try.ntmps82, List.size_toArray, List.length_cons, List.length_nil, Nat.reduceAdd, Nat.reduceSub, Array.replicate_succ,
     Array.replicate_zero, List.push_toArray, List.append_toArray, List.nil_append, List.cons_append]
  apply wpS_seq
  apply wpS_region
  simp [wpOpsS, go_sem, recoverD, hu, Exit.thenS, stopV]
  apply wpS_of_wp
  go_wp2
  exact ⟨rfl, _, rfl, _, results_none rfl _ _ _, rfl, rfl, rfl⟩

set_option maxHeartbeats 400000 in
theorem Read1_idle (p : Nat) (w : World) :
    CallsD Try.prog 82 #[.pointer (some ⟨p, 0, none⟩)] .returning w fun e1 u' w' => e1 = .returned (.tuple #[]) ∧ u' = .returning ∧ w' = w := by
  refine callsD_of_wpS Try.func82 rfl fun c₀ cs hu => ?_
  simp only [Try.ntmps82, List.size_toArray, List.length_cons, List.length_nil, Nat.reduceAdd, Nat.reduceSub, Array.replicate_succ,
     Array.replicate_zero, List.push_toArray, List.append_toArray, List.nil_append, List.cons_append]
  apply wpS_seq
  apply wpS_region
  simp [wpOpsS, go_sem, recoverD, hu, Exit.thenS]
  apply wpS_of_wp
  go_wp2
  refine ⟨rfl, .returning, ?_, _, results_none rfl _ _ _, rfl, rfl, rfl⟩
  cases c₀
  simp_all

/-- The world in which the closure begins: the result's variable, then the reader. -/
def readW (w : World) (s : ByteArray) : World := (w.alloc (.cells #[.int .i64 0] 25)).alloc (.cells #[.string s, .int .i64 0] 135)
theorem readW_rd (w : World) (s : ByteArray) (hs : s.size ≤ 140737488351232) : Rd (readW w s) (w.heap.size + 1) s 0 := by
  have h := Blk.new (w.alloc (.cells #[.int .i64 0] 25)) 135 #[.string s, .int .i64 0]
  rw [World.size_alloc] at h
  exact ⟨h, by omega, hs⟩
theorem readW_res (w : World) (s : ByteArray) : Blk (readW w s) w.heap.size 25 #[.int .i64 0] := (Blk.new w _ _).alloc _
theorem readW_below (w : World) (s : ByteArray) : Below w.heap.size w (readW w s) := ((Below.refl _ _).alloc (Nat.le_refl _) _).alloc (by simp) _
set_option maxHeartbeats 800000 in
theorem Read_calls (g : FuncId) (cap : Array Value) (s : ByteArray) (er : Int) (w : World) (Q : World → Prop)
    (hg : ∀ args w, (callFunc g args).run Try.prog w = .ok (.enter g args) w)
    (hdo : Calls Try.prog g (#[.pointer (some ⟨w.heap.size + 1, 0, none⟩)] ++ cap) (readW w s) fun e w2 => e = did er ∧ Blk w2 w.heap.size 25 #[.int .i64 0] ∧ Q w2) :
    Calls Try.prog 65 #[.string s, .func (.func g) #[] cap] w fun e w' => e = .returned (.int .i64 er) ∧ ∃ w2, Q w2 ∧ w2.grownBy w' (some w.heap.size) := by
  have hmf : ∀ (fn : Fn) (first cap : Array Value) (w : World), (Instr.makeFunc fn first cap).run Try.prog w = .ok (.func fn first cap) w := fun _ _ _ _ => rfl
  have HD := Lib.hid hdo
  clear hdo
  go_enter_defers Try.func65, Try.ntmps65
  go_wp2_with fail
  refine HD.out.mono ?_
  rintro e w2 ⟨rfl, hb, hq⟩
  have HQ := Lib.hid hq
  clear hq HD
  have c0 := hb.cell 0 _ rfl
  have c1 := hb.free 0
  have HB := Aside0.mk hb
  clear hb
  by_cases h0 : er = 0
  · subst h0
    rw [show did 0 = .returned (.tuple #[]) from rfl]
    go_wp2
    refine leaves_cons (f := 82) (args := #[.pointer (some ⟨w.heap.size, 0, none⟩)]) (by simp) (by simp [go_sem]) ?_
    refine (Read1_idle w.heap.size _).mono ?_
    rintro e u' w'' ⟨rfl, rfl, rfl⟩
    have c2 := (HB.out.set 0 (.int .i64 0)).cell 0 _ rfl
    refine ⟨.int .i64 0, ?_, rfl, w2, HQ.out, grown_setCell _ _ _ _⟩
    simp [results, Try.results65, go_sem]
    rw [c2]
    rfl
  · rw [show did er = stopped er from if_neg h0]
    refine leaves_cons (f := 82) (args := #[.pointer (some ⟨w.heap.size, 0, none⟩)]) (by simp) (by simp [go_sem]) ?_
    refine (Read1_caught w.heap.size 0 er w2 c0 c1 HB.out.lt).mono ?_
    rintro e u' w'' ⟨rfl, rfl, rfl⟩
    have c2 := (((HB.out.set 0 (.int .i64 er))).alloc (.cells #[.int .i64 er] 133)).cell 0 _ rfl
    refine ⟨.int .i64 er, ?_, rfl, w2, HQ.out, grown_alloc (grown_setCell _ _ _ _) _⟩
    simp [results, Try.results65, go_sem]
    rw [c2]
    rfl
end Go.Proofs.Ytcmalglippmocaa.G
end

section
/- By hand: sum.fold, sum.Sum's closure, sum.Sum: what they return is the plain checksum of all parts' bytes. -/
namespace Go.Proofs.Ytcmalglippmocaa.G
open Go.RowKit Go.Proofs.YtcmalglippmocaaW.PrintWords Go.Proofs.YtcmalglippmocaaW.PrintLast Go.Proofs.YtcmalglippmocaaW.PrintMore Go.Proofs.Ytcmalglippmocaa.Pal
set_option linter.unusedVariables false
set_option linter.unusedSimpArgs false

def sum_fold.f (a0 : Int) : Option Int := if 0 ≤ a0 ∧ a0 ≤ 18446744073709551615 then some ((fold16 a0.toNat : Nat) : Int) else none

def addW (t : Int) (o : Bool) (b : Int) : Int := t + if o then b else b * 256
set_option maxHeartbeats 400000 in
set_option maxRecDepth 100000 in
theorem sum_add.calls (b t : Int) (o : Bool) (po pt : Nat) (w : World) (hb0 : 0 ≤ b) (hb1 : b ≤ 255) (ht0 : 0 ≤ t) (ht1 : t ≤ 18446744073709486000)
    (h1 : w.cell? ⟨po, 0, none⟩ = some (.bool o)) (h2 : w.cell? ⟨pt, 0, none⟩ = some (.int .u64 t)) (f1 : w.frozen? ⟨po, 0, none⟩ = false) (f2 : w.frozen? ⟨pt, 0, none⟩ = false) (hne : ¬ po = pt) :
    Calls Try.prog 62 #[.int .u8 b, .pointer (some ⟨po, 0, none⟩), .pointer (some ⟨pt, 0, none⟩)] w fun e w' => e = .returned (.tuple #[]) ∧ w' = (w.setCell ⟨pt, 0, none⟩ (.int .u64 (addW t o b))).setCell ⟨po, 0, none⟩ (.bool (!o)) := by
  have hnot : ∀ (x : Bool) (w : World), (Op.unary .not (.bool x)).run Try.prog w = .ok (.bool (!x)) w := fun _ _ => rfl
  cases o
  · go_enter Try.func62, Try.ntmps62
    go_wp2
    go_end0
    exact ⟨rfl, by simp [addW]⟩
  · go_enter Try.func62, Try.ntmps62
    go_wp2
    go_end0
    exact ⟨rfl, by simp [addW]⟩

theorem and_low (x : Nat) (h : x ≤ 18446744073709551615) : Go.bits .and .u64 (x : Int) 65535 = ((x % 65536 : Nat) : Int) := by
  have e := u64_and' x 65535 (by omega) (by decide)
  rw [Nat.and_two_pow_sub_one_eq_mod x 16] at e
  exact e

set_option maxHeartbeats 400000 in
theorem sum_fold.calls (a0 : Int) (r : Int) (w : World) (h : sum_fold.f a0 = some r) :
    Calls Try.prog 43 #[.int .u64 a0] w fun e w' => e = .returned (.int .i64 r) ∧ Below w.heap.size w w' := by
  unfold sum_fold.f at h
  by_cases hc : 0 ≤ a0 ∧ a0 ≤ 18446744073709551615
  case neg => rw [if_neg hc] at h; exact absurd h (by simp)
  rw [if_pos hc] at h
  have H := Aside0.mk (Option.some.inj h)
  obtain ⟨h0, hk⟩ := hc
  clear h
  go_enter Try.func43, Try.ntmps43
  go_wp2
  go_loopg [0] a0.toNat (fun kq v0 w' => ∃ x : Nat, v0 = .int .u64 (x : Int) ∧ Aside0 (fold16 x = fold16 a0.toNat) ∧ Aside0 (x ≤ kq ∧ x ≤ 18446744073709551615) ∧ Aside0 (Below w.heap.size w w'))
  case atStart => exact ⟨a0.toNat, by rw [Int.toNat_of_nonneg h0], ⟨rfl⟩, ⟨by omega⟩, ⟨Below.refl _ _⟩⟩
  case round =>
    obtain ⟨x, rfl, HA, HK, HB⟩ := hrel
    have hx := HK.out.2
    clear hk h0
    by_cases hlt : 65535 < x
    · have e1 := and_low x hx
      go_wp2
      go_roundg (x % 65536 + x / 65536)
      case measure => have := HK.out; omega
      case rel => exact ⟨x % 65536 + x / 65536, by simp, ⟨by rw [fold16_step]; exact HA.out⟩, ⟨by omega⟩, HB⟩
    · have e2 : wrap64 (x : Int) = x := by unfold wrap64; omega
      have HX := Aside0.mk (fold16_id x (by omega))
      go_wp2
      go_ret
      exact ⟨by have h1 := H.out; have h2 := HA.out; have h3 := HX.out; rw [h2] at h3; rw [← h1, h3]; rfl, HB.out⟩

def SumInv (w wr : World) (bs : List UInt8) : Prop :=
  Below w.heap.size w wr ∧ wr.heap[w.heap.size]? = some (.cells #[.int .u64 (tot false bs : Nat)] 84 (0, 0)) ∧ wr.heap[w.heap.size + 1]? = some (.cells #[.bool (odd bs)] 4 (0, 0))
theorem SumInv.start (w : World) : SumInv w ((w.alloc (.cells #[.int .u64 0] 84)).alloc (.cells #[.bool false] 4)) [] := by
  refine ⟨((Below.refl _ _).alloc (Nat.le_refl _) _).alloc (by simp) _, ?_, ?_⟩
  · rw [Below.heap_alloc _ _ _ (by simp)]
    exact heap_alloc_new w _
  · have := heap_alloc_new (w.alloc (.cells #[.int .u64 0] 84)) (.cells #[.bool false] 4)
    rwa [World.size_alloc] at this
theorem SumInv.step {w wr : World} {bs : List UInt8} (h : SumInv w wr bs) (b : UInt8) :
    SumInv w ((wr.setCell ⟨w.heap.size, 0, none⟩ (.int .u64 (addW (tot false bs : Nat) (odd bs) (b.toNat : Int)))).setCell ⟨w.heap.size + 1, 0, none⟩ (.bool (!odd bs))) (bs ++ [b]) := by
  obtain ⟨h1, h2, h3⟩ := h
  refine ⟨(h1.setCell (by simp) _).setCell (by simp) _, ?_, ?_⟩
  · rw [Below.heap_setCell _ _ _ _ (by simp), one_setCell h2, tot_snoc, addW]
    cases odd bs <;> simp
  · rw [odd_snoc]
    exact one_setCell (by rw [Below.heap_setCell _ _ _ _ (by simp)]; exact h3)

theorem SumInv.facts {w wr : World} {bs : List UInt8} (h : SumInv w wr bs) :
    wr.cell? ⟨w.heap.size, 0, none⟩ = some (.int .u64 (tot false bs : Nat)) ∧ wr.frozen? ⟨w.heap.size, 0, none⟩ = false ∧ wr.cell? ⟨w.heap.size + 1, 0, none⟩ = some (.bool (odd bs)) ∧ wr.frozen? ⟨w.heap.size + 1, 0, none⟩ = false :=
  ⟨cell_of_one h.2.1, free_of_one h.2.1, cell_of_one h.2.2, free_of_one h.2.2⟩

set_option maxHeartbeats 400000 in
theorem sum_Sum.walk (A0 : Option Addr) (c0 : Nat) (l0 : List ByteArray) (w : World) (hr0 : Kd.C Kd.string w A0 l0.length l0) (hc0 : l0.length ≤ c0) (hs : (cat l0).length ≤ 1099511627776) :
    Calls Try.prog 40 #[.slice A0 l0.length c0] w fun e w' => e = .returned (.int .i64 (csum (cat l0) : Nat)) ∧ Below w.heap.size w w' := by
  have hmf : ∀ (fn : Fn) (first cap : Array Value) (w : World), (Instr.makeFunc fn first cap).run Try.prog w = .ok (.func fn first cap) w := fun _ _ _ _ => rfl
  have HR := Aside0.mk hr0
  have HS := Aside0.mk hs
  clear hr0 hs
  go_enter Try.func40, Try.ntmps40
  go_wp2
  go_loopg [12] l0.length (fun kq v12 wr => ∃ i : Nat, v12 = .int .i64 (i : Int) ∧ Aside0 (i + kq = l0.length) ∧ SumInv w wr (cat (l0.take i)))
  case atStart => exact ⟨0, rfl, ⟨by omega⟩, SumInv.start w⟩
  case round =>
    obtain ⟨i, rfl, HK, HI⟩ := hrel
    by_cases hlt : i < l0.length
    · obtain ⟨ad, rfl, hcell⟩ := Kd.at_string (Kd.C_below HR.out HI.1) (i : Int) (by omega) (by omega)
      rw [Int.toNat_natCast] at hcell
      have HP : Aside0 (rdOf ByteArray.empty l0 (i : Int) = l0[i]) := ⟨by simp [rdOf, List.getD_eq_getElem?_getD, List.getElem?_eq_getElem hlt]⟩
      generalize rdOf ByteArray.empty l0 (i : Int) = p at hcell HP
      have HL : Aside0 ((cat (l0.take i)).length + p.size ≤ 1099511627776) := ⟨by
        have h1 := HS.out
        have h2 : cat l0 = cat (l0.take i) ++ (bl p ++ cat (l0.drop (i + 1))) := by
          conv => lhs; rw [← List.take_append_drop i l0]
          rw [List.drop_eq_getElem_cons hlt, ← HP.out]
          simp [cat]
        rw [h2, List.length_append, List.length_append, bl_length] at h1
        omega⟩
      go_wp2
      obtain ⟨wo, rfl⟩ : ∃ wo : World, wo = wr := ⟨_, rfl⟩
      clear hcell
      go_loopg [18] p.size (fun kq v18 wr => ∃ j : Nat, v18 = .int .i64 (j : Int) ∧ Aside0 (j + kq = p.size) ∧ SumInv w wr (cat (l0.take i) ++ (bl p).take j))
      case atStart => exact ⟨0, rfl, ⟨by omega⟩, by rw [List.take_zero, List.append_nil]; exact HI⟩
      case round =>
        obtain ⟨j, rfl, HKj, HJ⟩ := hrel
        by_cases hj : j < p.size
        · obtain ⟨c1, c2, c3, c4⟩ := HJ.facts
          have htot := tot_le (cat (l0.take i) ++ (bl p).take j) false
          have hlen : (cat (l0.take i) ++ (bl p).take j).length ≤ 1099511627776 := by
            have := HL.out
            rw [List.length_append, List.length_take, bl_length]
            omega
          have HT : Aside0 ((bl p).take (j + 1) = (bl p).take j ++ [p[j]]) := ⟨by
            rw [List.take_succ_eq_append_getElem (by rw [bl_length]; exact hj)]
            rfl⟩
          have hbyte := p[j].toNat_lt
          have hw : wrap64 ((j : Int) + 1) = ((j + 1 : Nat) : Int) := by have := HL.out; unfold wrap64; omega
          go_wp2_with fail
          refine (sum_add.calls _ _ _ _ _ _ (by omega) (by omega) (by omega) (by omega) c3 c1 c4 c2 (by omega)).mono ?_
          rintro e w' ⟨rfl, rfl⟩
          have HN := Aside0.mk (HJ.step p[j])
          clear c1 c2 c3 c4
          go_wp2
          go_roundg (p.size - (j + 1))
          case measure => have := HKj.out; omega
          case rel => exact ⟨j + 1, by first | rfl | rw [hw], ⟨by have := HKj.out; omega⟩, by rw [HT.out, ← List.append_assoc]; exact HN.out⟩
        · have HT : Aside0 ((bl p).take j = bl p) := ⟨List.take_of_length_le (by rw [bl_length]; omega)⟩
          have HT2 : Aside0 (cat (l0.take (i + 1)) = cat (l0.take i) ++ bl p) := ⟨by
            rw [List.take_succ_eq_append_getElem hlt, ← HP.out]
            simp [cat]⟩
          have hlen : l0.length ≤ 9223372036854775807 := HR.out.2.1
          have hw : wrap64 ((i : Int) + 1) = ((i + 1 : Nat) : Int) := by unfold wrap64; omega
          go_wp2
          go_roundg (l0.length - (i + 1))
          case measure => have := HK.out; omega
          case rel => exact ⟨i + 1, by rfl, ⟨by omega⟩, by rw [HT2.out, ← HT.out]; exact HJ⟩
    · have HT : Aside0 (l0.take i = l0) := ⟨List.take_of_length_le (by omega)⟩
      rw [HT.out] at HI
      obtain ⟨c1, c2, c3, c4⟩ := HI.facts
      have htot := tot_le (cat l0) false
      have hlen := HS.out
      have hfold := fold16_le (tot false (cat l0))
      have hx := i64_xor_ones (fold16 (tot false (cat l0))) (by omega)
      go_wp2_with fail
      refine (sum_fold.calls _ ((fold16 (tot false (cat l0)) : Nat) : Int) _ (by unfold sum_fold.f; rw [if_pos (by omega), Int.toNat_natCast])).mono ?_
      rintro e w' ⟨rfl, hB⟩
      have HB := Aside0.mk hB
      have HI' := Aside0.mk HI
      clear hB HI c1 c2 c3 c4 htot hlen
      go_wp2
      go_ret
      exact ⟨rfl, HI'.out.1.trans (HB.out.mono HI'.out.1.size)⟩

def sum_Sum.f (l0 : List ByteArray) : Option Int := if (cat l0).length ≤ 1099511627776 then some (csum (cat l0) : Nat) else none
theorem sum_Sum.calls (A0 : Option Addr) (c0 : Nat) (l0 : List ByteArray) (r : Int) (w : World) (hr0 : Kd.C Kd.string w A0 l0.length l0) (hc0 : l0.length ≤ c0) (h : sum_Sum.f l0 = some r) :
    Calls Try.prog 40 #[.slice A0 l0.length c0] w fun e w' => e = .returned (.int .i64 r) ∧ Below w.heap.size w w' := by
  unfold sum_Sum.f at h
  by_cases hs : (cat l0).length ≤ 1099511627776
  · rw [if_pos hs] at h
    obtain rfl := Option.some.inj h
    exact sum_Sum.walk A0 c0 l0 w hr0 hc0 hs
  · rw [if_neg hs] at h
    exact absurd h (by simp)
end Go.Proofs.Ytcmalglippmocaa.G
end

section
namespace Go.Proofs.Ytcmalglippmocaa.G
open Go.RowKit Go.Proofs.YtcmalglippmocaaW.PrintWords Go.Proofs.YtcmalglippmocaaW.PrintLast Go.Proofs.YtcmalglippmocaaW.PrintMore
attribute [local go_sem] max2_int min2_int max_two min_two max_three min_three max_four min_four   -- for this text's walks alone
set_option linter.unusedVariables false
set_option linter.unusedSimpArgs false

def sum_Right.f (l0 : List ByteArray) : Option (Bool) := (sum_Sum.f l0).bind fun t119 => (some (t119 == 0))
set_option maxHeartbeats 8000000 in
set_option maxRecDepth 100000 in
theorem sum_Right.calls (A0 : Option Addr) (c0 : Nat) (l0 : List ByteArray) (r : Bool) (w : World) (hr0 : Kd.C Kd.string w A0 l0.length l0) (hc0 : l0.length ≤ c0) (h : sum_Right.f l0 = some r) :
  Calls Try.prog 27 #[.slice A0 l0.length c0] w fun e w' => e = .returned (.bool r) ∧ Below w.heap.size w w' := by
 have HR0 := mA hr0
 have HC0 := mA hc0
 clear hr0 hc0
 have HB := mA (Below.refl w.heap.size w)
 have H : ((sum_Sum.f l0).bind fun t119 => (some (t119 == 0))) = some r := h
 clear h
 replace H := Option.bind_eq_some_iff.mp H
 obtain ⟨t119, A20, H⟩ := H
 replace H : (some (t119 == 0)) = some r := H
 have A2 := mA A20
 clear A20
 obtain rfl := Option.some.inj H
 go_enter Try.func27, Try.ntmps27
 go_wp2_with (first | ((with_reducible refine gate_callee (f := 40) rfl ?_); refine goesL_ (some 4) rfl rfl Try.func40 (by kernel_rfl) rfl #[.slice A0 l0.length c0] rfl (by (try simp only [List.map_toArray, List.map_cons, List.map_nil]); first | done | rfl | (simp only [List.length_drop, List.length_take]; rfl)) ?_; (with_reducible refine (sum_Sum.calls _ _ l0 t119 _ ?side1 ?side2 A2.out).mono ?_); (case side1 => repeat (first | exact HR0.out | (with_reducible refine Kd.C_alloc ?_ _) | (with_reducible refine Kd.C_drewN ?_ _) | (with_reducible refine Kd.C_drew ?_))); (case side2 => exact HC0.out); rintro e w3 ⟨rfl, hb⟩; refine ⟨_, rfl, ?_⟩; have n0_ := mA (bP (by repeat (first | (with_reducible first | exact HB.out | apply bA | apply bN | apply bD) | exact HB.out)) hb); clear HB; have HB := n0_; clear n0_; (try clear hb); (try clear hb2); (try clear hk); (try clear hi)))
 go_ret
 exact ⟨by first | rfl | (simp [errW_none, errW_some] <;> rfl) | (simp [*, errW_none, errW_some] <;> rfl), by repeat (first | (with_reducible first | exact HB.out | apply bA | apply bN | apply bD) | exact HB.out)⟩

def sum_Pseudo.f (a0 : ByteArray) (a1 : ByteArray) (a2 : Int) (a3 : Int) : Option (ByteArray) := if (a0.size : Int) = 16 then (if a0.size + a1.size ≤ 9223372036854775807 then ((some (([(a3 / 16777216) % 256, (a3 / 65536) % 256, (a3 / 256) % 256, (a3) % 256, 0, 0, 0, (a2) % 256] : List Int) : List Int)).bind fun y120 => (if (a0 ++ a1).size + (strOfNums y120).size ≤ 9223372036854775807 then (some ((a0 ++ a1) ++ (strOfNums y120))) else (none))) else (none)) else (if a0.size + a1.size ≤ 9223372036854775807 then ((some (([0, (a2) % 256, (a3 / 256) % 256, (a3) % 256] : List Int) : List Int)).bind fun y123 => (if (a0 ++ a1).size + (strOfNums y123).size ≤ 9223372036854775807 then (some ((a0 ++ a1) ++ (strOfNums y123))) else (none))) else (none))
set_option maxHeartbeats 8000000 in
set_option maxRecDepth 100000 in
theorem sum_Pseudo.calls (a0 : ByteArray) (a1 : ByteArray) (a2 : Int) (a3 : Int) (r : ByteArray) (w : World) (h : sum_Pseudo.f a0 a1 a2 a3 = some r) :
  Calls Try.prog 28 #[.string a0, .string a1, .int .i64 a2, .int .i64 a3] w fun e w' => e = .returned (.string r) ∧ Below w.heap.size w w' := by
 have HB := mA (Below.refl w.heap.size w)
 have H : (if (a0.size : Int) = 16 then (if a0.size + a1.size ≤ 9223372036854775807 then ((some (([(a3 / 16777216) % 256, (a3 / 65536) % 256, (a3 / 256) % 256, (a3) % 256, 0, 0, 0, (a2) % 256] : List Int) : List Int)).bind fun y120 => (if (a0 ++ a1).size + (strOfNums y120).size ≤ 9223372036854775807 then (some ((a0 ++ a1) ++ (strOfNums y120))) else (none))) else (none)) else (if a0.size + a1.size ≤ 9223372036854775807 then ((some (([0, (a2) % 256, (a3 / 256) % 256, (a3) % 256] : List Int) : List Int)).bind fun y123 => (if (a0 ++ a1).size + (strOfNums y123).size ≤ 9223372036854775807 then (some ((a0 ++ a1) ++ (strOfNums y123))) else (none))) else (none))) = some r := h
 clear h
 by_cases c5 : (a0.size : Int) = 16
 ·rw [if_pos c5] at H
  have c5b0 : ((a0.size : Int) == 16) = true := beq_iff_eq.mpr c5
  have c5b1 : ((a0.size : Int) != 16) = false := bne_eq_false_iff_eq.mpr c5
  clear c5
  by_cases c6 : a0.size + a1.size ≤ 9223372036854775807
  ·rw [if_pos c6] at H
   have c6b0 := eq_true c6
   have c6b1 : decide (a0.size + a1.size ≤ 9223372036854775807) = true := decide_eq_true c6
   try have c6b2 : (9223372036854775807 < a0.size + a1.size) = False := eq_false (Nat.not_lt.2 c6)
   obtain ⟨y120, hy120⟩ : ∃ y_ : List Int, y_ = (([(a3 / 16777216) % 256, (a3 / 65536) % 256, (a3 / 256) % 256, (a3) % 256, 0, 0, 0, (a2) % 256] : List Int)) := ⟨_, rfl⟩
   replace H : (if (a0 ++ a1).size + (strOfNums y120).size ≤ 9223372036854775807 then (some ((a0 ++ a1) ++ (strOfNums y120))) else (none)) = some r := by first | (rw [hy120]; with_reducible exact H) | (have H2_ := (Option.bind_some _ _).symm.trans H; rw [hy120]; with_reducible exact H2_) | (have H2_ := (Option.bind_some _ _).symm.trans H; with_reducible exact H2_) | with_reducible exact H | (rw [hy120]; exact H) | exact H
   have Ny120 := mA hy120
   clear hy120
   by_cases c7 : (a0 ++ a1).size + (strOfNums y120).size ≤ 9223372036854775807
   ·rw [if_pos c7] at H
    have c7b0 := eq_true c7
    have c7b1 : decide ((a0 ++ a1).size + (strOfNums y120).size ≤ 9223372036854775807) = true := decide_eq_true c7
    try have c7b2 : (9223372036854775807 < (a0 ++ a1).size + (strOfNums y120).size) = False := eq_false (Nat.not_lt.2 c7)
    try have c7b3 : (9223372036854775807 < (a0.size) + (a1.size) + (strOfNums y120).size) = False := eq_false (by have h_ := c7; simp only [ByteArray.size_append] at h_; omega)
    try have c7b4 : ((a0.size) + (a1.size) + (strOfNums y120).size ≤ 9223372036854775807) = True := eq_true (by have h_ := c7; simp only [ByteArray.size_append] at h_; omega)
    obtain rfl := Option.some.inj H
    go_enter Try.func28, Try.ntmps28
    go_wp2_with (first | ((with_reducible refine gate_dst (N := 28) rfl ?_); refine Kd.R_lit (Kd.int .u8) _ 5 ?hg (N := 28) ?hd (xs := ([(a3 / 16777216) % 256, (a3 / 65536) % 256, (a3 / 256) % 256, (a3) % 256, 0, 0, 0, (a2) % 256] : List Int)) (inner := [.int .u8 ((a3 / 16777216) % 256), .int .u8 ((a3 / 65536) % 256), .int .u8 ((a3 / 256) % 256), .int .u8 ((a3) % 256), .int .u8 0, .int .u8 0, .int .u8 0, .int .u8 ((a2) % 256)]) (ok := fun _ => True) (okp := fun _ => True) ?hr ?hp (fun _ hk => hk) trivial (Below.refl _ _) (Nat.le_refl _) (by simp) ?_; (case hd => rfl); (case hg => rfl); (case hr => first | (go_simp; done) | (go_simp; rfl)); (case hp => exact (Reps.one (show Kd.M (Kd.int .u8) _ _ _ ((a3 / 16777216) % 256) [.int .u8 ((a3 / 16777216) % 256)] from rfl) (Reps.one (show Kd.M (Kd.int .u8) _ _ _ ((a3 / 65536) % 256) [.int .u8 ((a3 / 65536) % 256)] from rfl) (Reps.one (show Kd.M (Kd.int .u8) _ _ _ ((a3 / 256) % 256) [.int .u8 ((a3 / 256) % 256)] from rfl) (Reps.one (show Kd.M (Kd.int .u8) _ _ _ ((a3) % 256) [.int .u8 ((a3) % 256)] from rfl) (Reps.one (show Kd.M (Kd.int .u8) _ _ _ 0 [.int .u8 0] from rfl) (Reps.one (show Kd.M (Kd.int .u8) _ _ _ 0 [.int .u8 0] from rfl) (Reps.one (show Kd.M (Kd.int .u8) _ _ _ 0 [.int .u8 0] from rfl) (Reps.one (show Kd.M (Kd.int .u8) _ _ _ ((a2) % 256) [.int .u8 ((a2) % 256)] from rfl) (Reps.none _ _)))))))))); intro v121 w8 ho9 hb hg_ hnew_; clear hg_ hnew_; (first | rw [← Ny120.out] at ho9 | (simp only [Int.reduceToNat] at ho9; rw [← Ny120.out] at ho9)); have n0_ := mA (Kd.R_lower ho9 (below_size (by repeat (first | (with_reducible first | exact HB.out | apply bA | apply bN | apply bD) | exact HB.out)))); have n1_ := mA (bP (by repeat (first | (with_reducible first | exact HB.out | apply bA | apply bN | apply bD) | exact HB.out)) hb); clear HB; have HO122 := n0_; have HB := n1_; clear n0_ n1_; clear hb ho9; have hcv10 := own_string (P := Try.prog) Try.underlying31 Try.underlying5 Try.underlying9 (Kd.own_of_R HO122.out)))
    go_ret
    exact ⟨by first | rfl | (simp [errW_none, errW_some] <;> rfl) | (simp [*, errW_none, errW_some] <;> rfl), by repeat (first | (with_reducible first | exact HB.out | apply bA | apply bN | apply bD) | exact HB.out)⟩
   ·rw [if_neg c7] at H
    exact absurd H (by simp)
  ·rw [if_neg c6] at H
   exact absurd H (by simp)
 ·rw [if_neg c5] at H
  have c5b0 : ((a0.size : Int) == 16) = false := beq_eq_false_iff_ne.mpr c5
  have c5b1 : ((a0.size : Int) != 16) = true := bne_iff_ne.mpr c5
  by_cases c11 : a0.size + a1.size ≤ 9223372036854775807
  ·rw [if_pos c11] at H
   have c11b0 := eq_true c11
   have c11b1 : decide (a0.size + a1.size ≤ 9223372036854775807) = true := decide_eq_true c11
   try have c11b2 : (9223372036854775807 < a0.size + a1.size) = False := eq_false (Nat.not_lt.2 c11)
   obtain ⟨y123, hy123⟩ : ∃ y_ : List Int, y_ = (([0, (a2) % 256, (a3 / 256) % 256, (a3) % 256] : List Int)) := ⟨_, rfl⟩
   replace H : (if (a0 ++ a1).size + (strOfNums y123).size ≤ 9223372036854775807 then (some ((a0 ++ a1) ++ (strOfNums y123))) else (none)) = some r := by first | (rw [hy123]; with_reducible exact H) | (have H2_ := (Option.bind_some _ _).symm.trans H; rw [hy123]; with_reducible exact H2_) | (have H2_ := (Option.bind_some _ _).symm.trans H; with_reducible exact H2_) | with_reducible exact H | (rw [hy123]; exact H) | exact H
   have Ny123 := mA hy123
   clear hy123
   by_cases c12 : (a0 ++ a1).size + (strOfNums y123).size ≤ 9223372036854775807
   ·rw [if_pos c12] at H
    have c12b0 := eq_true c12
    have c12b1 : decide ((a0 ++ a1).size + (strOfNums y123).size ≤ 9223372036854775807) = true := decide_eq_true c12
    try have c12b2 : (9223372036854775807 < (a0 ++ a1).size + (strOfNums y123).size) = False := eq_false (Nat.not_lt.2 c12)
    try have c12b3 : (9223372036854775807 < (a0.size) + (a1.size) + (strOfNums y123).size) = False := eq_false (by have h_ := c12; simp only [ByteArray.size_append] at h_; omega)
    try have c12b4 : ((a0.size) + (a1.size) + (strOfNums y123).size ≤ 9223372036854775807) = True := eq_true (by have h_ := c12; simp only [ByteArray.size_append] at h_; omega)
    obtain rfl := Option.some.inj H
    go_enter Try.func28, Try.ntmps28
    go_wp2_with (first | ((with_reducible refine gate_dst (N := 41) rfl ?_); refine Kd.R_lit (Kd.int .u8) _ 5 ?hg (N := 41) ?hd (xs := ([0, (a2) % 256, (a3 / 256) % 256, (a3) % 256] : List Int)) (inner := [.int .u8 0, .int .u8 ((a2) % 256), .int .u8 ((a3 / 256) % 256), .int .u8 ((a3) % 256)]) (ok := fun _ => True) (okp := fun _ => True) ?hr ?hp (fun _ hk => hk) trivial (Below.refl _ _) (Nat.le_refl _) (by simp) ?_; (case hd => rfl); (case hg => rfl); (case hr => first | (go_simp; done) | (go_simp; rfl)); (case hp => exact (Reps.one (show Kd.M (Kd.int .u8) _ _ _ 0 [.int .u8 0] from rfl) (Reps.one (show Kd.M (Kd.int .u8) _ _ _ ((a2) % 256) [.int .u8 ((a2) % 256)] from rfl) (Reps.one (show Kd.M (Kd.int .u8) _ _ _ ((a3 / 256) % 256) [.int .u8 ((a3 / 256) % 256)] from rfl) (Reps.one (show Kd.M (Kd.int .u8) _ _ _ ((a3) % 256) [.int .u8 ((a3) % 256)] from rfl) (Reps.none _ _)))))); intro v124 w13 ho14 hb hg_ hnew_; clear hg_ hnew_; (first | rw [← Ny123.out] at ho14 | (simp only [Int.reduceToNat] at ho14; rw [← Ny123.out] at ho14)); have n0_ := mA (Kd.R_lower ho14 (below_size (by repeat (first | (with_reducible first | exact HB.out | apply bA | apply bN | apply bD) | exact HB.out)))); have n1_ := mA (bP (by repeat (first | (with_reducible first | exact HB.out | apply bA | apply bN | apply bD) | exact HB.out)) hb); clear HB; have HO125 := n0_; have HB := n1_; clear n0_ n1_; clear hb ho14; have hcv15 := own_string (P := Try.prog) Try.underlying31 Try.underlying5 Try.underlying9 (Kd.own_of_R HO125.out)))
    go_ret
    exact ⟨by first | rfl | (simp [errW_none, errW_some] <;> rfl) | (simp [*, errW_none, errW_some] <;> rfl), by repeat (first | (with_reducible first | exact HB.out | apply bA | apply bN | apply bD) | exact HB.out)⟩
   ·rw [if_neg c12] at H
    exact absurd H (by simp)
  ·rw [if_neg c11] at H
   exact absurd H (by simp)

end Go.Proofs.Ytcmalglippmocaa.G
end

section
/- What ip4.Get computes, as a function. -/
namespace Go.Proofs.Ytcmalglippmocaa.Pure
theorem and_low (i : Nat) (hi : i ≤ 62) (x : Nat) (hx : x < 9223372036854775808) : Go.bits .and .i64 (x : Int) (((2 ^ i - 1 : Nat)) : Int) = ((x % 2 ^ i : Nat) : Int) := by
  have hp : 2 ^ i ≤ 2 ^ 62 := Nat.pow_le_pow_right (by decide) hi
  have h1 : 1 ≤ 2 ^ i := Nat.one_le_two_pow
  rw [Pal.i64_and x (2 ^ i - 1) hx (by omega), Nat.and_two_pow_sub_one_eq_mod]
theorem and15 (x : Nat) (hx : x < 65536) : Go.bits .and .i64 (x : Int) 15 = ((x % 16 : Nat) : Int) := and_low 4 (by decide) x (by omega)
theorem and1 (x : Nat) (hx : x < 65536) : Go.bits .and .i64 (x : Int) 1 = ((x % 2 : Nat) : Int) := and_low 1 (by decide) x (by omega)
theorem and8191 (x : Nat) (hx : x < 65536) : Go.bits .and .i64 (x : Int) 8191 = ((x % 8192 : Nat) : Int) := and_low 13 (by decide) x (by omega)
end Go.Proofs.Ytcmalglippmocaa.Pure
namespace Go.Proofs.Ytcmalglippmocaa.G
open Go.Proofs.Ytcmalglippmocaa.Pal
/-- How long a packet's header says it is. -/
def hl4 (s : ByteArray) : Nat := 4 * (be (bl (s.extract 0 1)) % 16)
/-- With which error ip4.Get stops. -/
def ip4Err (s : ByteArray) : Int :=
  if s.size < 20 then 2 else if be (bl (s.extract 0 1)) / 16 = 4 then (if 20 ≤ hl4 s ∧ hl4 s ≤ s.size ∧ be (bl (s.extract 2 4)) = s.size then (if csum (bl (s.extract 0 (hl4 s))) = 0 then (if be (bl (s.extract 6 8)) / 32768 = 0 then 0 else 9) else 5) else 4) else 3
end Go.Proofs.Ytcmalglippmocaa.G
end

section
/- By hand: ip4.Get: its closure, walked once, with a branch at each Need; then wire.Read round it, and Get. Laid by wip/gen/ip4get.py of this session. -/
namespace Go.Proofs.Ytcmalglippmocaa.G
open Go.RowKit Go.Proofs.YtcmalglippmocaaW.PrintWords Go.Proofs.YtcmalglippmocaaW.PrintLast Go.Proofs.YtcmalglippmocaaW.PrintMore Go.Proofs.Ytcmalglippmocaa.Pal
set_option linter.unusedVariables false
set_option linter.unusedSimpArgs false
/-- A region's walk that ends in a panic: told as a walk with nothing left. -/
theorem panicOut4 {P : Program} {fn : Func} {R : Ending → World → Prop} {ch : List PanicEntry} {a : Act} {w : World} (h : wpAny P .any #[] (fun _ a w => bodyPost P fn R (.panic ch) a w) 0 #[] a w) : bodyPost P fn R (.panic ch) a w := h.2

theorem Take4.went (R : Nat) (s : ByteArray) (n m : Nat) (w : World) (h : Rd w R s n) (hm : n + m ≤ s.size) :
    Calls Try.prog 70 #[.pointer (some ⟨R, 0, none⟩), .int .i64 (m : Int)] w fun e w' => e = .returned (.string (s.extract n (n + m))) ∧ Went w w' R s (n + m) := by
  refine (Reader_Take.yes R s n m w h hm).mono ?_
  rintro e w' ⟨rfl, k, j, rfl⟩
  exact ⟨rfl, grown_drewN (World.grownBy.trans (grown_drewN (grown_refl w _) k) (grown_setCell _ _ _ _)) j, (((h.1.drewN k).set 1 (.int .i64 ((n + m : Nat) : Int))).drewN j), hm, h.2.2⟩
/-- What ip4.Get's closure works on: the text, the named result, the header, the payload, Read's result; then the reader. -/
def VG4 (k : Nat) (s : ByteArray) (w w1 : World) (n : Nat) (cs : Array Value) (x : ByteArray) : Prop :=
  Rd w1 (k + 5) s n ∧ Hp w1 [(k, 9, #[.string s]), (k + 1, 50, #[.int .i64 0, .int .i64 0, .int .i64 0, .int .i64 0, .int .i64 0, .bool false, .bool false, .string ⟨#[]⟩, .string ⟨#[]⟩, .string ⟨#[]⟩]), (k + 2, 50, cs), (k + 3, 9, #[.string x]), (k + 4, 25, #[.int .i64 0])] ∧ Below k w w1
theorem VG4.went {k : Nat} {s : ByteArray} {w w1 w2 : World} {n m : Nat} {cs : Array Value} {x : ByteArray} (h : VG4 k s w w1 n cs x) (hw : Went w1 w2 (k + 5) s m) : VG4 k s w w2 m cs x :=
  ⟨hw.2, h.2.1.grown hw.1 (by simp), h.2.2.trans (below_of_grown hw.1 (by have := h.1.1.lt; omega) (by omega))⟩
theorem VG4.put {k : Nat} {s : ByteArray} {w w1 : World} {n : Nat} {cs : Array Value} {x : ByteArray} (h : VG4 k s w w1 n cs x) (j : Nat) (v : Value) : VG4 k s w (w1.setCell ⟨k + 2, j, none⟩ v) n (cs.setIfInBounds j v) x :=
  ⟨⟨h.1.1.other _ (by simp) _, h.1.2⟩, h.2.1.set (l1 := [_, _]) (l2 := [_, _]) j v (by simp) (by simp), h.2.2.setCell (by simp) _⟩
theorem VG4.putSum {k : Nat} {s : ByteArray} {w w1 : World} {n : Nat} {cs : Array Value} {x : ByteArray} (h : VG4 k s w w1 n cs x) (y : ByteArray) : VG4 k s w (w1.setCell ⟨k + 3, 0, none⟩ (.string y)) n cs y :=
  ⟨⟨h.1.1.other _ (by simp) _, h.1.2⟩, h.2.1.set (l1 := [_, _, _]) (l2 := [_]) 0 (.string y) (by simp) (by simp), h.2.2.setCell (by simp) _⟩
theorem VG4.drew {k : Nat} {s : ByteArray} {w w1 : World} {n : Nat} {cs : Array Value} {x : ByteArray} (h : VG4 k s w w1 n cs x) : VG4 k s w w1.drew n cs x := ⟨h.1, h.2.1, h.2.2.drew⟩
theorem VG4.drewN {k : Nat} {s : ByteArray} {w w1 : World} {n : Nat} {cs : Array Value} {x : ByteArray} (h : VG4 k s w w1 n cs x) (j : Nat) : VG4 k s w (w1.drewN j) n cs x := ⟨h.1, h.2.1, pw_below_drewN h.2.2 j⟩
theorem VG4.facts {k : Nat} {s : ByteArray} {w w1 : World} {n : Nat} {cs : Array Value} {x : ByteArray} (h : VG4 k s w w1 n cs x) :
    w1.cell? ⟨k, 0, none⟩ = some (.string s) ∧ (∀ j, w1.frozen? ⟨k + 2, j, none⟩ = false) ∧ (∀ j, w1.cell? ⟨k + 2, j, none⟩ = cs[j]?) ∧ w1.cell? ⟨k + 3, 0, none⟩ = some (.string x) ∧ w1.frozen? ⟨k + 3, 0, none⟩ = false :=
  ⟨h.2.1.head.cell 0 _ rfl, h.2.1.tail.tail.head.frees, h.2.1.tail.tail.head.cells, h.2.1.tail.tail.tail.head.cell 0 _ rfl, h.2.1.tail.tail.tail.head.free 0⟩

def zero4 : Array Value := #[.int .i64 0, .int .i64 0, .int .i64 0, .int .i64 0, .int .i64 0, .bool false, .bool false, .string ⟨#[]⟩, .string ⟨#[]⟩, .string ⟨#[]⟩]

theorem VG4.step {k : Nat} {s : ByteArray} {w w1 w2 : World} {n : Nat} {cs : Array Value} {x : ByteArray} (h : VG4 k s w w1 n cs x) (hb : Below w1.heap.size w1 w2) : VG4 k s w w2 n cs x :=
  ⟨⟨h.1.1.below hb h.1.1.lt, h.1.2⟩, h.2.1.below hb (fun y hy => (h.2.1 y hy).lt), h.2.2.trans (hb.mono (by have := h.1.1.lt; omega))⟩
theorem right_one (t : ByteArray) (h : t.size ≤ 1099511627776) : sum_Right.f [t] = some (csum (bl t) == 0) := by
  have e : cat [t] = bl t := by rw [cat_cons, cat_nil, List.append_nil]
  unfold sum_Right.f sum_Sum.f
  rw [if_pos (by rw [e, bl_length]; exact h), e, Option.bind_some]
  congr 1
  rw [Bool.eq_iff_iff]; simp
theorem flagA (F : Nat) : (((F : Int) / 16384 % 2) == 1) = (F / 16384 % 2 == 1) := by rw [Bool.eq_iff_iff, beq_iff_eq, beq_iff_eq]; omega
theorem flagB (F : Nat) : (((F : Int) / 8192 % 2) == 1) = (F / 8192 % 2 == 1) := by rw [Bool.eq_iff_iff, beq_iff_eq, beq_iff_eq]; omega
theorem flagC (F : Nat) : ((F : Int) % 8192) = ((F % 8192 : Nat) : Int) := by omega
theorem less20 (N : Nat) (h : 20 ≤ N) (h2 : N ≤ 60) : ∃ M : Nat, 20 + M = N ∧ ((N : Int) - 20) = (M : Int) ∧ wrap64 ((N : Int) - 20) = (M : Int) ∧ IntKind.i64.wrap ((N : Int) - 20) = (M : Int) := by
  refine ⟨N - 20, by omega, by omega, ?_, ?_⟩
  · unfold wrap64; omega
  · rw [IntKind.wrap_i64]; omega
def final4 (s : ByteArray) : Array Value := #[(.int .i64 (be (bl (s.extract 1 2)) : Nat)), (.int .i64 (be (bl (s.extract 4 6)) : Nat)), (.int .i64 ((be (bl (s.extract 6 8)) % 8192 : Nat) : Int)), (.int .i64 (be (bl (s.extract 8 9)) : Nat)), (.int .i64 (be (bl (s.extract 9 10)) : Nat)), (.bool (be (bl (s.extract 6 8)) / 16384 % 2 == 1)), (.bool (be (bl (s.extract 6 8)) / 8192 % 2 == 1)), (.string (s.extract 12 16)), (.string (s.extract 16 20)), (.string (s.extract 20 (hl4 s)))]


set_option maxHeartbeats 8000000 in
set_option maxRecDepth 100000 in
theorem ip4_Get1.walk (k : Nat) (s : ByteArray) (w w1 : World) (h : VG4 k s w w1 0 zero4 ⟨#[]⟩) :
    Calls Try.prog 66 #[.pointer (some ⟨k + 5, 0, none⟩), .pointer (some ⟨k, 0, none⟩), .pointer (some ⟨k + 2, 0, none⟩), .pointer (some ⟨k + 3, 0, none⟩)] w1 fun e w2 => e = did (ip4Err s) ∧ ∃ n cs x, VG4 k s w w2 n cs x ∧ (ip4Err s = 0 → cs = final4 s ∧ x = s.extract (hl4 s) s.size) := by
  have HG := Aside0.mk h
  obtain ⟨c0, c1, c2, c3, c4⟩ := h.facts
  clear h c1 c2 c3 c4
  go_enter Try.func66, Try.ntmps66
  by_cases h20 : s.size < 20
  · have he : ip4Err s = 2 := if_pos h20
    have d1 : decide ((20 : Int) ≤ (s.size : Int)) = false := decide_eq_false (by omega)
    have d2 : decide (20 ≤ s.size) = false := decide_eq_false (by omega)
    clear h20
    go_wp2_with fail
    refine (Reader_Need.no _ _ _).mono ?_
    rintro e w2 ⟨rfl, rfl⟩
    exact ⟨rfl, by rw [he]; rfl, _, _, _, HG.out, fun h0 => absurd (he.symm.trans h0) (by decide)⟩
  have d1 : decide ((20 : Int) ≤ (s.size : Int)) = true := decide_eq_true (by omega)
  have d2 : decide (20 ≤ s.size) = true := decide_eq_true (by omega)
  go_wp2_with fail
  refine (Reader_Need.yes _ _ _).mono ?_
  rintro e w2 ⟨rfl, rfl⟩
  clear d1 d2
  go_wp2_with fail
  refine (Reader_U8.yes _ _ _ _ HG.out.1 (by omega)).mono ?_
  rintro e w2 ⟨rfl, g1⟩
  replace HG := Aside0.mk (HG.out.went g1)
  clear g1 c0
  have hB : be (bl (s.extract 0 1)) < 256 := be_lt_of _ 1 (by rw [bl_length, ByteArray.size_extract]; omega)
  have m1 : Go.bits .and .i64 ((be (bl (s.extract 0 1)) : Nat) : Int) 15 = ((be (bl (s.extract 0 1)) % 16 : Nat) : Int) := by exact Pure.and15 _ (by omega)
  have m2 : wrap64 (4 * ((be (bl (s.extract 0 1)) % 16 : Nat) : Int)) = ((hl4 s : Nat) : Int) := by unfold hl4 wrap64; omega
  have m3 : IntKind.i64.wrap (4 * ((be (bl (s.extract 0 1)) % 16 : Nat) : Int)) = ((hl4 s : Nat) : Int) := by rw [IntKind.wrap_i64]; unfold hl4; omega
  have HN := Aside0.mk (show hl4 s ≤ 60 by unfold hl4; omega)
  by_cases hv : be (bl (s.extract 0 1)) / 16 = 4
  case neg =>
    have he : ip4Err s = 3 := by unfold ip4Err; rw [if_neg h20, if_neg hv]
    have v1 : (((be (bl (s.extract 0 1)) : Nat) : Int) / 16 == 4) = false := by rw [beq_eq_false_iff_ne]; omega
    have v2 : ((be (bl (s.extract 0 1))) / 16 == 4) = false := by rw [beq_eq_false_iff_ne]; exact hv
    go_wp2_with fail
    refine (Reader_Need.no _ _ _).mono ?_
    rintro e w3 ⟨rfl, rfl⟩
    exact ⟨rfl, by rw [he]; rfl, _, _, _, HG.out, fun h0 => absurd (he.symm.trans h0) (by decide)⟩
  have v1 : (((be (bl (s.extract 0 1)) : Nat) : Int) / 16 == 4) = true := by rw [beq_iff_eq]; omega
  have v2 : ((be (bl (s.extract 0 1))) / 16 == 4) = true := by rw [beq_iff_eq]; exact hv
  have HV := Aside0.mk hv
  clear hv
  have e4 : (4 * (((be (bl (s.extract 0 1)) : Nat) : Int) % 16)) = ((hl4 s : Nat) : Int) := by unfold hl4; omega
  go_wp2_with fail
  clear e4
  refine (Reader_Need.yes _ _ _).mono ?_
  rintro e w3 ⟨rfl, rfl⟩
  clear v1 v2 m1 m2 m3 hB
  go_wp2_with fail
  refine (Reader_U8.yes _ _ _ _ HG.out.1 (by omega)).mono ?_
  rintro e w3 ⟨rfl, g1⟩
  replace HG := Aside0.mk (HG.out.went g1)
  clear g1
  obtain ⟨c0, c1, c2, c3, c4⟩ := HG.out.facts
  simp only [zero4] at c2
  clear c0 c3 c4
  have HX := Aside0.mk h20
  clear h20
  go_wp2
  clear c1 c2
  replace HG := Aside0.mk (HG.out.put 0 (.int .i64 (be (bl (s.extract 1 2)) : Nat)))
  simp only [zero4, List.setIfInBounds_toArray, List.set_cons_zero, List.set_cons_succ] at HG
  generalize w3.setCell ⟨k + 2, 0, none⟩ (.int .i64 (be (bl (s.extract 1 2)) : Nat)) = w4 at HG ⊢
  generalize hN : hl4 s = N at HN ⊢
  have HNN := Aside0.mk hN
  clear hN
  have c0 := HG.out.facts.1
  by_cases hl : 20 ≤ N
  case neg =>
    have l1 : decide ((20 : Int) ≤ (N : Int)) = false := decide_eq_false (by omega)
    have l2 : decide (20 ≤ N) = false := decide_eq_false hl
    have he : ip4Err s = 4 := by unfold ip4Err; rw [if_neg HX.out, if_pos HV.out, if_neg (by rw [HNN.out]; exact fun h => hl h.1)]
    go_still_tail 16, (by kernel_rfl)
    change wpList _ _ _ _ _ w4.drew
    go_wp2_with fail
    refine (Reader_Need.no _ _ _).mono ?_
    rintro e w6 ⟨rfl, rfl⟩
    exact ⟨rfl, by rw [he]; rfl, _, _, _, HG.out.drew, fun h0 => absurd (he.symm.trans h0) (by decide)⟩
  have l1 : decide ((20 : Int) ≤ (N : Int)) = true := decide_eq_true (by omega)
  have l2 : decide (20 ≤ N) = true := decide_eq_true hl
  by_cases hm : N ≤ s.size
  case neg =>
    have m1 : decide ((N : Int) ≤ (s.size : Int)) = false := decide_eq_false (by omega)
    have m2 : decide (N ≤ s.size) = false := decide_eq_false hm
    have he : ip4Err s = 4 := by unfold ip4Err; rw [if_neg HX.out, if_pos HV.out, if_neg (by rw [HNN.out]; exact fun h => hm h.2.1)]
    go_still_tail 16, (by kernel_rfl)
    change wpList _ _ _ _ _ w4.drew
    go_wp2_with fail
    refine (Reader_Need.no _ _ _).mono ?_
    rintro e w6 ⟨rfl, rfl⟩
    exact ⟨rfl, by rw [he]; rfl, _, _, _, HG.out.drew, fun h0 => absurd (he.symm.trans h0) (by decide)⟩
  have m1 : decide ((N : Int) ≤ (s.size : Int)) = true := decide_eq_true (by omega)
  have m2 : decide (N ≤ s.size) = true := decide_eq_true hm
  by_cases ht : be (bl (s.extract 2 4)) = s.size
  case neg =>
    have t1 : (((be (bl (s.extract 2 4)) : Nat) : Int) == (s.size : Int)) = false := by rw [beq_eq_false_iff_ne]; omega
    have t2 : (be (bl (s.extract 2 4)) == s.size) = false := by rw [beq_eq_false_iff_ne]; exact ht
    have he : ip4Err s = 4 := by unfold ip4Err; rw [if_neg HX.out, if_pos HV.out, if_neg (fun h => ht h.2.2)]
    clear hl hm ht
    go_region_with ((first
      | (go_at_call 69; refine (Reader_U16.yes _ _ 2 _ HG.out.drew.1 ?_).mono ?_; (have := HX.out; omega); rintro e w5 ⟨rfl, g1⟩; have HG3 := Aside0.mk (HG.out.drew.went g1); have c3 := HG3.out.facts.1; clear g1)
      | (go_at_call 67; refine (Reader_Need.no _ _ _).mono ?_; rintro e w6 ⟨rfl, rfl⟩; refine panicOut4 ?_)))
    all_goals exact ⟨rfl, by rw [he]; rfl, _, _, _, HG3.out, fun h0 => absurd (he.symm.trans h0) (by decide)⟩
  have t1 : (((be (bl (s.extract 2 4)) : Nat) : Int) == (s.size : Int)) = true := by rw [beq_iff_eq]; omega
  have t2 : (be (bl (s.extract 2 4)) == s.size) = true := by rw [beq_iff_eq]; exact ht
  have HM := Aside0.mk (show 20 ≤ N ∧ N ≤ s.size ∧ be (bl (s.extract 2 4)) = s.size from ⟨hl, hm, ht⟩)
  clear hl hm ht
  go_region_with ((first
    | (go_at_call 69; refine (Reader_U16.yes _ _ 2 _ HG.out.drew.1 ?_).mono ?_; (have := HX.out; omega); rintro e w5 ⟨rfl, g1⟩; have HG3 := Aside0.mk (HG.out.drew.went g1); have c3 := HG3.out.facts.1; clear g1)
    | (go_at_call 67; refine (Reader_Need.yes _ _ _).mono ?_; rintro e w6 ⟨rfl, rfl⟩)))
  all_goals
    clear c0 l1 l2 m1 m2 t1 t2
    replace HG := HG3
    clear HG3
    have s1 : ((N : Int) ≤ (s.size : Int)) = True := eq_true (by have := HM.out; omega)
    have s2 : (N ≤ s.size) = True := eq_true HM.out.2.1
    go_wp2_with fail
    refine (sum_Right.calls _ _ [s.extract 0 N] (csum (bl (s.extract 0 N)) == 0) _ (C_one _ _ _) (by simp) (right_one _ (by simp only [ByteArray.size_extract]; have := HN.out; omega))).mono ?_
    rintro e w7 ⟨rfl, g1⟩
    replace HG := Aside0.mk (HG.out.step (((Below.refl w6.heap.size w6).alloc (Nat.le_refl _) _).trans (g1.mono (by simp))))
    clear g1 s1 s2
    by_cases hz : csum (bl (s.extract 0 N)) = 0
    case neg =>
      have z1 : (csum (bl (s.extract 0 N)) == 0) = false := by rw [beq_eq_false_iff_ne]; exact hz
      have he : ip4Err s = 5 := by unfold ip4Err; rw [if_neg HX.out, if_pos HV.out, HNN.out, if_pos HM.out, if_neg hz]
      rw [z1]
      clear hz z1
      go_wp2_with fail
      refine (Reader_Need.no _ _ _).mono ?_
      rintro e w8 ⟨rfl, rfl⟩
      exact ⟨rfl, by rw [he]; rfl, _, _, _, HG.out, fun h0 => absurd (he.symm.trans h0) (by decide)⟩
    have z1 : (csum (bl (s.extract 0 N)) == 0) = true := by rw [beq_iff_eq]; exact hz
    rw [z1]
    have HZ := Aside0.mk hz
    clear hz z1
    go_wp2_with fail
    refine (Reader_Need.yes _ _ _).mono ?_
    rintro e w8 ⟨rfl, rfl⟩
    go_wp2_with fail
    refine (Reader_U16.yes _ _ _ _ HG.out.1 (by have := HM.out; have := HX.out; omega)).mono ?_
    rintro e w9 ⟨rfl, g1⟩
    replace HG := Aside0.mk (HG.out.went g1)
    clear g1
    obtain ⟨c0, c1, c2, c3, c4⟩ := HG.out.facts
    clear c0 c3 c4
    go_wp2_with fail
    clear c1 c2
    replace HG := Aside0.mk (HG.out.put 1 (.int .i64 (be (bl (s.extract 4 6)) : Nat)))
    simp only [List.setIfInBounds_toArray, List.set_cons_zero, List.set_cons_succ] at HG
    generalize (w9.setCell ⟨k + 2, 1, none⟩ (.int .i64 (be (bl (s.extract 4 6)) : Nat))) = wa at HG ⊢
    refine (Reader_U16.yes _ _ _ _ HG.out.1 (by have := HM.out; have := HX.out; omega)).mono ?_
    rintro e w10 ⟨rfl, g1⟩
    replace HG := Aside0.mk (HG.out.went g1)
    clear g1
    have hF : be (bl (s.extract 6 8)) < 65536 := be_lt_of _ 2 (by rw [bl_length, ByteArray.size_extract]; have := HX.out; omega)
    by_cases hf : be (bl (s.extract 6 8)) / 32768 = 0
    case neg =>
      have z1 : (((be (bl (s.extract 6 8)) : Nat) : Int) / 32768 == 0) = false := by rw [beq_eq_false_iff_ne]; omega
      have z2 : (be (bl (s.extract 6 8)) / 32768 == 0) = false := by rw [beq_eq_false_iff_ne]; exact hf
      have he : ip4Err s = 9 := by unfold ip4Err; rw [if_neg HX.out, if_pos HV.out, HNN.out, if_pos HM.out, if_pos HZ.out, if_neg hf]
      clear hf hF
      go_wp2_with fail
      refine (Reader_Need.no _ _ _).mono ?_
      rintro e w11 ⟨rfl, rfl⟩
      exact ⟨rfl, by rw [he]; rfl, _, _, _, HG.out, fun h0 => absurd (he.symm.trans h0) (by decide)⟩
    have z1 : (((be (bl (s.extract 6 8)) : Nat) : Int) / 32768 == 0) = true := by rw [beq_iff_eq]; omega
    have z2 : (be (bl (s.extract 6 8)) / 32768 == 0) = true := by rw [beq_iff_eq]; exact hf
    have he : ip4Err s = 0 := by unfold ip4Err; rw [if_neg HX.out, if_pos HV.out, HNN.out, if_pos HM.out, if_pos HZ.out, if_pos hf]
    have HE := Aside0.mk he
    clear hf he
    go_wp2_with fail
    refine (Reader_Need.yes _ _ _).mono ?_
    rintro e w11 ⟨rfl, rfl⟩
    clear z1 z2
    have a1 : Go.bits .and .i64 (((be (bl (s.extract 6 8)) : Nat) : Int) / 16384) 1 = ((be (bl (s.extract 6 8)) / 16384 % 2 : Nat) : Int) := by rw [show ((be (bl (s.extract 6 8)) : Nat) : Int) / 16384 = ((be (bl (s.extract 6 8)) / 16384 : Nat) : Int) by omega]; exact Pure.and1 _ (by omega)
    have a2 : Go.bits .and .i64 (((be (bl (s.extract 6 8)) : Nat) : Int) / 8192) 1 = ((be (bl (s.extract 6 8)) / 8192 % 2 : Nat) : Int) := by rw [show ((be (bl (s.extract 6 8)) : Nat) : Int) / 8192 = ((be (bl (s.extract 6 8)) / 8192 : Nat) : Int) by omega]; exact Pure.and1 _ (by omega)
    have a3 : Go.bits .and .i64 ((be (bl (s.extract 6 8)) : Nat) : Int) 8191 = ((be (bl (s.extract 6 8)) % 8192 : Nat) : Int) := Pure.and8191 _ hF
    obtain ⟨c0, c1, c2, c3, c4⟩ := HG.out.facts
    clear c0 c3 c4
    go_wp2_with fail
    rw [flagA, flagB, flagC]
    clear c1 c2 a1 a2 a3 hF
    replace HG := Aside0.mk (((HG.out.put 5 (.bool (be (bl (s.extract 6 8)) / 16384 % 2 == 1))).put 6 (.bool (be (bl (s.extract 6 8)) / 8192 % 2 == 1))).put 2 (.int .i64 ((be (bl (s.extract 6 8)) % 8192 : Nat) : Int)))
    simp only [List.setIfInBounds_toArray, List.set_cons_zero, List.set_cons_succ] at HG
    generalize (((w11.setCell ⟨k + 2, 5, none⟩ (.bool (be (bl (s.extract 6 8)) / 16384 % 2 == 1))).setCell ⟨k + 2, 6, none⟩ (.bool (be (bl (s.extract 6 8)) / 8192 % 2 == 1))).setCell ⟨k + 2, 2, none⟩ (.int .i64 ((be (bl (s.extract 6 8)) % 8192 : Nat) : Int))) = wa at HG ⊢
    refine (Reader_U8.yes _ _ _ _ HG.out.1 (by have := HM.out; have := HX.out; omega)).mono ?_
    rintro e w12 ⟨rfl, g1⟩
    replace HG := Aside0.mk (HG.out.went g1)
    clear g1
    go_wp2_with fail
    refine (Reader_U8.yes _ _ _ _ HG.out.1 (by have := HM.out; have := HX.out; omega)).mono ?_
    rintro e w13 ⟨rfl, g1⟩
    replace HG := Aside0.mk (HG.out.went g1)
    clear g1
    obtain ⟨c0, c1, c2, c3, c4⟩ := HG.out.facts
    clear c0 c3 c4
    go_wp2_with fail
    clear c1 c2
    replace HG := Aside0.mk ((HG.out.put 3 (.int .i64 (be (bl (s.extract 8 9)) : Nat))).put 4 (.int .i64 (be (bl (s.extract 9 10)) : Nat)))
    simp only [List.setIfInBounds_toArray, List.set_cons_zero, List.set_cons_succ] at HG
    generalize ((w13.setCell ⟨k + 2, 3, none⟩ (.int .i64 (be (bl (s.extract 8 9)) : Nat))).setCell ⟨k + 2, 4, none⟩ (.int .i64 (be (bl (s.extract 9 10)) : Nat))) = wa at HG ⊢
    refine (Reader_U16.yes _ _ _ _ HG.out.1 (by have := HM.out; have := HX.out; omega)).mono ?_
    rintro e w14 ⟨rfl, g1⟩
    replace HG := Aside0.mk (HG.out.went g1)
    clear g1
    go_wp2_with fail
    refine (Take4.went _ _ _ 4 _ HG.out.1 (by have := HM.out; have := HX.out; omega)).mono ?_
    rintro e w15 ⟨rfl, g1⟩
    replace HG := Aside0.mk (HG.out.went g1)
    clear g1
    go_wp2_with fail
    refine (Take4.went _ _ _ 4 _ HG.out.1 (by have := HM.out; have := HX.out; omega)).mono ?_
    rintro e w16 ⟨rfl, g1⟩
    replace HG := Aside0.mk (HG.out.went g1)
    clear g1
    obtain ⟨c0, c1, c2, c3, c4⟩ := HG.out.facts
    clear c0 c3 c4
    obtain ⟨M, hM, e1, e2, e3⟩ := less20 N HM.out.1 HN.out
    have HS := Aside0.mk hM
    have HS2 := Aside0.mk e2
    clear hM e1 e2 e3
    go_wp2_with fail
    rw [HS2.out]
    clear c1 c2
    replace HG := Aside0.mk ((HG.out.put 7 (.string (s.extract 12 16))).put 8 (.string (s.extract 16 20)))
    simp only [List.setIfInBounds_toArray, List.set_cons_zero, List.set_cons_succ] at HG
    generalize ((w16.setCell ⟨k + 2, 7, none⟩ (.string (s.extract 12 16))).setCell ⟨k + 2, 8, none⟩ (.string (s.extract 16 20))) = wa at HG ⊢
    refine (Take4.went _ _ _ M _ HG.out.1 (by have := HM.out; have := HS.out; omega)).mono ?_
    rintro e w17 ⟨rfl, g1⟩
    replace HG := Aside0.mk (HG.out.went g1)
    clear g1
    go_wp2_with fail
    refine (Reader_Rest.calls _ _ _ _ HG.out.1).mono ?_
    rintro e w18 ⟨rfl, g1⟩
    replace HG := Aside0.mk (HG.out.went g1)
    clear g1
    obtain ⟨c0, c1, c2, c3, c4⟩ := HG.out.facts
    clear c0
    go_wp2
    go_end0
    refine ⟨by rw [HE.out]; rfl, _, _, _, (HG.out.put 9 _).putSum _, fun _ => ⟨?_, ?_⟩⟩
    · have h20 : 20 + M = N := HS.out
      simp only [List.setIfInBounds_toArray, List.set_cons_zero, List.set_cons_succ, final4, HNN.out, h20]
    · have h20 : 20 + M = N := HS.out
      simp only [HNN.out, h20]

end Go.Proofs.Ytcmalglippmocaa.G
end

section
/- ip4.Get as a function of bytes. -/
namespace Go.Proofs.Ytcmalglippmocaa.G
open Go.Proofs.Ytcmalglippmocaa.Pal
def ip4_Get.f (s : ByteArray) : Option (Int × Int × Int × Int × Int × Bool × Bool × ByteArray × ByteArray × ByteArray × ByteArray × Int) :=
  if s.size ≤ 140737488351232 then some (if ip4Err s = 0 then (((be (bl (s.extract 1 2)) : Nat) : Int), ((be (bl (s.extract 4 6)) : Nat) : Int), ((be (bl (s.extract 6 8)) % 8192 : Nat) : Int), ((be (bl (s.extract 8 9)) : Nat) : Int), ((be (bl (s.extract 9 10)) : Nat) : Int), (be (bl (s.extract 6 8)) / 16384 % 2 == 1), (be (bl (s.extract 6 8)) / 8192 % 2 == 1), s.extract 12 16, s.extract 16 20, s.extract 20 (hl4 s), s.extract (hl4 s) s.size, 0) else (0, 0, 0, 0, 0, false, false, ⟨#[]⟩, ⟨#[]⟩, ⟨#[]⟩, ⟨#[]⟩, ip4Err s)) else none
end Go.Proofs.Ytcmalglippmocaa.G
end

section
/- By hand: wire.Read round ip4.Get's closure, and ip4.Get. Turned from XHIp6. -/
namespace Go.Proofs.Ytcmalglippmocaa.G
open Go.RowKit Go.Proofs.YtcmalglippmocaaW.PrintWords Go.Proofs.YtcmalglippmocaaW.PrintLast Go.Proofs.YtcmalglippmocaaW.PrintMore Go.Proofs.Ytcmalglippmocaa.Pal
set_option linter.unusedVariables false
set_option linter.unusedSimpArgs false
/-- What Get's closure leaves, and Read's end behind it. -/
def VR4 (k : Nat) (s : ByteArray) (w w1 : World) : Prop :=
  ∃ cs x, Hp w1 [(k, 9, #[.string s]), (k + 1, 50, #[.int .i64 0, .int .i64 0, .int .i64 0, .int .i64 0, .int .i64 0, .bool false, .bool false, .string ⟨#[]⟩, .string ⟨#[]⟩, .string ⟨#[]⟩]), (k + 2, 50, cs), (k + 3, 9, #[.string x])] ∧ Below k w w1 ∧
    (ip4Err s = 0 → cs = final4 s ∧ x = s.extract (hl4 s) s.size)
theorem VG4.done {k : Nat} {s : ByteArray} {w w1 w2 : World} {n : Nat} {cs : Array Value} {x : ByteArray} (h : VG4 k s w w1 n cs x) (hw : w1.grownBy w2 (some (k + 4)))
    (hx : ip4Err s = 0 → cs = final4 s ∧ x = s.extract (hl4 s) s.size) : VR4 k s w w2 :=
  ⟨cs, x, Hp.grown (R := k + 4) (fun y hy => h.2.1 y (by simp at hy ⊢; rcases hy with rfl | rfl | rfl | rfl <;> simp)) hw (by simp), h.2.2.trans (below_of_grown hw (by have := h.1.1.lt; omega) (by omega)), hx⟩

set_option maxRecDepth 100000 in
theorem ip4_Get.reads (s : ByteArray) (hs : s.size ≤ 140737488351232) (w : World) :
    Calls Try.prog 65 #[.string s, .func (.func 66) #[] #[.pointer (some ⟨w.heap.size, 0, none⟩), .pointer (some ⟨w.heap.size + 1 + 1, 0, none⟩), .pointer (some ⟨w.heap.size + 1 + 1 + 1, 0, none⟩)]]
      ((((w.alloc (.cells #[.string s] 9)).alloc (.cells #[.int .i64 0, .int .i64 0, .int .i64 0, .int .i64 0, .int .i64 0, .bool false, .bool false, .string ⟨#[]⟩, .string ⟨#[]⟩, .string ⟨#[]⟩] 50)).alloc (.cells #[.int .i64 0, .int .i64 0, .int .i64 0, .int .i64 0, .int .i64 0, .bool false, .bool false, .string ⟨#[]⟩, .string ⟨#[]⟩, .string ⟨#[]⟩] 50)).alloc (.cells #[.string ⟨#[]⟩] 9))
      fun e w' => e = .returned (.int .i64 (ip4Err s)) ∧ VR4 w.heap.size s w w' := by
  obtain ⟨W, hW⟩ : ∃ W, W = ((((w.alloc (.cells #[.string s] 9)).alloc (.cells #[.int .i64 0, .int .i64 0, .int .i64 0, .int .i64 0, .int .i64 0, .bool false, .bool false, .string ⟨#[]⟩, .string ⟨#[]⟩, .string ⟨#[]⟩] 50)).alloc (.cells #[.int .i64 0, .int .i64 0, .int .i64 0, .int .i64 0, .int .i64 0, .bool false, .bool false, .string ⟨#[]⟩, .string ⟨#[]⟩, .string ⟨#[]⟩] 50)).alloc (.cells #[.string ⟨#[]⟩] 9)) := ⟨_, rfl⟩
  have hk : W.heap.size = w.heap.size + 4 := by rw [hW]; simp
  have b0 : Blk W w.heap.size 9 #[.string s] := by rw [hW]; exact (((Blk.new w _ _).alloc _).alloc _).alloc _
  have b1 : Blk W (w.heap.size + 1) 50 #[.int .i64 0, .int .i64 0, .int .i64 0, .int .i64 0, .int .i64 0, .bool false, .bool false, .string ⟨#[]⟩, .string ⟨#[]⟩, .string ⟨#[]⟩] := by
    rw [hW]
    have := Blk.new (w.alloc (.cells #[.string s] 9)) 50 #[.int .i64 0, .int .i64 0, .int .i64 0, .int .i64 0, .int .i64 0, .bool false, .bool false, .string ⟨#[]⟩, .string ⟨#[]⟩, .string ⟨#[]⟩]
    rw [World.size_alloc] at this
    exact (this.alloc _).alloc _
  have b2 : Blk W (w.heap.size + 2) 50 #[.int .i64 0, .int .i64 0, .int .i64 0, .int .i64 0, .int .i64 0, .bool false, .bool false, .string ⟨#[]⟩, .string ⟨#[]⟩, .string ⟨#[]⟩] := by
    rw [hW]
    have := Blk.new ((w.alloc (.cells #[.string s] 9)).alloc (.cells #[.int .i64 0, .int .i64 0, .int .i64 0, .int .i64 0, .int .i64 0, .bool false, .bool false, .string ⟨#[]⟩, .string ⟨#[]⟩, .string ⟨#[]⟩] 50)) 50 #[.int .i64 0, .int .i64 0, .int .i64 0, .int .i64 0, .int .i64 0, .bool false, .bool false, .string ⟨#[]⟩, .string ⟨#[]⟩, .string ⟨#[]⟩]
    rw [World.size_alloc, World.size_alloc] at this
    exact this.alloc _
  have b3 : Blk W (w.heap.size + 3) 9 #[.string ⟨#[]⟩] := by
    rw [hW]
    have := Blk.new (((w.alloc (.cells #[.string s] 9)).alloc (.cells #[.int .i64 0, .int .i64 0, .int .i64 0, .int .i64 0, .int .i64 0, .bool false, .bool false, .string ⟨#[]⟩, .string ⟨#[]⟩, .string ⟨#[]⟩] 50)).alloc (.cells #[.int .i64 0, .int .i64 0, .int .i64 0, .int .i64 0, .int .i64 0, .bool false, .bool false, .string ⟨#[]⟩, .string ⟨#[]⟩, .string ⟨#[]⟩] 50)) 9 #[.string ⟨#[]⟩]
    rw [World.size_alloc, World.size_alloc, World.size_alloc] at this
    exact this
  have hb : Below w.heap.size w W := by
    rw [hW]
    exact ((((Below.refl _ _).alloc (Nat.le_refl _) _).alloc (by simp) _).alloc (by simp; omega) _).alloc (by simp; omega) _
  rw [← hW]
  clear hW
  have hrd := readW_rd W s hs
  have hres := readW_res W s
  have hbl := readW_below W s
  rw [hk] at hrd hres hbl
  have hG : VG4 w.heap.size s w (readW W s) 0 zero4 ⟨#[]⟩ :=
    ⟨hrd, .cons (b0.below hbl (by omega)) (.cons (b1.below hbl (by omega)) (.cons (b2.below hbl (by omega)) (.cons (b3.below hbl (by omega)) (.cons hres (.nil _))))), hb.trans (hbl.mono (by omega))⟩
  have hrd' : ∀ Q : World → Prop, Calls Try.prog 66 (#[.pointer (some ⟨W.heap.size + 1, 0, none⟩)] ++ #[.pointer (some ⟨w.heap.size, 0, none⟩), .pointer (some ⟨w.heap.size + 1 + 1, 0, none⟩), .pointer (some ⟨w.heap.size + 1 + 1 + 1, 0, none⟩)]) (readW W s) (fun e w2 => e = did (ip4Err s) ∧ Blk w2 W.heap.size 25 #[.int .i64 0] ∧ Q w2) →
      Calls Try.prog 65 #[.string s, .func (.func 66) #[] #[.pointer (some ⟨w.heap.size, 0, none⟩), .pointer (some ⟨w.heap.size + 1 + 1, 0, none⟩), .pointer (some ⟨w.heap.size + 1 + 1 + 1, 0, none⟩)]] W
        fun e w' => e = .returned (.int .i64 (ip4Err s)) ∧ ∃ w2, Q w2 ∧ w2.grownBy w' (some W.heap.size) :=
    fun Q h => Read_calls 66 _ s (ip4Err s) W Q (fun _ _ => rfl) h
  rw [hk] at hrd'
  clear hrd hres hbl b0 b1 b2 b3 hb
  refine (hrd' (fun w2 => ∃ n cs x, VG4 w.heap.size s w w2 n cs x ∧ (ip4Err s = 0 → cs = final4 s ∧ x = s.extract (hl4 s) s.size)) ?_).mono ?_
  · refine (ip4_Get1.walk w.heap.size s w (readW W s) hG).mono ?_
    rintro e w2 ⟨rfl, n, cs, x, hu, hx⟩
    exact ⟨rfl, hu.2.1.tail.tail.tail.tail.head, n, cs, x, hu, hx⟩
  · rintro e w' ⟨rfl, w2, ⟨n, cs, x, hu, hx⟩, hg⟩
    exact ⟨rfl, hu.done hg hx⟩

set_option maxHeartbeats 1000000 in
set_option maxRecDepth 100000 in
theorem ip4_Get.calls (s : ByteArray) (r1 r2 r3 r4 r5 : Int) (r6 r7 : Bool) (r8 r9 r10 r11 : ByteArray) (r12 : Int) (w : World) (h : ip4_Get.f s = some (r1, r2, r3, r4, r5, r6, r7, r8, r9, r10, r11, r12)) :
    Calls Try.prog 47 #[.string s] w fun e w' => e = .returned (.tuple #[.agg #[.int .i64 r1, .int .i64 r2, .int .i64 r3, .int .i64 r4, .int .i64 r5, .bool r6, .bool r7, .string r8, .string r9, .string r10], .string r11, .int .i64 r12]) ∧ Below w.heap.size w w' := by
  unfold ip4_Get.f at h
  by_cases hs : s.size ≤ 140737488351232
  case neg => rw [if_neg hs] at h; exact absurd h (by simp)
  rw [if_pos hs] at h
  have hmf : ∀ (fn : Fn) (first cap : Array Value) (w : World), (Instr.makeFunc fn first cap).run Try.prog w = .ok (.func fn first cap) w := fun _ _ _ _ => rfl
  have hu := Try.underlying50
  have HS := Aside0.mk hs
  clear hs
  by_cases h0 : ip4Err s = 0
  · rw [if_pos h0] at h
    replace h := Option.some.inj h
    simp only [Prod.mk.injEq] at h
    obtain ⟨rfl, rfl, rfl, rfl, rfl, rfl, rfl, rfl, rfl, rfl, rfl, rfl⟩ := h
    have d1 : (ip4Err s != 0) = false := bne_eq_false_iff_eq.mpr h0
    have h := Aside0.mk h0
    clear h0
    go_enter Try.func47, Try.ntmps47
    go_wp2_with fail
    refine (ip4_Get.reads s HS.out w).mono ?_
    rintro e w2 ⟨rfl, cs, x, hp, hb, hx⟩
    obtain ⟨rfl, rfl⟩ := hx h.out
    have HB := Aside0.mk hb
    have c1 := hp.tail.head.cells
    have c2 := hp.tail.head.frees
    have c3 := hp.tail.tail.head.cells
    simp only [final4] at c3
    have c4 := hp.tail.tail.tail.head.cell 0 _ rfl
    have HK := Aside0.mk hp.tail.head
    clear hp hb hx
    go_wp2_with fail
    go_region
    all_goals
      have c5 := ((((((((((HK.out.set 0 (.int .i64 (be (bl (s.extract 1 2)) : Nat))).set 1 (.int .i64 (be (bl (s.extract 4 6)) : Nat))).set 2 (.int .i64 (((be (bl (s.extract 6 8)) : Nat) : Int) % 8192))).set 3 (.int .i64 (be (bl (s.extract 8 9)) : Nat))).set 4 (.int .i64 (be (bl (s.extract 9 10)) : Nat))).set 5 (.bool (be (bl (s.extract 6 8)) / 16384 % 2 == 1))).set 6 (.bool (be (bl (s.extract 6 8)) / 8192 % 2 == 1))).set 7 (.string (s.extract 12 16))).set 8 (.string (s.extract 16 20))).set 9 (.string (s.extract 20 (hl4 s)))).drew.cells
      simp only [List.setIfInBounds_toArray, List.set_cons_zero, List.set_cons_succ] at c5
      clear c1 c2 c3 c4
      go_wp2
      refine ⟨rfl, _, ?_, rfl, ?_⟩
      rotate_left
      · exact ((((((((((HB.out.setCell (by simp) _).setCell (by simp) _).setCell (by simp) _).setCell (by simp) _).setCell (by simp) _).setCell (by simp) _).setCell (by simp) _).setCell (by simp) _).setCell (by simp) _).setCell (by simp) _).drew
      simp [results, Try.results47, go_sem, hu, c5]
  · rw [if_neg h0] at h
    replace h := Option.some.inj h
    simp only [Prod.mk.injEq] at h
    obtain ⟨rfl, rfl, rfl, rfl, rfl, rfl, rfl, rfl, rfl, rfl, rfl, rfl⟩ := h
    have d1 : (ip4Err s != 0) = true := bne_iff_ne.mpr h0
    clear h0
    go_enter Try.func47, Try.ntmps47
    go_wp2_with fail
    refine (ip4_Get.reads s HS.out w).mono ?_
    rintro e w2 ⟨rfl, cs, x, hp, hb, hx⟩
    have HB := Aside0.mk hb
    have c1 := hp.tail.head.cells
    have c2 := hp.tail.head.frees
    have HK := Aside0.mk hp.tail.head
    clear hp hb hx
    go_wp2
    have c5 := ((((((((((HK.out.set 0 (.int .i64 0)).set 1 (.int .i64 0)).set 2 (.int .i64 0)).set 3 (.int .i64 0)).set 4 (.int .i64 0)).set 5 (.bool false)).set 6 (.bool false)).set 7 (.string ⟨#[]⟩)).set 8 (.string ⟨#[]⟩)).set 9 (.string ⟨#[]⟩)).cells
    simp only [List.setIfInBounds_toArray, List.set_cons_zero, List.set_cons_succ] at c5
    clear c1 c2
    refine ⟨rfl, _, ?_, rfl, ?_⟩
    rotate_left
    · exact ((((((((((HB.out.setCell (by simp) _).setCell (by simp) _).setCell (by simp) _).setCell (by simp) _).setCell (by simp) _).setCell (by simp) _).setCell (by simp) _).setCell (by simp) _).setCell (by simp) _).setCell (by simp) _)
    simp [results, Try.results47, go_sem, hu, c5]
end Go.Proofs.Ytcmalglippmocaa.G
end

section
/- By hand: wire's Writer (a strings.Builder in a struct): each method's contract over a writer's block. The walks of strings.Builder's methods are turned from the kit's shelf (Derived/Shelf/Strings), at a block of the Writer's type. -/
namespace Go.Proofs.Ytcmalglippmocaa.G
open Go.RowKit Go.Proofs.YtcmalglippmocaaW.PrintWords Go.Proofs.YtcmalglippmocaaW.PrintLast Go.Proofs.YtcmalglippmocaaW.PrintMore Go.Proofs.Ytcmalglippmocaa.Pal
set_option linter.unusedVariables false
set_option linter.unusedSimpArgs false

/-- Block b is a writer: its address word p, its buffer v, which holds the bytes l. -/
def WP (b : Nat) (p v : Value) (l : List UInt8) (w : World) : Prop :=
  w.heap[b]? = some (.cells #[p, v] 117 (0, 0)) ∧ w.ownsRowF b 5 1 v l.length (Lib.byteCells l) ∧ v.ownBlock ≠ some b ∧ (l = [] → v = .slice none 0 0)
def self (b : Nat) : Value := .pointer (some ⟨b, 0, none⟩)
/-- Block b is a writer that has written the bytes l. -/
def WAt (b : Nat) (l : List UInt8) (w : World) : Prop := ∃ v, WP b (.pointer none) v l w ∨ WP b (self b) v l w

theorem WP.lt {b : Nat} {p v : Value} {l : List UInt8} {w : World} (h : WP b p v l w) : b < w.heap.size := lt_of_block h.1
theorem WP.put {b : Nat} {p v v' : Value} {l : List UInt8} {w : World} (hb : w.heap[b]? = some (.cells #[p, v] 117 (0, 0))) (hown : w.ownsRowF b 5 1 v' l.length (Lib.byteCells l)) (hn : l = [] → v' = .slice none 0 0) :
    WP b p v' l (w.setCell ⟨b, 1, none⟩ v') := by
  have hne := Lib.ownBlock_neF hown hb (by decide)
  refine ⟨?_, ?_, hne, hn⟩
  · simp [World.setCell, Array.getElem?_modify, hb]
  · exact hown.kept (row := some b) ⟨rfl, rfl, rfl, by simp [World.setCell], fun k _ hk => Below.heap_setCell _ _ _ _ (fun e => hk (by simp [e]))⟩ (Or.inr hne)

/-- A writer that has just been made. -/
theorem WAt.new (w : World) : WAt w.heap.size [] (w.alloc (.cells #[.pointer none, .slice none 0 0] 117)) :=
  ⟨.slice none 0 0, .inl ⟨heap_alloc_new w _, ⟨by simp [Lib.byteCells], .inl ⟨rfl, rfl⟩⟩, by simp [Value.ownBlock], fun _ => rfl⟩⟩
theorem WAt.drew {b : Nat} {l : List UInt8} {w : World} (h : WAt b l w) : WAt b l w.drew := h
theorem WAt.drewN {b : Nat} {l : List UInt8} {w : World} (h : WAt b l w) (n : Nat) : WAt b l (w.drewN n) := h
/-- While a function writes: its struct parameter in block a, its writer in block b; below B all is as it was. -/
def WS (B a b : Nat) (w w1 : World) (T : TypeId) (cs : Array Value) (l : List UInt8) : Prop := (WAt b l w1 ∧ Blk w1 a T cs ∧ Below B w w1) ∧ a < b ∧ B ≤ b
theorem WS.next {B a b : Nat} {w w1 w2 : World} {T : TypeId} {cs : Array Value} {l l' : List UInt8} (h : WS B a b w w1 T cs l) (h1 : WAt b l' w2) (h2 : Below b w1 w2) : WS B a b w w2 T cs l' :=
  ⟨⟨h1, h.1.2.1.below h2 h.2.1, h.1.2.2.trans (h2.mono h.2.2)⟩, h.2⟩
theorem WS.startAt {B a : Nat} {w w1 : World} {T : TypeId} {cs : Array Value} (h : Blk w1 a T cs) (hB : Below B w w1) (hs : B ≤ w1.heap.size) : WS B a w1.heap.size w (w1.alloc (.cells #[.pointer none, .slice none 0 0] 117)) T cs [] :=
  ⟨⟨WAt.new w1, h.alloc _, hB.alloc hs _⟩, h.lt, hs⟩
theorem WS.start (w : World) (T : TypeId) (cs : Array Value) : WS w.heap.size w.heap.size (w.heap.size + 1) w ((w.alloc (.cells cs T)).alloc (.cells #[.pointer none, .slice none 0 0] 117)) T cs [] := by
  have h := WS.startAt (Blk.new w T cs) ((Below.refl _ _).alloc (Nat.le_refl _) _) (by simp)
  rwa [World.size_alloc] at h
end Go.Proofs.Ytcmalglippmocaa.G
end

section
/- By hand: udp.Check, udp.Put, udp.Get. -/
namespace Go.Proofs.Ytcmalglippmocaa.G
open Go.RowKit Go.Proofs.YtcmalglippmocaaW.PrintWords Go.Proofs.YtcmalglippmocaaW.PrintLast Go.Proofs.YtcmalglippmocaaW.PrintMore Go.Proofs.Ytcmalglippmocaa.Pal
set_option linter.unusedVariables false
set_option linter.unusedSimpArgs false

def in16 (x : Int) : Prop := 0 ≤ x ∧ x ≤ 65535
instance (x : Int) : Decidable (in16 x) := by unfold in16; infer_instance
def empty : ByteArray := ⟨#[]⟩
/-- What udp.Get's closure works on: the text, the named result, the datagram, the sum, Read's result; then the reader. -/
def UG (k : Nat) (s : ByteArray) (w w1 : World) (n : Nat) (cs : Array Value) (x : Int) : Prop :=
  Rd w1 (k + 5) s n ∧ Hp w1 [(k, 9, #[.string s]), (k + 1, 73, #[.int .i64 0, .int .i64 0, .string ⟨#[]⟩]), (k + 2, 73, cs), (k + 3, 3, #[.int .i64 x]), (k + 4, 25, #[.int .i64 0])] ∧ Below k w w1
theorem UG.went {k : Nat} {s : ByteArray} {w w1 w2 : World} {n m : Nat} {cs : Array Value} {x : Int} (h : UG k s w w1 n cs x) (hw : Went w1 w2 (k + 5) s m) : UG k s w w2 m cs x :=
  ⟨hw.2, h.2.1.grown hw.1 (by simp), h.2.2.trans (below_of_grown hw.1 (by have := h.1.1.lt; omega) (by omega))⟩
theorem UG.put {k : Nat} {s : ByteArray} {w w1 : World} {n : Nat} {cs : Array Value} {x : Int} (h : UG k s w w1 n cs x) (j : Nat) (v : Value) : UG k s w (w1.setCell ⟨k + 2, j, none⟩ v) n (cs.setIfInBounds j v) x :=
  ⟨⟨h.1.1.other _ (by simp) _, h.1.2⟩, h.2.1.set (l1 := [_, _]) (l2 := [_, _]) j v (by simp) (by simp), h.2.2.setCell (by simp) _⟩
theorem UG.drew {k : Nat} {s : ByteArray} {w w1 : World} {n : Nat} {cs : Array Value} {x : Int} (h : UG k s w w1 n cs x) : UG k s w w1.drew n cs x := ⟨h.1, h.2.1, h.2.2.drew⟩
theorem UG.facts {k : Nat} {s : ByteArray} {w w1 : World} {n : Nat} {cs : Array Value} {x : Int} (h : UG k s w w1 n cs x) :
    w1.cell? ⟨k, 0, none⟩ = some (.string s) ∧ (∀ j, w1.frozen? ⟨k + 2, j, none⟩ = false) ∧ (∀ j, w1.cell? ⟨k + 2, j, none⟩ = cs[j]?) :=
  ⟨h.2.1.head.cell 0 _ rfl, h.2.1.tail.tail.head.frees, h.2.1.tail.tail.head.cells⟩

/-- A region's walk that ends in a panic: told as a walk with nothing left. -/
theorem panicOut {P : Program} {fn : Func} {R : Ending → World → Prop} {ch : List PanicEntry} {a : Act} {w : World} (h : wpAny P .any #[] (fun _ a w => bodyPost P fn R (.panic ch) a w) 0 #[] a w) : bodyPost P fn R (.panic ch) a w := h.2
def udpErr (s : ByteArray) : Int := if s.size < 8 then 2 else if be (bl (s.extract 4 6)) = s.size then 0 else 4

set_option maxHeartbeats 1000000 in
set_option maxRecDepth 100000 in
theorem udp_Get1.len (k : Nat) (s : ByteArray) (w w1 : World) (h : UG k s w w1 0 #[.int .i64 0, .int .i64 0, .string ⟨#[]⟩] 0) (h8 : 8 ≤ s.size) (hne : ¬ be (bl (s.extract 4 6)) = s.size) :
    Calls Try.prog 77 #[.pointer (some ⟨k + 5, 0, none⟩), .pointer (some ⟨k, 0, none⟩), .pointer (some ⟨k + 2, 0, none⟩), .pointer (some ⟨k + 3, 0, none⟩)] w1 fun e w2 => e = stopped 4 ∧ ∃ n cs x, UG k s w w2 n cs x := by
  have HG := Aside0.mk h
  obtain ⟨c0, c1, c2⟩ := h.facts
  have d1 : decide ((8 : Int) ≤ (s.size : Int)) = true := decide_eq_true (by omega)
  clear h
  go_enter Try.func77, Try.ntmps77
  go_wp2_with fail
  refine (Reader_Need.yes _ _ _).mono ?_
  rintro e w2 ⟨rfl, rfl⟩
  go_wp2_with fail
  refine (Reader_U16.yes _ _ _ _ HG.out.1 (by omega)).mono ?_
  rintro e w2 ⟨rfl, g1⟩
  replace HG := Aside0.mk (HG.out.went g1)
  clear g1 c0 c1 c2
  go_wp2_with fail
  refine (Reader_U16.yes _ _ _ _ HG.out.1 (by omega)).mono ?_
  rintro e w2 ⟨rfl, g1⟩
  replace HG := Aside0.mk (HG.out.went g1)
  clear g1
  obtain ⟨c0, c1, c2⟩ := HG.out.facts
  go_wp2_with fail
  replace HG := Aside0.mk ((HG.out.put 0 (.int .i64 (be (bl (s.extract 0 2)) : Nat))).put 1 (.int .i64 (be (bl (s.extract 2 4)) : Nat)))
  clear c0 c1 c2
  generalize (w2.setCell ⟨k + 2, 0, none⟩ (.int .i64 (be (bl (s.extract 0 2)) : Nat))).setCell ⟨k + 2, 1, none⟩ (.int .i64 (be (bl (s.extract 2 4)) : Nat)) = wa at HG ⊢
  obtain ⟨c0, c1, c2⟩ := HG.out.facts
  clear c1 c2
  have d2 : (((be (bl (s.extract 4 6)) : Nat) : Int) == (s.size : Int)) = false := by rw [beq_eq_false_iff_ne]; omega
  have d3 : ((be (bl (s.extract 4 6))) == s.size) = false := by rw [beq_eq_false_iff_ne]; exact hne
  clear hne
  go_region_with ((first
      | (go_at_call 69; refine (Reader_U16.yes _ _ 4 _ HG.out.drew.1 ?_).mono ?_; omega; rintro e w3 ⟨rfl, g1⟩; have HG3 := Aside0.mk (HG.out.drew.went g1); have c3 := HG3.out.facts.1; clear g1)
      | (go_at_call 67; refine (Reader_Need.no _ _ _).mono ?_; rintro e w4 ⟨rfl, rfl⟩; refine panicOut ?_)))
  all_goals exact ⟨rfl, rfl, _, _, _, HG3.out⟩

theorem UG.putSum {k : Nat} {s : ByteArray} {w w1 : World} {n : Nat} {cs : Array Value} {x : Int} (h : UG k s w w1 n cs x) (y : Int) : UG k s w (w1.setCell ⟨k + 3, 0, none⟩ (.int .i64 y)) n cs y :=
  ⟨⟨h.1.1.other _ (by simp) _, h.1.2⟩, h.2.1.set (l1 := [_, _, _]) (l2 := [_]) 0 (.int .i64 y) (by simp) (by simp), h.2.2.setCell (by simp) _⟩
theorem UG.sumFree {k : Nat} {s : ByteArray} {w w1 : World} {n : Nat} {cs : Array Value} {x : Int} (h : UG k s w w1 n cs x) :
    w1.cell? ⟨k + 3, 0, none⟩ = some (.int .i64 x) ∧ w1.frozen? ⟨k + 3, 0, none⟩ = false :=
  ⟨h.2.1.tail.tail.tail.head.cell 0 _ rfl, h.2.1.tail.tail.tail.head.free 0⟩

set_option maxHeartbeats 1000000 in
set_option maxRecDepth 100000 in
theorem udp_Get1.short (k : Nat) (s : ByteArray) (w w1 : World) (h : UG k s w w1 0 #[.int .i64 0, .int .i64 0, .string ⟨#[]⟩] 0) (h8 : s.size < 8) :
    Calls Try.prog 77 #[.pointer (some ⟨k + 5, 0, none⟩), .pointer (some ⟨k, 0, none⟩), .pointer (some ⟨k + 2, 0, none⟩), .pointer (some ⟨k + 3, 0, none⟩)] w1 fun e w2 => e = stopped 2 ∧ ∃ n cs x, UG k s w w2 n cs x := by
  have HG := Aside0.mk h
  obtain ⟨c0, c1, c2⟩ := h.facts
  have d1 : decide ((8 : Int) ≤ (s.size : Int)) = false := decide_eq_false (by omega)
  clear h
  go_enter Try.func77, Try.ntmps77
  go_wp2_with fail
  refine (Reader_Need.no _ _ _).mono ?_
  rintro e w2 ⟨rfl, rfl⟩
  exact ⟨rfl, rfl, _, _, _, HG.out⟩

set_option maxHeartbeats 1000000 in
set_option maxRecDepth 100000 in
theorem udp_Get1.ok (k : Nat) (s : ByteArray) (w w1 : World) (h : UG k s w w1 0 #[.int .i64 0, .int .i64 0, .string ⟨#[]⟩] 0) (h8 : 8 ≤ s.size) (heq : be (bl (s.extract 4 6)) = s.size) :
    Calls Try.prog 77 #[.pointer (some ⟨k + 5, 0, none⟩), .pointer (some ⟨k, 0, none⟩), .pointer (some ⟨k + 2, 0, none⟩), .pointer (some ⟨k + 3, 0, none⟩)] w1 fun e w2 => e = .returned (.tuple #[]) ∧
      UG k s w w2 s.size #[.int .i64 (be (bl (s.extract 0 2)) : Nat), .int .i64 (be (bl (s.extract 2 4)) : Nat), .string (s.extract 8 s.size)] (be (bl (s.extract 6 8)) : Nat) := by
  have HG := Aside0.mk h
  obtain ⟨c0, c1, c2⟩ := h.facts
  have d1 : decide ((8 : Int) ≤ (s.size : Int)) = true := decide_eq_true (by omega)
  clear h
  go_enter Try.func77, Try.ntmps77
  go_wp2_with fail
  refine (Reader_Need.yes _ _ _).mono ?_
  rintro e w2 ⟨rfl, rfl⟩
  go_wp2_with fail
  refine (Reader_U16.yes _ _ _ _ HG.out.1 (by omega)).mono ?_
  rintro e w2 ⟨rfl, g1⟩
  replace HG := Aside0.mk (HG.out.went g1)
  clear g1 c0 c1 c2
  go_wp2_with fail
  refine (Reader_U16.yes _ _ _ _ HG.out.1 (by omega)).mono ?_
  rintro e w2 ⟨rfl, g1⟩
  replace HG := Aside0.mk (HG.out.went g1)
  clear g1
  obtain ⟨c0, c1, c2⟩ := HG.out.facts
  go_wp2_with fail
  replace HG := Aside0.mk ((HG.out.put 0 (.int .i64 (be (bl (s.extract 0 2)) : Nat))).put 1 (.int .i64 (be (bl (s.extract 2 4)) : Nat)))
  clear c0 c1 c2
  generalize (w2.setCell ⟨k + 2, 0, none⟩ (.int .i64 (be (bl (s.extract 0 2)) : Nat))).setCell ⟨k + 2, 1, none⟩ (.int .i64 (be (bl (s.extract 2 4)) : Nat)) = wa at HG ⊢
  obtain ⟨c0, c1, c2⟩ := HG.out.facts
  clear c1 c2
  have d2 : (((be (bl (s.extract 4 6)) : Nat) : Int) == (s.size : Int)) = true := by rw [heq]; exact beq_self_eq_true _
  have d3 : ((be (bl (s.extract 4 6))) == s.size) = true := by rw [heq]; exact beq_self_eq_true _
  clear heq
  go_region_with ((first
      | (go_at_call 69; refine (Reader_U16.yes _ _ 4 _ HG.out.drew.1 ?_).mono ?_; omega; rintro e w3 ⟨rfl, g1⟩; have HG3 := Aside0.mk (HG.out.drew.went g1); have c3 := HG3.out.facts.1; clear g1)
      | (go_at_call 67; refine (Reader_Need.yes _ _ _).mono ?_; rintro e w4 ⟨rfl, rfl⟩)))
  all_goals
    clear c3 c0
    go_wp2_with fail
    refine (Reader_U16.yes _ _ _ _ HG3.out.1 (by omega)).mono ?_
    rintro e w5 ⟨rfl, g1⟩
    replace HG := Aside0.mk (HG3.out.went g1)
    clear g1 HG3
    go_wp2_with fail
    refine (Reader_Rest.calls _ _ _ _ HG.out.1).mono ?_
    rintro e w6 ⟨rfl, g1⟩
    replace HG := Aside0.mk (HG.out.went g1)
    clear g1
    obtain ⟨c0, c1, c2⟩ := HG.out.facts
    obtain ⟨c3, c4⟩ := HG.out.sumFree
    go_wp2
    go_end0
    exact ⟨rfl, (HG.out.putSum _).put 2 _⟩

def udp_Get.f (s : ByteArray) : Option (Int × Int × ByteArray × Int × Int) :=
  if s.size ≤ 140737488351232 then some (if udpErr s = 0 then ((be (bl (s.extract 0 2)) : Nat), (be (bl (s.extract 2 4)) : Nat), s.extract 8 s.size, (be (bl (s.extract 6 8)) : Nat), 0) else (0, 0, empty, 0, udpErr s)) else none

/-- What Get's closure leaves, and Read's end behind it. -/
def UR (k : Nat) (s : ByteArray) (w w1 : World) : Prop :=
  ∃ cs x, Hp w1 [(k, 9, #[.string s]), (k + 1, 73, #[.int .i64 0, .int .i64 0, .string ⟨#[]⟩]), (k + 2, 73, cs), (k + 3, 3, #[.int .i64 x])] ∧ Below k w w1 ∧
    (udpErr s = 0 → cs = #[.int .i64 (be (bl (s.extract 0 2)) : Nat), .int .i64 (be (bl (s.extract 2 4)) : Nat), .string (s.extract 8 s.size)] ∧ x = (be (bl (s.extract 6 8)) : Nat))
theorem UG.done {k : Nat} {s : ByteArray} {w w1 w2 : World} {n : Nat} {cs : Array Value} {x : Int} (h : UG k s w w1 n cs x) (hw : w1.grownBy w2 (some (k + 4)))
    (hx : udpErr s = 0 → cs = #[.int .i64 (be (bl (s.extract 0 2)) : Nat), .int .i64 (be (bl (s.extract 2 4)) : Nat), .string (s.extract 8 s.size)] ∧ x = (be (bl (s.extract 6 8)) : Nat)) : UR k s w w2 :=
  ⟨cs, x, Hp.grown (R := k + 4) (fun y hy => h.2.1 y (by simp at hy ⊢; rcases hy with rfl | rfl | rfl | rfl <;> simp)) hw (by simp), h.2.2.trans (below_of_grown hw (by have := h.1.1.lt; omega) (by omega)), hx⟩

set_option maxRecDepth 100000 in
theorem udp_Get.reads (s : ByteArray) (hs : s.size ≤ 140737488351232) (w : World) :
    Calls Try.prog 65 #[.string s, .func (.func 77) #[] #[.pointer (some ⟨w.heap.size, 0, none⟩), .pointer (some ⟨w.heap.size + 1 + 1, 0, none⟩), .pointer (some ⟨w.heap.size + 1 + 1 + 1, 0, none⟩)]]
      ((((w.alloc (.cells #[.string s] 9)).alloc (.cells #[.int .i64 0, .int .i64 0, .string ⟨#[]⟩] 73)).alloc (.cells #[.int .i64 0, .int .i64 0, .string ⟨#[]⟩] 73)).alloc (.cells #[.int .i64 0] 3))
      fun e w' => e = .returned (.int .i64 (udpErr s)) ∧ UR w.heap.size s w w' := by
  obtain ⟨W, hW⟩ : ∃ W, W = ((((w.alloc (.cells #[.string s] 9)).alloc (.cells #[.int .i64 0, .int .i64 0, .string ⟨#[]⟩] 73)).alloc (.cells #[.int .i64 0, .int .i64 0, .string ⟨#[]⟩] 73)).alloc (.cells #[.int .i64 0] 3)) := ⟨_, rfl⟩
  have hk : W.heap.size = w.heap.size + 4 := by rw [hW]; simp
  have b0 : Blk W w.heap.size 9 #[.string s] := by rw [hW]; exact (((Blk.new w _ _).alloc _).alloc _).alloc _
  have b1 : Blk W (w.heap.size + 1) 73 #[.int .i64 0, .int .i64 0, .string ⟨#[]⟩] := by
    rw [hW]
    have := Blk.new (w.alloc (.cells #[.string s] 9)) 73 #[.int .i64 0, .int .i64 0, .string ⟨#[]⟩]
    rw [World.size_alloc] at this
    exact (this.alloc _).alloc _
  have b2 : Blk W (w.heap.size + 2) 73 #[.int .i64 0, .int .i64 0, .string ⟨#[]⟩] := by
    rw [hW]
    have := Blk.new ((w.alloc (.cells #[.string s] 9)).alloc (.cells #[.int .i64 0, .int .i64 0, .string ⟨#[]⟩] 73)) 73 #[.int .i64 0, .int .i64 0, .string ⟨#[]⟩]
    rw [World.size_alloc, World.size_alloc] at this
    exact this.alloc _
  have b3 : Blk W (w.heap.size + 3) 3 #[.int .i64 0] := by
    rw [hW]
    have := Blk.new (((w.alloc (.cells #[.string s] 9)).alloc (.cells #[.int .i64 0, .int .i64 0, .string ⟨#[]⟩] 73)).alloc (.cells #[.int .i64 0, .int .i64 0, .string ⟨#[]⟩] 73)) 3 #[.int .i64 0]
    rw [World.size_alloc, World.size_alloc, World.size_alloc] at this
    exact this
  have hb : Below w.heap.size w W := by
    rw [hW]
    exact ((((Below.refl _ _).alloc (Nat.le_refl _) _).alloc (by simp) _).alloc (by simp; omega) _).alloc (by simp; omega) _
  rw [← hW]
  clear hW
  have hrd := readW_rd W s hs
  have hres := readW_res W s
  have hbl := readW_below W s
  rw [hk] at hrd hres hbl
  have hG : UG w.heap.size s w (readW W s) 0 #[.int .i64 0, .int .i64 0, .string ⟨#[]⟩] 0 :=
    ⟨hrd, .cons (b0.below hbl (by omega)) (.cons (b1.below hbl (by omega)) (.cons (b2.below hbl (by omega)) (.cons (b3.below hbl (by omega)) (.cons hres (.nil _))))), hb.trans (hbl.mono (by omega))⟩
  have hrd' : ∀ Q : World → Prop, Calls Try.prog 77 (#[.pointer (some ⟨W.heap.size + 1, 0, none⟩)] ++ #[.pointer (some ⟨w.heap.size, 0, none⟩), .pointer (some ⟨w.heap.size + 1 + 1, 0, none⟩), .pointer (some ⟨w.heap.size + 1 + 1 + 1, 0, none⟩)]) (readW W s) (fun e w2 => e = did (udpErr s) ∧ Blk w2 W.heap.size 25 #[.int .i64 0] ∧ Q w2) →
      Calls Try.prog 65 #[.string s, .func (.func 77) #[] #[.pointer (some ⟨w.heap.size, 0, none⟩), .pointer (some ⟨w.heap.size + 1 + 1, 0, none⟩), .pointer (some ⟨w.heap.size + 1 + 1 + 1, 0, none⟩)]] W
        fun e w' => e = .returned (.int .i64 (udpErr s)) ∧ ∃ w2, Q w2 ∧ w2.grownBy w' (some W.heap.size) :=
    fun Q h => Read_calls 77 _ s (udpErr s) W Q (fun _ _ => rfl) h
  rw [hk] at hrd'
  clear hrd hres hbl b0 b1 b2 b3 hb
  by_cases h8 : s.size < 8
  · have he : udpErr s = 2 := if_pos h8
    rw [he] at hrd' ⊢
    refine (hrd' (fun w2 => ∃ n cs x, UG w.heap.size s w w2 n cs x) ?_).mono ?_
    · refine (udp_Get1.short w.heap.size s w (readW W s) hG h8).mono ?_
      rintro e w2 ⟨rfl, n, cs, x, hu⟩
      exact ⟨rfl, hu.2.1.tail.tail.tail.tail.head, n, cs, x, hu⟩
    · rintro e w' ⟨rfl, w2, ⟨n, cs, x, hu⟩, hg⟩
      exact ⟨rfl, hu.done hg (fun h0 => absurd (he.symm.trans h0) (by decide))⟩
  · by_cases heq : be (bl (s.extract 4 6)) = s.size
    · have he : udpErr s = 0 := by unfold udpErr; rw [if_neg h8, if_pos heq]
      rw [he] at hrd' ⊢
      refine (hrd' (fun w2 => UG w.heap.size s w w2 s.size #[.int .i64 (be (bl (s.extract 0 2)) : Nat), .int .i64 (be (bl (s.extract 2 4)) : Nat), .string (s.extract 8 s.size)] (be (bl (s.extract 6 8)) : Nat)) ?_).mono ?_
      · refine (udp_Get1.ok w.heap.size s w (readW W s) hG (by omega) heq).mono ?_
        rintro e w2 ⟨rfl, hu⟩
        exact ⟨rfl, hu.2.1.tail.tail.tail.tail.head, hu⟩
      · rintro e w' ⟨rfl, w2, hu, hg⟩
        exact ⟨rfl, hu.done hg (fun _ => ⟨rfl, rfl⟩)⟩
    · have he : udpErr s = 4 := by unfold udpErr; rw [if_neg h8, if_neg heq]
      rw [he] at hrd' ⊢
      refine (hrd' (fun w2 => ∃ n cs x, UG w.heap.size s w w2 n cs x) ?_).mono ?_
      · refine (udp_Get1.len w.heap.size s w (readW W s) hG (by omega) heq).mono ?_
        rintro e w2 ⟨rfl, n, cs, x, hu⟩
        exact ⟨rfl, hu.2.1.tail.tail.tail.tail.head, n, cs, x, hu⟩
      · rintro e w' ⟨rfl, w2, ⟨n, cs, x, hu⟩, hg⟩
        exact ⟨rfl, hu.done hg (fun h0 => absurd (he.symm.trans h0) (by decide))⟩

set_option maxHeartbeats 1000000 in
set_option maxRecDepth 100000 in
theorem udp_Get.calls (s : ByteArray) (r1 r2 : Int) (r3 : ByteArray) (r4 r5 : Int) (w : World) (h : udp_Get.f s = some (r1, r2, r3, r4, r5)) :
    Calls Try.prog 50 #[.string s] w fun e w' => e = .returned (.tuple #[.agg #[.int .i64 r1, .int .i64 r2, .string r3], .int .i64 r4, .int .i64 r5]) ∧ Below w.heap.size w w' := by
  unfold udp_Get.f at h
  by_cases hs : s.size ≤ 140737488351232
  case neg => rw [if_neg hs] at h; exact absurd h (by simp)
  rw [if_pos hs] at h
  have hmf : ∀ (fn : Fn) (first cap : Array Value) (w : World), (Instr.makeFunc fn first cap).run Try.prog w = .ok (.func fn first cap) w := fun _ _ _ _ => rfl
  have hu := Try.underlying73
  have HS := Aside0.mk hs
  clear hs
  by_cases h0 : udpErr s = 0
  · rw [if_pos h0] at h
    obtain ⟨rfl, rfl, rfl, rfl, rfl⟩ : (be (bl (s.extract 0 2)) : Nat) = r1 ∧ (be (bl (s.extract 2 4)) : Nat) = r2 ∧ s.extract 8 s.size = r3 ∧ (be (bl (s.extract 6 8)) : Nat) = r4 ∧ 0 = r5 := by
      have h := Option.some.inj h; simp only [Prod.mk.injEq] at h; exact h
    have d1 : (udpErr s != 0) = false := bne_eq_false_iff_eq.mpr h0
    replace h := Aside0.mk h0
    clear h0
    go_enter Try.func50, Try.ntmps50
    go_wp2_with fail
    refine (udp_Get.reads s HS.out w).mono ?_
    rintro e w2 ⟨rfl, cs, x, hp, hb, hx⟩
    obtain ⟨rfl, rfl⟩ := hx h.out
    have HB := Aside0.mk hb
    have c1 := hp.tail.head.cells
    have c2 := hp.tail.head.frees
    have c3 := hp.tail.tail.head.cells
    have c4 := hp.tail.tail.tail.head.cell 0 _ rfl
    have HK := Aside0.mk hp.tail.head
    clear hp hb hx
    go_wp2_with fail
    go_region
    all_goals
      have c5 := (((HK.out.set 0 (.int .i64 (be (bl (s.extract 0 2)) : Nat))).set 1 (.int .i64 (be (bl (s.extract 2 4)) : Nat))).set 2 (.string (s.extract 8 s.size))).drew.cells
      simp only [List.setIfInBounds_toArray, List.set_cons_zero, List.set_cons_succ] at c5
      clear c1 c2 c3 c4
      go_wp2
      refine ⟨rfl, _, ?_, rfl, ?_⟩
      rotate_left
      · exact (((HB.out.setCell (by simp) _).setCell (by simp) _).setCell (by simp) _).drew
      simp [results, Try.results50, go_sem, hu, c5]
  · rw [if_neg h0] at h
    obtain ⟨rfl, rfl, rfl, rfl, rfl⟩ : 0 = r1 ∧ 0 = r2 ∧ empty = r3 ∧ 0 = r4 ∧ udpErr s = r5 := by
      have h := Option.some.inj h; simp only [Prod.mk.injEq] at h; exact h
    have d1 : (udpErr s != 0) = true := bne_iff_ne.mpr h0
    clear h h0
    go_enter Try.func50, Try.ntmps50
    go_wp2_with fail
    refine (udp_Get.reads s HS.out w).mono ?_
    rintro e w2 ⟨rfl, cs, x, hp, hb, hx⟩
    have HB := Aside0.mk hb
    have c1 := hp.tail.head.cells
    have c2 := hp.tail.head.frees
    have HK := Aside0.mk hp.tail.head
    clear hp hb hx
    go_wp2
    have c5 := (((HK.out.set 0 (.int .i64 0)).set 1 (.int .i64 0)).set 2 (.string ⟨#[]⟩)).cells
    simp only [List.setIfInBounds_toArray, List.set_cons_zero, List.set_cons_succ] at c5
    clear c1 c2
    refine ⟨rfl, _, ?_, rfl, ?_⟩
    rotate_left
    · exact ((HB.out.setCell (by simp) _).setCell (by simp) _).setCell (by simp) _
    simp [results, Try.results50, go_sem, hu, c5]
    rfl
end Go.Proofs.Ytcmalglippmocaa.G
end
