/- Texts of this session, joined: each is a section. -/
import Derived.Test.YtcmalglippmocaaMClampUpdates7
import Derived.Test.YtcmalglippmocaaMClampUpdates2
import Derived.Lib.ConvBytes
import Derived.WalkLawsBesides
import Derived.Recover
import Derived.Defers
import Derived.WideLaws
import Derived.Lib.Hide
import Derived.Deep.RegionWith
import Derived.Laws.OwnMore
import Derived.StillTailTactics
set_option linter.unusedVariables false
set_option linter.unusedSimpArgs false
section
namespace Go.Proofs.Ytcmalglippmocaa.G
open Go.RowKit Go.Proofs.YtcmalglippmocaaW.PrintWords Go.Proofs.YtcmalglippmocaaW.PrintLast Go.Proofs.YtcmalglippmocaaW.PrintMore Go.Proofs.Ytcmalglippmocaa.Pal

def Rd (w : World) (R : Nat) (s : ByteArray) (n : Nat) : Prop := Blk w R 135 #[.string s, .int .i64 (n : Int)] ∧ n ≤ s.size ∧ s.size ≤ 140737488351232
def stopV (e : Int) : Value := .iface 133 (.agg #[.int .i64 e])
def stopped (e : Int) : Ending := .panicked [{ v := stopV e, recovered := false }]
theorem Rd.facts {w : World} {R : Nat} {s : ByteArray} {n : Nat} (h : Rd w R s n) :
    w.cell? ⟨R, 0, none⟩ = some (.string s) ∧ w.cell? ⟨R, 1, none⟩ = some (.int .i64 (n : Int)) ∧ w.frozen? ⟨R, 1, none⟩ = false :=
  ⟨h.1.cell 0 _ rfl, h.1.cell 1 _ rfl, h.1.free 1⟩
theorem Rd.step {w : World} {R : Nat} {s : ByteArray} {n : Nat} (h : Rd w R s n) (m : Nat) (hm : m ≤ s.size) : Rd (w.setCell ⟨R, 1, none⟩ (.int .i64 (m : Int))) R s m := ⟨h.1.set 1 _, hm, h.2.2⟩
theorem Rd.below {w w' : World} {R : Nat} {s : ByteArray} {n : Nat} (h : Rd w R s n) (hb : Below w.heap.size w w') : Rd w' R s n := ⟨h.1.below hb h.1.lt, h.2⟩

set_option maxHeartbeats 400000 in
theorem Reader_Left.calls (R : Nat) (s : ByteArray) (n : Nat) (w : World) (h : Rd w R s n) :
    Calls Try.prog 73 #[.pointer (some ⟨R, 0, none⟩)] w fun e w' => e = .returned (.int .i64 ((s.size : Int) - n)) ∧ ∃ k, w' = w.drewN k := by
  obtain ⟨c0, c1, c2⟩ := h.facts
  have hn := h.2.1
  have hs := h.2.2
  clear h
  go_enter Try.func73, Try.ntmps73
  go_wp2
  go_quiet (fail)
  go_wp2
  go_ret
  exact ⟨rfl, _, rfl⟩

set_option maxHeartbeats 400000 in
theorem Reader_Need.yes (R : Nat) (e : Int) (w : World) :
    Calls Try.prog 67 #[.pointer (some ⟨R, 0, none⟩), .bool true, .int .i64 e] w fun e w' => e = .returned (.tuple #[]) ∧ w' = w := by
  go_enter Try.func67, Try.ntmps67
  go_wp2
  go_end0
  exact ⟨rfl, rfl⟩

set_option maxHeartbeats 400000 in
theorem Reader_Need.no (R : Nat) (e : Int) (w : World) :
    Calls Try.prog 67 #[.pointer (some ⟨R, 0, none⟩), .bool false, .int .i64 e] w fun e1 w' => e1 = stopped e ∧ w' = w := by
  go_enter Try.func67, Try.ntmps67
  go_wp2
  exact ⟨rfl, rfl, rfl⟩

set_option maxHeartbeats 800000 in
theorem Reader_Take.yes (R : Nat) (s : ByteArray) (n : Nat) (m : Nat) (w : World) (h : Rd w R s n) (hm : n + m ≤ s.size) :
    Calls Try.prog 70 #[.pointer (some ⟨R, 0, none⟩), .int .i64 (m : Int)] w fun e w' =>
      e = .returned (.string (s.extract n (n + m))) ∧ ∃ k j, w' = ((w.drewN k).setCell ⟨R, 1, none⟩ (.int .i64 ((n + m : Nat) : Int))).drewN j := by
  have hn := h.2.1
  have hs := h.2.2
  have g1 : decide ((0 : Int) ≤ (m : Int)) = true := by simp
  have g2 : decide ((m : Int) ≤ (s.size : Int) - n) = true := by simp; omega
  go_enter Try.func70, Try.ntmps70
  go_wp2_with fail
  refine (Reader_Left.calls R s n _ h).mono ?_
  rintro e w1 ⟨rfl, k, rfl⟩
  have h1 := (show Rd (w.drewN k) R s n from h)
  go_wp2_with fail
  refine (Reader_Need.yes R 2 _).mono ?_
  rintro e w1 ⟨rfl, hw⟩
  subst hw
  obtain ⟨c0, c1, c2⟩ := h1.facts
  have h2 := h1.step (n + m) hm
  obtain ⟨d0, d1, d2⟩ := h2.facts
  have e1 : (((n + m : Nat) : Int)) = (n : Int) + m := by omega
  rw [e1] at d0 d1
  have h2' := Aside0.mk h2
  clear h2 h1 h
  go_wp2
  have hwn : IntKind.i64.wrap (n : Int) = n := wraps_i64 _ (by omega) (by omega)
  have hsl : ∀ wx : World, (Instr.slice 9 (.string s) (some (.int .i64 (n : Int))) (some (.int .i64 ((n : Int) + m))) none).run Try.prog wx = .ok (.string (s.extract n (n + m))) wx := fun wx => by
    have := run_slice_string (P := Try.prog) wx 9 s .i64 .i64 (n : Int) ((n : Int) + m) Try.underlying9 (by omega) (by omega) (by omega)
    rwa [Int.toNat_natCast, ← e1, Int.toNat_natCast] at this
  go_quiet (fail)
  clear hwn hsl
  go_wp2
  go_ret
  exact ⟨rfl, _, _, by rw [e1]⟩

set_option maxHeartbeats 800000 in
theorem Reader_Take.no (R : Nat) (s : ByteArray) (n : Nat) (m : Int) (w : World) (h : Rd w R s n) (hm : m < 0 ∨ (s.size : Int) < n + m) :
    Calls Try.prog 70 #[.pointer (some ⟨R, 0, none⟩), .int .i64 m] w fun e w' =>
      e = stopped 2 ∧ ∃ k, w' = w.drewN k := by
  have hn := h.2.1
  have hs := h.2.2
  by_cases h0 : 0 ≤ m
  · have g1 : decide ((0 : Int) ≤ m) = true := by simp; omega
    have g2 : decide (m ≤ (s.size : Int) - n) = false := by simp; omega
    clear h0 hm
    go_enter Try.func70, Try.ntmps70
    go_wp2_with fail
    refine (Reader_Left.calls R s n _ h).mono ?_
    rintro e w1 ⟨rfl, k, rfl⟩
    go_wp2_with fail
    refine (Reader_Need.no R 2 _).mono ?_
    rintro e w1 ⟨rfl, hw⟩
    subst hw
    exact ⟨rfl, rfl, _, rfl⟩
  · have g1 : decide ((0 : Int) ≤ m) = false := by simp; omega
    clear h0 hm
    go_enter Try.func70, Try.ntmps70
    go_wp2_with fail
    refine (Reader_Need.no R 2 _).mono ?_
    rintro e w1 ⟨rfl, hw⟩
    subst hw
    exact ⟨rfl, rfl, 0, rfl⟩


def Went (w w' : World) (R : Nat) (s : ByteArray) (n : Nat) : Prop := w.grownBy w' (some R) ∧ Rd w' R s n
theorem Went.take {w : World} {R : Nat} {s : ByteArray} {n : Nat} (h : Rd w R s n) (m : Nat) (hm : n + m ≤ s.size) (k j : Nat) :
    Went w (((w.drewN k).setCell ⟨R, 1, none⟩ (.int .i64 ((n + m : Nat) : Int))).drewN j) R s (n + m) :=
  ⟨grown_drewN (World.grownBy.trans (grown_drewN (grown_refl w _) k) (grown_setCell _ _ _ _)) j, ((show Rd (w.drewN k) R s n from h).step (n + m) hm)⟩

set_option maxHeartbeats 400000 in
theorem Reader_Rest.calls (R : Nat) (s : ByteArray) (n : Nat) (w : World) (h : Rd w R s n) :
    Calls Try.prog 71 #[.pointer (some ⟨R, 0, none⟩)] w fun e w' => e = .returned (.string (s.extract n s.size)) ∧ Went w w' R s s.size := by
  have hn := h.2.1
  go_enter Try.func71, Try.ntmps71
  go_wp2_with fail
  refine (Reader_Left.calls R s n _ h).mono ?_
  rintro e w1 ⟨rfl, k, rfl⟩
  have h1 := (show Rd (w.drewN k) R s n from h)
  go_wp2_with fail
  rw [show ((s.size : Int) - n) = ((s.size - n : Nat) : Int) from by omega]
  refine (Reader_Take.yes R s n (s.size - n) _ h1 (by omega)).mono ?_
  rintro e w1 ⟨rfl, k1, j1, rfl⟩
  have HW := Aside0.mk (Went.take h1 (s.size - n) (by omega) k1 j1)
  have hsz : n + (s.size - n) = s.size := by omega
  rw [hsz] at HW ⊢
  generalize (((w.drewN k).drewN k1).setCell ⟨R, 1, none⟩ (.int .i64 ((s.size : Nat) : Int))).drewN j1 = w2 at HW ⊢
  clear hsz
  go_wp2
  go_ret
  exact ⟨rfl, World.grownBy.trans (grown_drewN (grown_refl w _) k) HW.out.1, HW.out.2⟩

theorem shl_or (x : Nat) (b : UInt8) (hx : x < 72057594037927936) : Go.bits .or .u64 ((x : Int) * 256) (b.toNat : Int) = ((x * 256 + b.toNat : Nat) : Int) := by
  have hb := b.toNat_lt
  have e := u64_or_nat (x * 256) b.toNat (by omega) (by omega)
  rw [nat_join 8 (x * 256) b.toNat (by omega) (by omega)] at e
  rw [← e]
  simp
theorem bl_extract (s : ByteArray) (n m : Nat) : bl (s.extract n m) = ((bl s).take m).drop n := by
  simp [bl, ByteArray.data_extract, List.drop_take]

set_option maxHeartbeats 800000 in
theorem Reader_number.yes (R : Nat) (s : ByteArray) (n : Nat) (m : Nat) (w : World) (h : Rd w R s n) (hm : n + m ≤ s.size) (h8 : m ≤ 8) :
    Calls Try.prog 83 #[.pointer (some ⟨R, 0, none⟩), .int .i64 (m : Int)] w fun e w' =>
      e = .returned (.int .u64 (be (bl (s.extract n (n + m))) : Nat)) ∧ Went w w' R s (n + m) := by
  have hs := h.2.2
  go_enter Try.func83, Try.ntmps83
  go_wp2_with fail
  refine (Reader_Take.yes R s n m _ h hm).mono ?_
  rintro e w1 ⟨rfl, k1, j1, rfl⟩
  have HW := Aside0.mk (Went.take h m hm k1 j1)
  have hsz : (s.extract n (n + m)).size = m := by simp only [ByteArray.size_extract]; omega
  generalize ((w.drewN k1).setCell ⟨R, 1, none⟩ (.int .i64 ((n + m : Nat) : Int))).drewN j1 = w2 at HW ⊢
  generalize hte : s.extract n (n + m) = t at hsz ⊢
  have HE := Aside0.mk hte
  have HS := Aside0.mk hsz
  clear hsz h hte
  have hcv := fun (wx : World) => Lib.run_convert_string_bytes (P := Try.prog) wx 9 31 5 t Try.underlying9 Try.underlying31 Try.underlying5
  go_wp2
  clear hcv
  have hB : Below w2.heap.size w2 (Lib.bytesWorld w2 5 t) := ⟨rfl, rfl, rfl, by rw [Lib.bytesWorld_size]; omega, fun k hk => Lib.bytesWorld_at_old _ _ _ _ hk⟩
  have hC : ∀ j, j < t.size → (Lib.bytesWorld w2 5 t).cell? ⟨w2.heap.size, j, none⟩ = some (.int .u8 ((bl t).getD j 0).toNat) := fun j hj => Lib.bytesWorld_cell _ _ _ _ hj
  generalize Lib.bytesWorld w2 5 t = w3 at hB hC ⊢
  have HB := Aside0.mk hB
  have HC := Aside0.mk hC
  clear hB hC
  go_loopg [5, 13] t.size (fun kq v5 v13 wr => ∃ j : Nat, v13 = .int .i64 (j : Int) ∧ v5 = .int .u64 (be ((bl t).take j) : Nat) ∧ Aside0 (j + kq = t.size) ∧ Aside0 (wr = w3))
  case atStart => exact ⟨0, rfl, rfl, ⟨by omega⟩, ⟨rfl⟩⟩
  case round =>
    obtain ⟨j, rfl, rfl, HK, HEw⟩ := hrel
    obtain rfl := HEw.out
    clear HEw
    by_cases hlt : j < t.size
    · have hcell := HC.out j hlt
      have hx : be ((bl t).take j) < 72057594037927936 := by
        have := be_lt_of ((bl t).take j) 7 (by rw [List.length_take, bl_length]; have := HS.out; omega)
        simpa using this
      have HT : Aside0 ((bl t).take (j + 1) = (bl t).take j ++ [(bl t).getD j 0]) := ⟨by
        rw [List.take_succ_eq_append_getElem (by rw [bl_length]; exact hlt), List.getD_eq_getElem?_getD, List.getElem?_eq_getElem (by rw [bl_length]; exact hlt)]
        rfl⟩
      generalize (bl t).getD j 0 = b at hcell HT
      have hor := shl_or (be ((bl t).take j)) b hx
      have HN : Aside0 (be ((bl t).take (j + 1)) = be ((bl t).take j) * 256 + b.toNat) := ⟨by rw [HT.out, be_snoc]⟩
      generalize be ((bl t).take j) = x at hx hor HN ⊢
      have hw : wrap64 ((j : Int) + 1) = ((j + 1 : Nat) : Int) := by have := HS.out; unfold wrap64; omega
      go_wp2
      go_roundg (t.size - (j + 1))
      case measure => have := HK.out; omega
      case rel => exact ⟨j + 1, by rw [hw], by rw [show IntKind.u64.wrap (b.toNat : Int) = (b.toNat : Int) from by have := b.toNat_lt; exact wraps_u64 _ (by omega) (by omega), hor, HN.out], ⟨by omega⟩, ⟨rfl⟩⟩
    · have HT : Aside0 ((bl t).take j = bl t) := ⟨List.take_of_length_le (by rw [bl_length]; omega)⟩
      rw [HT.out]
      go_wp2
      go_ret
      exact ⟨by rw [← HE.out]; rfl, grown_of_below' HW.out.1 HB.out, HW.out.2.below HB.out⟩

set_option maxHeartbeats 800000 in
theorem Reader_number.no (R : Nat) (s : ByteArray) (n : Nat) (m : Nat) (w : World) (h : Rd w R s n) (hm : s.size < n + m) :
    Calls Try.prog 83 #[.pointer (some ⟨R, 0, none⟩), .int .i64 (m : Int)] w fun e w' =>
      e = stopped 2 ∧ ∃ k, w' = w.drewN k := by
  go_enter Try.func83, Try.ntmps83
  go_wp2_with fail
  refine (Reader_Take.no R s n m _ h (.inr (by omega))).mono ?_
  rintro e w1 ⟨rfl, k1, rfl⟩
  exact ⟨rfl, rfl, _, rfl⟩

theorem be_small_U8 (s : ByteArray) (n : Nat) : be (bl (s.extract n (n + 1))) < 256 := by
  have := be_lt_of (bl (s.extract n (n + 1))) 1 (by rw [bl_length]; simp only [ByteArray.size_extract]; omega)
  simpa using this

set_option maxHeartbeats 400000 in
theorem Reader_U8.yes (R : Nat) (s : ByteArray) (n : Nat) (w : World) (h : Rd w R s n) (hm : n + 1 ≤ s.size) :
    Calls Try.prog 68 #[.pointer (some ⟨R, 0, none⟩)] w fun e w' => e = .returned (.int .i64 (be (bl (s.extract n (n + 1))) : Nat)) ∧ Went w w' R s (n + 1) := by
  have hw : wrap64 ((be (bl (s.extract n (n + 1))) : Nat) : Int) = ((be (bl (s.extract n (n + 1))) : Nat) : Int) := by have := be_small_U8 s n; unfold wrap64; omega
  go_enter Try.func68, Try.ntmps68
  go_wp2_with fail
  refine (Reader_number.yes R s n 1 _ h hm (by decide)).mono ?_
  rintro e w1 ⟨rfl, hw1⟩
  have HW := Aside0.mk hw1
  clear hw1
  go_wp2
  go_ret
  exact ⟨by first | rfl | exact congrArg (fun z => Ending.returned (.int .i64 z)) hw, HW.out⟩
set_option maxHeartbeats 400000 in
theorem Reader_U8.no (R : Nat) (s : ByteArray) (n : Nat) (w : World) (h : Rd w R s n) (hm : s.size < n + 1) :
    Calls Try.prog 68 #[.pointer (some ⟨R, 0, none⟩)] w fun e w' => e = stopped 2 ∧ ∃ k, w' = w.drewN k := by
  go_enter Try.func68, Try.ntmps68
  go_wp2_with fail
  refine (Reader_number.no R s n 1 _ h hm).mono ?_
  rintro e w1 ⟨rfl, k1, rfl⟩
  exact ⟨rfl, rfl, _, rfl⟩

theorem be_small_U16 (s : ByteArray) (n : Nat) : be (bl (s.extract n (n + 2))) < 65536 := by
  have := be_lt_of (bl (s.extract n (n + 2))) 2 (by rw [bl_length]; simp only [ByteArray.size_extract]; omega)
  simpa using this

set_option maxHeartbeats 400000 in
theorem Reader_U16.yes (R : Nat) (s : ByteArray) (n : Nat) (w : World) (h : Rd w R s n) (hm : n + 2 ≤ s.size) :
    Calls Try.prog 69 #[.pointer (some ⟨R, 0, none⟩)] w fun e w' => e = .returned (.int .i64 (be (bl (s.extract n (n + 2))) : Nat)) ∧ Went w w' R s (n + 2) := by
  have hw : wrap64 ((be (bl (s.extract n (n + 2))) : Nat) : Int) = ((be (bl (s.extract n (n + 2))) : Nat) : Int) := by have := be_small_U16 s n; unfold wrap64; omega
  go_enter Try.func69, Try.ntmps69
  go_wp2_with fail
  refine (Reader_number.yes R s n 2 _ h hm (by decide)).mono ?_
  rintro e w1 ⟨rfl, hw1⟩
  have HW := Aside0.mk hw1
  clear hw1
  go_wp2
  go_ret
  exact ⟨by first | rfl | exact congrArg (fun z => Ending.returned (.int .i64 z)) hw, HW.out⟩
set_option maxHeartbeats 400000 in
theorem Reader_U16.no (R : Nat) (s : ByteArray) (n : Nat) (w : World) (h : Rd w R s n) (hm : s.size < n + 2) :
    Calls Try.prog 69 #[.pointer (some ⟨R, 0, none⟩)] w fun e w' => e = stopped 2 ∧ ∃ k, w' = w.drewN k := by
  go_enter Try.func69, Try.ntmps69
  go_wp2_with fail
  refine (Reader_number.no R s n 2 _ h hm).mono ?_
  rintro e w1 ⟨rfl, k1, rfl⟩
  exact ⟨rfl, rfl, _, rfl⟩

theorem be_small_U32 (s : ByteArray) (n : Nat) : be (bl (s.extract n (n + 4))) < 4294967296 := by
  have := be_lt_of (bl (s.extract n (n + 4))) 4 (by rw [bl_length]; simp only [ByteArray.size_extract]; omega)
  simpa using this

set_option maxHeartbeats 400000 in
theorem Reader_U32.yes (R : Nat) (s : ByteArray) (n : Nat) (w : World) (h : Rd w R s n) (hm : n + 4 ≤ s.size) :
    Calls Try.prog 74 #[.pointer (some ⟨R, 0, none⟩)] w fun e w' => e = .returned (.int .u32 (be (bl (s.extract n (n + 4))) : Nat)) ∧ Went w w' R s (n + 4) := by
  have hw : IntKind.u32.wrap ((be (bl (s.extract n (n + 4))) : Nat) : Int) = ((be (bl (s.extract n (n + 4))) : Nat) : Int) := by have := be_small_U32 s n; exact wraps_u32 _ (by omega) (by omega)
  go_enter Try.func74, Try.ntmps74
  go_wp2_with fail
  refine (Reader_number.yes R s n 4 _ h hm (by decide)).mono ?_
  rintro e w1 ⟨rfl, hw1⟩
  have HW := Aside0.mk hw1
  clear hw1
  go_wp2
  go_ret
  exact ⟨by first | rfl | exact congrArg (fun z => Ending.returned (.int .i64 z)) hw, HW.out⟩
set_option maxHeartbeats 400000 in
theorem Reader_U32.no (R : Nat) (s : ByteArray) (n : Nat) (w : World) (h : Rd w R s n) (hm : s.size < n + 4) :
    Calls Try.prog 74 #[.pointer (some ⟨R, 0, none⟩)] w fun e w' => e = stopped 2 ∧ ∃ k, w' = w.drewN k := by
  go_enter Try.func74, Try.ntmps74
  go_wp2_with fail
  refine (Reader_number.no R s n 4 _ h hm).mono ?_
  rintro e w1 ⟨rfl, k1, rfl⟩
  exact ⟨rfl, rfl, _, rfl⟩

end Go.Proofs.Ytcmalglippmocaa.G
end

section
namespace Go.Proofs.Ytcmalglippmocaa.G
open Go.RowKit Go.Proofs.YtcmalglippmocaaW.PrintWords Go.Proofs.YtcmalglippmocaaW.PrintLast Go.Proofs.YtcmalglippmocaaW.PrintMore Go.Proofs.Ytcmalglippmocaa.Pal

def did (e : Int) : Ending := if e = 0 then .returned (.tuple #[]) else stopped e

theorem stop_is (v : Value) (W : World) : (Instr.typeAssert (.iface 133 v) 20 133 true).run Try.prog W = .ok (.tuple #[v, .bool true]) W := by kernel_rfl

set_option maxHeartbeats 400000 in
theorem Read1_caught (p : Nat) (x e : Int) (w : World) (hc : w.cell? ⟨p, 0, none⟩ = some (.int .i64 x)) (hz : w.frozen? ⟨p, 0, none⟩ = false) (hp : p < w.heap.size) :
    CallsD Try.prog 82 #[.pointer (some ⟨p, 0, none⟩)] (.panicking [{ v := stopV e, recovered := false }]) w fun e1 u' w' =>
      e1 = .returned (.tuple #[]) ∧ u' = .panicking [{ v := stopV e, recovered := true }] ∧ w' = (w.setCell ⟨p, 0, none⟩ (.int .i64 e)).alloc (.cells #[.int .i64 e] 133) := by
  have hta : ∀ (v : Value) (W : World), (Instr.typeAssert (.iface 133 v) 20 133 true).run Try.prog W = .ok (.tuple #[v, .bool true]) W := stop_is
  refine callsD_of_wpS Try.func82 rfl fun c₀ cs hu => ?_
  simp only [Try.ntmps82, List.size_toArray, List.length_cons, List.length_nil, Nat.reduceAdd, Nat.reduceSub, Array.replicate_succ,
     Array.replicate_zero, List.push_toArray, List.append_toArray, List.nil_append, List.cons_append]
  apply wpS_seq
  apply wpS_region
  simp [wpOpsS, go_sem, recoverD, hu, Exit.thenS, stopV]
  apply wpS_of_wp
  go_wp2
  exact ⟨rfl, _, rfl, _, results_none rfl _ _ _, rfl, rfl, rfl⟩

set_option maxHeartbeats 400000 in
theorem Read1_idle (p : Nat) (w : World) :
    CallsD Try.prog 82 #[.pointer (some ⟨p, 0, none⟩)] .returning w fun e1 u' w' => e1 = .returned (.tuple #[]) ∧ u' = .returning ∧ w' = w := by
  refine callsD_of_wpS Try.func82 rfl fun c₀ cs hu => ?_
  simp only [Try.ntmps82, List.size_toArray, List.length_cons, List.length_nil, Nat.reduceAdd, Nat.reduceSub, Array.replicate_succ,
     Array.replicate_zero, List.push_toArray, List.append_toArray, List.nil_append, List.cons_append]
  apply wpS_seq
  apply wpS_region
  simp [wpOpsS, go_sem, recoverD, hu, Exit.thenS]
  apply wpS_of_wp
  go_wp2
  refine ⟨rfl, .returning, ?_, _, results_none rfl _ _ _, rfl, rfl, rfl⟩
  cases c₀
  simp_all

def readW (w : World) (s : ByteArray) : World := (w.alloc (.cells #[.int .i64 0] 25)).alloc (.cells #[.string s, .int .i64 0] 135)
theorem readW_rd (w : World) (s : ByteArray) (hs : s.size ≤ 140737488351232) : Rd (readW w s) (w.heap.size + 1) s 0 := by
  have h := Blk.new (w.alloc (.cells #[.int .i64 0] 25)) 135 #[.string s, .int .i64 0]
  rw [World.size_alloc] at h
  exact ⟨h, by omega, hs⟩
theorem readW_res (w : World) (s : ByteArray) : Blk (readW w s) w.heap.size 25 #[.int .i64 0] := (Blk.new w _ _).alloc _
theorem readW_below (w : World) (s : ByteArray) : Below w.heap.size w (readW w s) := ((Below.refl _ _).alloc (Nat.le_refl _) _).alloc (by simp) _
set_option maxHeartbeats 800000 in
theorem Read_calls (g : FuncId) (cap : Array Value) (s : ByteArray) (er : Int) (w : World) (Q : World → Prop)
    (hg : ∀ args w, (callFunc g args).run Try.prog w = .ok (.enter g args) w)
    (hdo : Calls Try.prog g (#[.pointer (some ⟨w.heap.size + 1, 0, none⟩)] ++ cap) (readW w s) fun e w2 => e = did er ∧ Blk w2 w.heap.size 25 #[.int .i64 0] ∧ Q w2) :
    Calls Try.prog 65 #[.string s, .func (.func g) #[] cap] w fun e w' => e = .returned (.int .i64 er) ∧ ∃ w2, Q w2 ∧ w2.grownBy w' (some w.heap.size) := by
  have hmf : ∀ (fn : Fn) (first cap : Array Value) (w : World), (Instr.makeFunc fn first cap).run Try.prog w = .ok (.func fn first cap) w := fun _ _ _ _ => rfl
  have HD := Lib.hid hdo
  clear hdo
  go_enter_defers Try.func65, Try.ntmps65
  go_wp2_with fail
  refine HD.out.mono ?_
  rintro e w2 ⟨rfl, hb, hq⟩
  have HQ := Lib.hid hq
  clear hq HD
  have c0 := hb.cell 0 _ rfl
  have c1 := hb.free 0
  have HB := Aside0.mk hb
  clear hb
  by_cases h0 : er = 0
  · subst h0
    rw [show did 0 = .returned (.tuple #[]) from rfl]
    go_wp2
    refine leaves_cons (f := 82) (args := #[.pointer (some ⟨w.heap.size, 0, none⟩)]) (by simp) (by simp [go_sem]) ?_
    refine (Read1_idle w.heap.size _).mono ?_
    rintro e u' w'' ⟨rfl, rfl, rfl⟩
    have c2 := (HB.out.set 0 (.int .i64 0)).cell 0 _ rfl
    refine ⟨.int .i64 0, ?_, rfl, w2, HQ.out, grown_setCell _ _ _ _⟩
    simp [results, Try.results65, go_sem]
    rw [c2]
    rfl
  · rw [show did er = stopped er from if_neg h0]
    refine leaves_cons (f := 82) (args := #[.pointer (some ⟨w.heap.size, 0, none⟩)]) (by simp) (by simp [go_sem]) ?_
    refine (Read1_caught w.heap.size 0 er w2 c0 c1 HB.out.lt).mono ?_
    rintro e u' w'' ⟨rfl, rfl, rfl⟩
    have c2 := (((HB.out.set 0 (.int .i64 er))).alloc (.cells #[.int .i64 er] 133)).cell 0 _ rfl
    refine ⟨.int .i64 er, ?_, rfl, w2, HQ.out, grown_alloc (grown_setCell _ _ _ _) _⟩
    simp [results, Try.results65, go_sem]
    rw [c2]
    rfl
end Go.Proofs.Ytcmalglippmocaa.G
end

section
namespace Go.Proofs.Ytcmalglippmocaa.G
open Go.RowKit Go.Proofs.YtcmalglippmocaaW.PrintWords Go.Proofs.YtcmalglippmocaaW.PrintLast Go.Proofs.YtcmalglippmocaaW.PrintMore Go.Proofs.Ytcmalglippmocaa.Pal

def in16 (x : Int) : Prop := 0 ≤ x ∧ x ≤ 65535
instance (x : Int) : Decidable (in16 x) := by unfold in16; infer_instance
def empty : ByteArray := ⟨#[]⟩
def UG (k : Nat) (s : ByteArray) (w w1 : World) (n : Nat) (cs : Array Value) (x : Int) : Prop :=
  Rd w1 (k + 5) s n ∧ Hp w1 [(k, 9, #[.string s]), (k + 1, 73, #[.int .i64 0, .int .i64 0, .string ⟨#[]⟩]), (k + 2, 73, cs), (k + 3, 3, #[.int .i64 x]), (k + 4, 25, #[.int .i64 0])] ∧ Below k w w1
theorem UG.went {k : Nat} {s : ByteArray} {w w1 w2 : World} {n m : Nat} {cs : Array Value} {x : Int} (h : UG k s w w1 n cs x) (hw : Went w1 w2 (k + 5) s m) : UG k s w w2 m cs x :=
  ⟨hw.2, h.2.1.grown hw.1 (by simp), h.2.2.trans (below_of_grown hw.1 (by have := h.1.1.lt; omega) (by omega))⟩
theorem UG.put {k : Nat} {s : ByteArray} {w w1 : World} {n : Nat} {cs : Array Value} {x : Int} (h : UG k s w w1 n cs x) (j : Nat) (v : Value) : UG k s w (w1.setCell ⟨k + 2, j, none⟩ v) n (cs.setIfInBounds j v) x :=
  ⟨⟨h.1.1.other _ (by simp) _, h.1.2⟩, h.2.1.set (l1 := [_, _]) (l2 := [_, _]) j v (by simp) (by simp), h.2.2.setCell (by simp) _⟩
theorem UG.drew {k : Nat} {s : ByteArray} {w w1 : World} {n : Nat} {cs : Array Value} {x : Int} (h : UG k s w w1 n cs x) : UG k s w w1.drew n cs x := ⟨h.1, h.2.1, h.2.2.drew⟩
theorem UG.facts {k : Nat} {s : ByteArray} {w w1 : World} {n : Nat} {cs : Array Value} {x : Int} (h : UG k s w w1 n cs x) :
    w1.cell? ⟨k, 0, none⟩ = some (.string s) ∧ (∀ j, w1.frozen? ⟨k + 2, j, none⟩ = false) ∧ (∀ j, w1.cell? ⟨k + 2, j, none⟩ = cs[j]?) :=
  ⟨h.2.1.head.cell 0 _ rfl, h.2.1.tail.tail.head.frees, h.2.1.tail.tail.head.cells⟩

theorem panicOut {P : Program} {fn : Func} {R : Ending → World → Prop} {ch : List PanicEntry} {a : Act} {w : World} (h : wpAny P .any #[] (fun _ a w => bodyPost P fn R (.panic ch) a w) 0 #[] a w) : bodyPost P fn R (.panic ch) a w := h.2
def udpErr (s : ByteArray) : Int := if s.size < 8 then 2 else if be (bl (s.extract 4 6)) = s.size then 0 else 4

set_option maxHeartbeats 1000000 in
set_option maxRecDepth 100000 in
theorem udp_Get1.len (k : Nat) (s : ByteArray) (w w1 : World) (h : UG k s w w1 0 #[.int .i64 0, .int .i64 0, .string ⟨#[]⟩] 0) (h8 : 8 ≤ s.size) (hne : ¬ be (bl (s.extract 4 6)) = s.size) :
    Calls Try.prog 77 #[.pointer (some ⟨k + 5, 0, none⟩), .pointer (some ⟨k, 0, none⟩), .pointer (some ⟨k + 2, 0, none⟩), .pointer (some ⟨k + 3, 0, none⟩)] w1 fun e w2 => e = stopped 4 ∧ ∃ n cs x, UG k s w w2 n cs x := by
  have HG := Aside0.mk h
  obtain ⟨c0, c1, c2⟩ := h.facts
  have d1 : decide ((8 : Int) ≤ (s.size : Int)) = true := decide_eq_true (by omega)
  clear h
  go_enter Try.func77, Try.ntmps77
  go_wp2_with fail
  refine (Reader_Need.yes _ _ _).mono ?_
  rintro e w2 ⟨rfl, rfl⟩
  go_wp2_with fail
  refine (Reader_U16.yes _ _ _ _ HG.out.1 (by omega)).mono ?_
  rintro e w2 ⟨rfl, g1⟩
  replace HG := Aside0.mk (HG.out.went g1)
  clear g1 c0 c1 c2
  go_wp2_with fail
  refine (Reader_U16.yes _ _ _ _ HG.out.1 (by omega)).mono ?_
  rintro e w2 ⟨rfl, g1⟩
  replace HG := Aside0.mk (HG.out.went g1)
  clear g1
  obtain ⟨c0, c1, c2⟩ := HG.out.facts
  go_wp2_with fail
  replace HG := Aside0.mk ((HG.out.put 0 (.int .i64 (be (bl (s.extract 0 2)) : Nat))).put 1 (.int .i64 (be (bl (s.extract 2 4)) : Nat)))
  clear c0 c1 c2
  generalize (w2.setCell ⟨k + 2, 0, none⟩ (.int .i64 (be (bl (s.extract 0 2)) : Nat))).setCell ⟨k + 2, 1, none⟩ (.int .i64 (be (bl (s.extract 2 4)) : Nat)) = wa at HG ⊢
  obtain ⟨c0, c1, c2⟩ := HG.out.facts
  clear c1 c2
  have d2 : (((be (bl (s.extract 4 6)) : Nat) : Int) == (s.size : Int)) = false := by rw [beq_eq_false_iff_ne]; omega
  have d3 : ((be (bl (s.extract 4 6))) == s.size) = false := by rw [beq_eq_false_iff_ne]; exact hne
  clear hne
  go_region_with ((first
      | (go_at_call 69; refine (Reader_U16.yes _ _ 4 _ HG.out.drew.1 ?_).mono ?_; omega; rintro e w3 ⟨rfl, g1⟩; have HG3 := Aside0.mk (HG.out.drew.went g1); have c3 := HG3.out.facts.1; clear g1)
      | (go_at_call 67; refine (Reader_Need.no _ _ _).mono ?_; rintro e w4 ⟨rfl, rfl⟩; refine panicOut ?_)))
  all_goals exact ⟨rfl, rfl, _, _, _, HG3.out⟩

theorem UG.putSum {k : Nat} {s : ByteArray} {w w1 : World} {n : Nat} {cs : Array Value} {x : Int} (h : UG k s w w1 n cs x) (y : Int) : UG k s w (w1.setCell ⟨k + 3, 0, none⟩ (.int .i64 y)) n cs y :=
  ⟨⟨h.1.1.other _ (by simp) _, h.1.2⟩, h.2.1.set (l1 := [_, _, _]) (l2 := [_]) 0 (.int .i64 y) (by simp) (by simp), h.2.2.setCell (by simp) _⟩
theorem UG.sumFree {k : Nat} {s : ByteArray} {w w1 : World} {n : Nat} {cs : Array Value} {x : Int} (h : UG k s w w1 n cs x) :
    w1.cell? ⟨k + 3, 0, none⟩ = some (.int .i64 x) ∧ w1.frozen? ⟨k + 3, 0, none⟩ = false :=
  ⟨h.2.1.tail.tail.tail.head.cell 0 _ rfl, h.2.1.tail.tail.tail.head.free 0⟩

set_option maxHeartbeats 1000000 in
set_option maxRecDepth 100000 in
theorem udp_Get1.short (k : Nat) (s : ByteArray) (w w1 : World) (h : UG k s w w1 0 #[.int .i64 0, .int .i64 0, .string ⟨#[]⟩] 0) (h8 : s.size < 8) :
    Calls Try.prog 77 #[.pointer (some ⟨k + 5, 0, none⟩), .pointer (some ⟨k, 0, none⟩), .pointer (some ⟨k + 2, 0, none⟩), .pointer (some ⟨k + 3, 0, none⟩)] w1 fun e w2 => e = stopped 2 ∧ ∃ n cs x, UG k s w w2 n cs x := by
  have HG := Aside0.mk h
  obtain ⟨c0, c1, c2⟩ := h.facts
  have d1 : decide ((8 : Int) ≤ (s.size : Int)) = false := decide_eq_false (by omega)
  clear h
  go_enter Try.func77, Try.ntmps77
  go_wp2_with fail
  refine (Reader_Need.no _ _ _).mono ?_
  rintro e w2 ⟨rfl, rfl⟩
  exact ⟨rfl, rfl, _, _, _, HG.out⟩

set_option maxHeartbeats 1000000 in
set_option maxRecDepth 100000 in
theorem udp_Get1.ok (k : Nat) (s : ByteArray) (w w1 : World) (h : UG k s w w1 0 #[.int .i64 0, .int .i64 0, .string ⟨#[]⟩] 0) (h8 : 8 ≤ s.size) (heq : be (bl (s.extract 4 6)) = s.size) :
    Calls Try.prog 77 #[.pointer (some ⟨k + 5, 0, none⟩), .pointer (some ⟨k, 0, none⟩), .pointer (some ⟨k + 2, 0, none⟩), .pointer (some ⟨k + 3, 0, none⟩)] w1 fun e w2 => e = .returned (.tuple #[]) ∧
      UG k s w w2 s.size #[.int .i64 (be (bl (s.extract 0 2)) : Nat), .int .i64 (be (bl (s.extract 2 4)) : Nat), .string (s.extract 8 s.size)] (be (bl (s.extract 6 8)) : Nat) := by
  have HG := Aside0.mk h
  obtain ⟨c0, c1, c2⟩ := h.facts
  have d1 : decide ((8 : Int) ≤ (s.size : Int)) = true := decide_eq_true (by omega)
  clear h
  go_enter Try.func77, Try.ntmps77
  go_wp2_with fail
  refine (Reader_Need.yes _ _ _).mono ?_
  rintro e w2 ⟨rfl, rfl⟩
  go_wp2_with fail
  refine (Reader_U16.yes _ _ _ _ HG.out.1 (by omega)).mono ?_
  rintro e w2 ⟨rfl, g1⟩
  replace HG := Aside0.mk (HG.out.went g1)
  clear g1 c0 c1 c2
  go_wp2_with fail
  refine (Reader_U16.yes _ _ _ _ HG.out.1 (by omega)).mono ?_
  rintro e w2 ⟨rfl, g1⟩
  replace HG := Aside0.mk (HG.out.went g1)
  clear g1
  obtain ⟨c0, c1, c2⟩ := HG.out.facts
  go_wp2_with fail
  replace HG := Aside0.mk ((HG.out.put 0 (.int .i64 (be (bl (s.extract 0 2)) : Nat))).put 1 (.int .i64 (be (bl (s.extract 2 4)) : Nat)))
  clear c0 c1 c2
  generalize (w2.setCell ⟨k + 2, 0, none⟩ (.int .i64 (be (bl (s.extract 0 2)) : Nat))).setCell ⟨k + 2, 1, none⟩ (.int .i64 (be (bl (s.extract 2 4)) : Nat)) = wa at HG ⊢
  obtain ⟨c0, c1, c2⟩ := HG.out.facts
  clear c1 c2
  have d2 : (((be (bl (s.extract 4 6)) : Nat) : Int) == (s.size : Int)) = true := by rw [heq]; exact beq_self_eq_true _
  have d3 : ((be (bl (s.extract 4 6))) == s.size) = true := by rw [heq]; exact beq_self_eq_true _
  clear heq
  go_region_with ((first
      | (go_at_call 69; refine (Reader_U16.yes _ _ 4 _ HG.out.drew.1 ?_).mono ?_; omega; rintro e w3 ⟨rfl, g1⟩; have HG3 := Aside0.mk (HG.out.drew.went g1); have c3 := HG3.out.facts.1; clear g1)
      | (go_at_call 67; refine (Reader_Need.yes _ _ _).mono ?_; rintro e w4 ⟨rfl, rfl⟩)))
  all_goals
    clear c3 c0
    go_wp2_with fail
    refine (Reader_U16.yes _ _ _ _ HG3.out.1 (by omega)).mono ?_
    rintro e w5 ⟨rfl, g1⟩
    replace HG := Aside0.mk (HG3.out.went g1)
    clear g1 HG3
    go_wp2_with fail
    refine (Reader_Rest.calls _ _ _ _ HG.out.1).mono ?_
    rintro e w6 ⟨rfl, g1⟩
    replace HG := Aside0.mk (HG.out.went g1)
    clear g1
    obtain ⟨c0, c1, c2⟩ := HG.out.facts
    obtain ⟨c3, c4⟩ := HG.out.sumFree
    go_wp2
    go_end0
    exact ⟨rfl, (HG.out.putSum _).put 2 _⟩

def udp_Get.f (s : ByteArray) : Option (Int × Int × ByteArray × Int × Int) :=
  if s.size ≤ 140737488351232 then some (if udpErr s = 0 then ((be (bl (s.extract 0 2)) : Nat), (be (bl (s.extract 2 4)) : Nat), s.extract 8 s.size, (be (bl (s.extract 6 8)) : Nat), 0) else (0, 0, empty, 0, udpErr s)) else none

def UR (k : Nat) (s : ByteArray) (w w1 : World) : Prop :=
  ∃ cs x, Hp w1 [(k, 9, #[.string s]), (k + 1, 73, #[.int .i64 0, .int .i64 0, .string ⟨#[]⟩]), (k + 2, 73, cs), (k + 3, 3, #[.int .i64 x])] ∧ Below k w w1 ∧
    (udpErr s = 0 → cs = #[.int .i64 (be (bl (s.extract 0 2)) : Nat), .int .i64 (be (bl (s.extract 2 4)) : Nat), .string (s.extract 8 s.size)] ∧ x = (be (bl (s.extract 6 8)) : Nat))
theorem UG.done {k : Nat} {s : ByteArray} {w w1 w2 : World} {n : Nat} {cs : Array Value} {x : Int} (h : UG k s w w1 n cs x) (hw : w1.grownBy w2 (some (k + 4)))
    (hx : udpErr s = 0 → cs = #[.int .i64 (be (bl (s.extract 0 2)) : Nat), .int .i64 (be (bl (s.extract 2 4)) : Nat), .string (s.extract 8 s.size)] ∧ x = (be (bl (s.extract 6 8)) : Nat)) : UR k s w w2 :=
  ⟨cs, x, Hp.grown (R := k + 4) (fun y hy => h.2.1 y (by simp at hy ⊢; rcases hy with rfl | rfl | rfl | rfl <;> simp)) hw (by simp), h.2.2.trans (below_of_grown hw (by have := h.1.1.lt; omega) (by omega)), hx⟩

set_option maxRecDepth 100000 in
theorem udp_Get.reads (s : ByteArray) (hs : s.size ≤ 140737488351232) (w : World) :
    Calls Try.prog 65 #[.string s, .func (.func 77) #[] #[.pointer (some ⟨w.heap.size, 0, none⟩), .pointer (some ⟨w.heap.size + 1 + 1, 0, none⟩), .pointer (some ⟨w.heap.size + 1 + 1 + 1, 0, none⟩)]]
      ((((w.alloc (.cells #[.string s] 9)).alloc (.cells #[.int .i64 0, .int .i64 0, .string ⟨#[]⟩] 73)).alloc (.cells #[.int .i64 0, .int .i64 0, .string ⟨#[]⟩] 73)).alloc (.cells #[.int .i64 0] 3))
      fun e w' => e = .returned (.int .i64 (udpErr s)) ∧ UR w.heap.size s w w' := by
  obtain ⟨W, hW⟩ : ∃ W, W = ((((w.alloc (.cells #[.string s] 9)).alloc (.cells #[.int .i64 0, .int .i64 0, .string ⟨#[]⟩] 73)).alloc (.cells #[.int .i64 0, .int .i64 0, .string ⟨#[]⟩] 73)).alloc (.cells #[.int .i64 0] 3)) := ⟨_, rfl⟩
  have hk : W.heap.size = w.heap.size + 4 := by rw [hW]; simp
  have b0 : Blk W w.heap.size 9 #[.string s] := by rw [hW]; exact (((Blk.new w _ _).alloc _).alloc _).alloc _
  have b1 : Blk W (w.heap.size + 1) 73 #[.int .i64 0, .int .i64 0, .string ⟨#[]⟩] := by
    rw [hW]
    have := Blk.new (w.alloc (.cells #[.string s] 9)) 73 #[.int .i64 0, .int .i64 0, .string ⟨#[]⟩]
    rw [World.size_alloc] at this
    exact (this.alloc _).alloc _
  have b2 : Blk W (w.heap.size + 2) 73 #[.int .i64 0, .int .i64 0, .string ⟨#[]⟩] := by
    rw [hW]
    have := Blk.new ((w.alloc (.cells #[.string s] 9)).alloc (.cells #[.int .i64 0, .int .i64 0, .string ⟨#[]⟩] 73)) 73 #[.int .i64 0, .int .i64 0, .string ⟨#[]⟩]
    rw [World.size_alloc, World.size_alloc] at this
    exact this.alloc _
  have b3 : Blk W (w.heap.size + 3) 3 #[.int .i64 0] := by
    rw [hW]
    have := Blk.new (((w.alloc (.cells #[.string s] 9)).alloc (.cells #[.int .i64 0, .int .i64 0, .string ⟨#[]⟩] 73)).alloc (.cells #[.int .i64 0, .int .i64 0, .string ⟨#[]⟩] 73)) 3 #[.int .i64 0]
    rw [World.size_alloc, World.size_alloc, World.size_alloc] at this
    exact this
  have hb : Below w.heap.size w W := by
    rw [hW]
    exact ((((Below.refl _ _).alloc (Nat.le_refl _) _).alloc (by simp) _).alloc (by simp; omega) _).alloc (by simp; omega) _
  rw [← hW]
  clear hW
  have hrd := readW_rd W s hs
  have hres := readW_res W s
  have hbl := readW_below W s
  rw [hk] at hrd hres hbl
  have hG : UG w.heap.size s w (readW W s) 0 #[.int .i64 0, .int .i64 0, .string ⟨#[]⟩] 0 :=
    ⟨hrd, .cons (b0.below hbl (by omega)) (.cons (b1.below hbl (by omega)) (.cons (b2.below hbl (by omega)) (.cons (b3.below hbl (by omega)) (.cons hres (.nil _))))), hb.trans (hbl.mono (by omega))⟩
  have hrd' : ∀ Q : World → Prop, Calls Try.prog 77 (#[.pointer (some ⟨W.heap.size + 1, 0, none⟩)] ++ #[.pointer (some ⟨w.heap.size, 0, none⟩), .pointer (some ⟨w.heap.size + 1 + 1, 0, none⟩), .pointer (some ⟨w.heap.size + 1 + 1 + 1, 0, none⟩)]) (readW W s) (fun e w2 => e = did (udpErr s) ∧ Blk w2 W.heap.size 25 #[.int .i64 0] ∧ Q w2) →
      Calls Try.prog 65 #[.string s, .func (.func 77) #[] #[.pointer (some ⟨w.heap.size, 0, none⟩), .pointer (some ⟨w.heap.size + 1 + 1, 0, none⟩), .pointer (some ⟨w.heap.size + 1 + 1 + 1, 0, none⟩)]] W
        fun e w' => e = .returned (.int .i64 (udpErr s)) ∧ ∃ w2, Q w2 ∧ w2.grownBy w' (some W.heap.size) :=
    fun Q h => Read_calls 77 _ s (udpErr s) W Q (fun _ _ => rfl) h
  rw [hk] at hrd'
  clear hrd hres hbl b0 b1 b2 b3 hb
  by_cases h8 : s.size < 8
  · have he : udpErr s = 2 := if_pos h8
    rw [he] at hrd' ⊢
    refine (hrd' (fun w2 => ∃ n cs x, UG w.heap.size s w w2 n cs x) ?_).mono ?_
    · refine (udp_Get1.short w.heap.size s w (readW W s) hG h8).mono ?_
      rintro e w2 ⟨rfl, n, cs, x, hu⟩
      exact ⟨rfl, hu.2.1.tail.tail.tail.tail.head, n, cs, x, hu⟩
    · rintro e w' ⟨rfl, w2, ⟨n, cs, x, hu⟩, hg⟩
      exact ⟨rfl, hu.done hg (fun h0 => absurd (he.symm.trans h0) (by decide))⟩
  · by_cases heq : be (bl (s.extract 4 6)) = s.size
    · have he : udpErr s = 0 := by unfold udpErr; rw [if_neg h8, if_pos heq]
      rw [he] at hrd' ⊢
      refine (hrd' (fun w2 => UG w.heap.size s w w2 s.size #[.int .i64 (be (bl (s.extract 0 2)) : Nat), .int .i64 (be (bl (s.extract 2 4)) : Nat), .string (s.extract 8 s.size)] (be (bl (s.extract 6 8)) : Nat)) ?_).mono ?_
      · refine (udp_Get1.ok w.heap.size s w (readW W s) hG (by omega) heq).mono ?_
        rintro e w2 ⟨rfl, hu⟩
        exact ⟨rfl, hu.2.1.tail.tail.tail.tail.head, hu⟩
      · rintro e w' ⟨rfl, w2, hu, hg⟩
        exact ⟨rfl, hu.done hg (fun _ => ⟨rfl, rfl⟩)⟩
    · have he : udpErr s = 4 := by unfold udpErr; rw [if_neg h8, if_neg heq]
      rw [he] at hrd' ⊢
      refine (hrd' (fun w2 => ∃ n cs x, UG w.heap.size s w w2 n cs x) ?_).mono ?_
      · refine (udp_Get1.len w.heap.size s w (readW W s) hG (by omega) heq).mono ?_
        rintro e w2 ⟨rfl, n, cs, x, hu⟩
        exact ⟨rfl, hu.2.1.tail.tail.tail.tail.head, n, cs, x, hu⟩
      · rintro e w' ⟨rfl, w2, ⟨n, cs, x, hu⟩, hg⟩
        exact ⟨rfl, hu.done hg (fun h0 => absurd (he.symm.trans h0) (by decide))⟩

set_option maxHeartbeats 1000000 in
set_option maxRecDepth 100000 in
theorem udp_Get.calls (s : ByteArray) (r1 r2 : Int) (r3 : ByteArray) (r4 r5 : Int) (w : World) (h : udp_Get.f s = some (r1, r2, r3, r4, r5)) :
    Calls Try.prog 50 #[.string s] w fun e w' => e = .returned (.tuple #[.agg #[.int .i64 r1, .int .i64 r2, .string r3], .int .i64 r4, .int .i64 r5]) ∧ Below w.heap.size w w' := by
  unfold udp_Get.f at h
  by_cases hs : s.size ≤ 140737488351232
  case neg => rw [if_neg hs] at h; exact absurd h (by simp)
  rw [if_pos hs] at h
  have hmf : ∀ (fn : Fn) (first cap : Array Value) (w : World), (Instr.makeFunc fn first cap).run Try.prog w = .ok (.func fn first cap) w := fun _ _ _ _ => rfl
  have hu := Try.underlying73
  have HS := Aside0.mk hs
  clear hs
  by_cases h0 : udpErr s = 0
  · rw [if_pos h0] at h
    obtain ⟨rfl, rfl, rfl, rfl, rfl⟩ : (be (bl (s.extract 0 2)) : Nat) = r1 ∧ (be (bl (s.extract 2 4)) : Nat) = r2 ∧ s.extract 8 s.size = r3 ∧ (be (bl (s.extract 6 8)) : Nat) = r4 ∧ 0 = r5 := by
      have h := Option.some.inj h; simp only [Prod.mk.injEq] at h; exact h
    have d1 : (udpErr s != 0) = false := bne_eq_false_iff_eq.mpr h0
    replace h := Aside0.mk h0
    clear h0
    go_enter Try.func50, Try.ntmps50
    go_wp2_with fail
    refine (udp_Get.reads s HS.out w).mono ?_
    rintro e w2 ⟨rfl, cs, x, hp, hb, hx⟩
    obtain ⟨rfl, rfl⟩ := hx h.out
    have HB := Aside0.mk hb
    have c1 := hp.tail.head.cells
    have c2 := hp.tail.head.frees
    have c3 := hp.tail.tail.head.cells
    have c4 := hp.tail.tail.tail.head.cell 0 _ rfl
    have HK := Aside0.mk hp.tail.head
    clear hp hb hx
    go_wp2_with fail
    go_region
    all_goals
      have c5 := (((HK.out.set 0 (.int .i64 (be (bl (s.extract 0 2)) : Nat))).set 1 (.int .i64 (be (bl (s.extract 2 4)) : Nat))).set 2 (.string (s.extract 8 s.size))).drew.cells
      simp only [List.setIfInBounds_toArray, List.set_cons_zero, List.set_cons_succ] at c5
      clear c1 c2 c3 c4
      go_wp2
      refine ⟨rfl, _, ?_, rfl, ?_⟩
      rotate_left
      · exact (((HB.out.setCell (by simp) _).setCell (by simp) _).setCell (by simp) _).drew
      simp [results, Try.results50, go_sem, hu, c5]
  · rw [if_neg h0] at h
    obtain ⟨rfl, rfl, rfl, rfl, rfl⟩ : 0 = r1 ∧ 0 = r2 ∧ empty = r3 ∧ 0 = r4 ∧ udpErr s = r5 := by
      have h := Option.some.inj h; simp only [Prod.mk.injEq] at h; exact h
    have d1 : (udpErr s != 0) = true := bne_iff_ne.mpr h0
    clear h h0
    go_enter Try.func50, Try.ntmps50
    go_wp2_with fail
    refine (udp_Get.reads s HS.out w).mono ?_
    rintro e w2 ⟨rfl, cs, x, hp, hb, hx⟩
    have HB := Aside0.mk hb
    have c1 := hp.tail.head.cells
    have c2 := hp.tail.head.frees
    have HK := Aside0.mk hp.tail.head
    clear hp hb hx
    go_wp2
    have c5 := (((HK.out.set 0 (.int .i64 0)).set 1 (.int .i64 0)).set 2 (.string ⟨#[]⟩)).cells
    simp only [List.setIfInBounds_toArray, List.set_cons_zero, List.set_cons_succ] at c5
    clear c1 c2
    refine ⟨rfl, _, ?_, rfl, ?_⟩
    rotate_left
    · exact ((HB.out.setCell (by simp) _).setCell (by simp) _).setCell (by simp) _
    simp [results, Try.results50, go_sem, hu, c5]
    rfl
end Go.Proofs.Ytcmalglippmocaa.G
end

section
namespace Go.Proofs.Ytcmalglippmocaa.G
open Go.Proofs.Ytcmalglippmocaa.Pal
def tcpOk (src dst flags win urg : Int) (opt : ByteArray) : Prop := in16 src ∧ in16 dst ∧ in16 win ∧ in16 urg ∧ (0 ≤ flags ∧ flags ≤ 255) ∧ opt.size ≤ 40 ∧ opt.size % 4 = 0
instance (src dst flags win urg : Int) (opt : ByteArray) : Decidable (tcpOk src dst flags win urg opt) := by unfold tcpOk; infer_instance
def ht (s : ByteArray) : Nat := be (bl (s.extract 12 13)) / 16 * 4
def tcpErr (s : ByteArray) : Int :=
  if s.size < 20 then 2 else if 20 ≤ ht s ∧ ht s ≤ s.size then (if be (bl (s.extract 12 13)) % 16 = 0 then (if rightO (bl (s.extract 20 (ht s))) = true then 0 else 4) else 9) else 4
def tcp_Get.f (s : ByteArray) : Option (Int × Int × Int × Int × Int × Int × Int × ByteArray × ByteArray × Int × Int) :=
  if s.size ≤ 140737488351232 then some (if tcpErr s = 0 then (((be (bl (s.extract 0 2)) : Nat) : Int), ((be (bl (s.extract 2 4)) : Nat) : Int), ((be (bl (s.extract 4 8)) : Nat) : Int), ((be (bl (s.extract 8 12)) : Nat) : Int), ((be (bl (s.extract 13 14)) : Nat) : Int), ((be (bl (s.extract 14 16)) : Nat) : Int), ((be (bl (s.extract 18 20)) : Nat) : Int), s.extract 20 (ht s), s.extract (ht s) s.size, ((be (bl (s.extract 16 18)) : Nat) : Int), 0) else (0, 0, 0, 0, 0, 0, 0, ⟨#[]⟩, ⟨#[]⟩, 0, tcpErr s)) else none
end Go.Proofs.Ytcmalglippmocaa.G
end

section
namespace Go.Proofs.Ytcmalglippmocaa.Pure
open Go.RowKit Go.Proofs.YtcmalglippmocaaW.PrintWords Go.Proofs.YtcmalglippmocaaW.PrintLast Go.Proofs.Ytcmalglippmocaa.G Go.Proofs.Ytcmalglippmocaa.Pal
theorem errT_zero {s : ByteArray} (h : tcpErr s = 0) : 20 ≤ s.size ∧ (20 ≤ ht s ∧ ht s ≤ s.size) ∧ be (bl (s.extract 12 13)) % 16 = 0 ∧ rightO (bl (s.extract 20 (ht s))) = true := by
  unfold tcpErr at h
  by_cases h1 : s.size < 20
  · rw [if_pos h1] at h; exact absurd h (by decide)
  rw [if_neg h1] at h
  by_cases h2 : 20 ≤ ht s ∧ ht s ≤ s.size
  case neg => rw [if_neg h2] at h; exact absurd h (by decide)
  rw [if_pos h2] at h
  by_cases h3 : be (bl (s.extract 12 13)) % 16 = 0
  case neg => rw [if_neg h3] at h; exact absurd h (by decide)
  rw [if_pos h3] at h
  by_cases h4 : rightO (bl (s.extract 20 (ht s))) = true
  case neg => rw [if_neg h4] at h; exact absurd h (by decide)
  exact ⟨by omega, h2, h3, h4⟩
theorem getT_is {s : ByteArray} (hs : s.size ≤ 140737488351232) : tcp_Get.f s = some (if tcpErr s = 0 then (((be (bl (s.extract 0 2)) : Nat) : Int), ((be (bl (s.extract 2 4)) : Nat) : Int), ((be (bl (s.extract 4 8)) : Nat) : Int), ((be (bl (s.extract 8 12)) : Nat) : Int), ((be (bl (s.extract 13 14)) : Nat) : Int), ((be (bl (s.extract 14 16)) : Nat) : Int), ((be (bl (s.extract 18 20)) : Nat) : Int), s.extract 20 (ht s), s.extract (ht s) s.size, ((be (bl (s.extract 16 18)) : Nat) : Int), 0) else (0, 0, 0, 0, 0, 0, 0, ⟨#[]⟩, ⟨#[]⟩, 0, tcpErr s)) := by
  unfold tcp_Get.f; rw [if_pos hs]
end Go.Proofs.Ytcmalglippmocaa.Pure
end

section
namespace Go.Proofs.Ytcmalglippmocaa.G
open Go.RowKit Go.Proofs.YtcmalglippmocaaW.PrintWords Go.Proofs.YtcmalglippmocaaW.PrintLast Go.Proofs.YtcmalglippmocaaW.PrintMore Go.Proofs.Ytcmalglippmocaa.Pal
abbrev seg0 : Value := .agg #[.int .i64 0, .int .i64 0, .int .u32 0, .int .u32 0, .int .i64 0, .int .i64 0, .int .i64 0, .string ⟨#[]⟩, .string ⟨#[]⟩]
set_option maxHeartbeats 4000000 in
set_option maxRecDepth 100000 in
theorem ref07_short (s : ByteArray) (hs : s.size < 20) (w : World) :
    Calls Try.prog 30 #[.string s] w fun e w' => e = .returned (.tuple #[seg0, .int .i64 0, .int .i64 2]) ∧ Below w.heap.size w w' := by
  have d1 : decide ((s.size : Int) < 20) = true := decide_eq_true (by omega)
  have d2 : decide (s.size < 20) = true := decide_eq_true hs
  clear hs
  go_enter Try.func30, Try.ntmps30
  go_wp2
  exact bodyPost_ret (v := .tuple #[seg0, .int .i64 0, .int .i64 2]) (by simp [results, Try.results30, go_sem]) rfl ⟨rfl, ((Below.refl _ _).alloc (Nat.le_refl _) _).alloc (by simp) _⟩

theorem byte12 (s : ByteArray) (h : 12 < s.size) : (s[12]'h).toNat = be (bl (s.extract 12 13)) := by
  have e : bl (s.extract 12 13) = [s[12]'h] := by
    have : bl (s.extract 12 13) = ((bl s).take 13).drop 12 := by simp [bl, ByteArray.data_extract, List.drop_take]
    rw [this, List.drop_take, List.drop_eq_getElem_cons (by rw [bl_length]; exact h)]
    rfl
  rw [e]
  simp [be]
def two07 (s : ByteArray) (j : Nat) : Int := ((be (bl (s.extract (2 * j) (2 * j + 2))) : Nat) : Int)
def row07 (s : ByteArray) (i : Nat) : Array Value := ((List.range 10).map fun j => Value.int .i64 (if j < i then two07 s j else 0)).toArray
theorem arith07 (a b : Int) (ha : 0 ≤ a ∧ a < 65536) (hb : 0 ≤ b ∧ b < 65536) : IntKind.i64.wrap (a * 65536) = a * 65536 ∧ IntKind.i64.wrap (a * 65536 + b) = a * 65536 + b ∧ wrap64 (a * 65536) = a * 65536 ∧ wrap64 (a * 65536 + b) = a * 65536 + b ∧ IntKind.u32.wrap (a * 65536 + b) = a * 65536 + b ∧ (a * 65536 + b) % 4294967296 = a * 65536 + b := by
  refine ⟨by rw [IntKind.wrap_i64]; omega, by rw [IntKind.wrap_i64]; omega, by unfold wrap64; omega, by unfold wrap64; omega, wraps_u32 _ (by omega) (by omega), by omega⟩
theorem arith07b (a : Int) (ha : 0 ≤ a ∧ a < 65536) : Int.tmod a 256 = a % 256 ∧ IntKind.i64.wrap (a % 256) = a % 256 :=
  ⟨Int.tmod_eq_emod_of_nonneg ha.1, by rw [IntKind.wrap_i64]; omega⟩
theorem row07_set (s : ByteArray) (i : Nat) (hi : i < 10) : (row07 s i).setIfInBounds i (.int .i64 (two07 s i)) = row07 s (i + 1) := by
  have : i = 0 ∨ i = 1 ∨ i = 2 ∨ i = 3 ∨ i = 4 ∨ i = 5 ∨ i = 6 ∨ i = 7 ∨ i = 8 ∨ i = 9 := by omega
  rcases this with rfl | rfl | rfl | rfl | rfl | rfl | rfl | rfl | rfl | rfl <;> simp [row07, List.range_succ]
theorem two07_lt (s : ByteArray) (j : Nat) : 0 ≤ two07 s j ∧ two07 s j < 65536 := by
  have := be_lt_of (bl (s.extract (2 * j) (2 * j + 2))) 2 (by rw [bl_length]; simp only [ByteArray.size_extract]; omega)
  unfold two07
  have e : (256 : Nat) ^ 2 = 65536 := by decide
  omega
theorem nine_put {W : World} {B : Nat} {T : TypeId} {c0 c1 c2 c3 c4 c5 c6 c7 c8 v0 v1 v2 v3 v4 v5 v6 v7 v8 : Value} (h : W.heap[B]? = some (.cells #[c0, c1, c2, c3, c4, c5, c6, c7, c8] T (0, 0))) :
    Blk (((((((((W.setCell ⟨B, 0, none⟩ v0).setCell ⟨B, 1, none⟩ v1).setCell ⟨B, 2, none⟩ v2).setCell ⟨B, 3, none⟩ v3).setCell ⟨B, 4, none⟩ v4).setCell ⟨B, 5, none⟩ v5).setCell ⟨B, 6, none⟩ v6).setCell ⟨B, 7, none⟩ v7).setCell ⟨B, 8, none⟩ v8) B T #[v0, v1, v2, v3, v4, v5, v6, v7, v8] :=
  blk_put (cs := #[v0, v1, v2, v3, v4, v5, v6, v7, c8]) (blk_put (cs := #[v0, v1, v2, v3, v4, v5, v6, c7, c8]) (blk_put (cs := #[v0, v1, v2, v3, v4, v5, c6, c7, c8]) (blk_put (cs := #[v0, v1, v2, v3, v4, c5, c6, c7, c8]) (blk_put (cs := #[v0, v1, v2, v3, c4, c5, c6, c7, c8]) (blk_put (cs := #[v0, v1, v2, c3, c4, c5, c6, c7, c8]) (blk_put (cs := #[v0, v1, c2, c3, c4, c5, c6, c7, c8]) (blk_put (cs := #[v0, c1, c2, c3, c4, c5, c6, c7, c8]) (blk_put (cs := #[c0, c1, c2, c3, c4, c5, c6, c7, c8]) h 0 v0 rfl) 1 v1 rfl) 2 v2 rfl) 3 v3 rfl) 4 v4 rfl) 5 v5 rfl) 6 v6 rfl) 7 v7 rfl) 8 v8 rfl
theorem nine_far {W : World} {B g : Nat} {T : TypeId} {cs : Array Value} {v0 v1 v2 v3 v4 v5 v6 v7 v8 : Value} (h : Blk W g T cs) (hg : g ≠ B) :
    Blk (((((((((W.setCell ⟨B, 0, none⟩ v0).setCell ⟨B, 1, none⟩ v1).setCell ⟨B, 2, none⟩ v2).setCell ⟨B, 3, none⟩ v3).setCell ⟨B, 4, none⟩ v4).setCell ⟨B, 5, none⟩ v5).setCell ⟨B, 6, none⟩ v6).setCell ⟨B, 7, none⟩ v7).setCell ⟨B, 8, none⟩ v8) g T cs :=
  blk_far (blk_far (blk_far (blk_far (blk_far (blk_far (blk_far (blk_far (blk_far h hg _) hg _) hg _) hg _) hg _) hg _) hg _) hg _) hg _
theorem nine_below {w W : World} {B : Nat} {v0 v1 v2 v3 v4 v5 v6 v7 v8 : Value} (h : Below w.heap.size w W) (hg : w.heap.size ≤ B) :
    Below w.heap.size w (((((((((W.setCell ⟨B, 0, none⟩ v0).setCell ⟨B, 1, none⟩ v1).setCell ⟨B, 2, none⟩ v2).setCell ⟨B, 3, none⟩ v3).setCell ⟨B, 4, none⟩ v4).setCell ⟨B, 5, none⟩ v5).setCell ⟨B, 6, none⟩ v6).setCell ⟨B, 7, none⟩ v7).setCell ⟨B, 8, none⟩ v8) :=
  below_set (below_set (below_set (below_set (below_set (below_set (below_set (below_set (below_set h hg) hg) hg) hg) hg) hg) hg) hg) hg
def ref07T : Bool × List (List Nat × List Nat) := (true, [([], []), ([0], [0]), ([1], [1]), ([], []), ([3], [3]), ([4], [4]), ([], []), ([6], [6]), ([7], [7]), ([8], [8]), ([], []), ([10], [10]), ([11], [11]), ([9, 12], [9, 12]), ([13], [13]), ([], []), ([15], [15]), ([16], [16]), ([17], [17]), ([], []), ([19], [19]), ([20], [20]), ([18, 21], [18, 21]), ([22], [22]), ([], []), ([24], [24]), ([25], [25]), ([26], [26]), ([], []), ([28], [28]), ([29], [29]), ([], []), ([31], [31]), ([32], [32]), ([], []), ([], []), ([34, 35], [34, 35]), ([], []), ([], []), ([37, 38], [37, 38]), ([2, 5, 14, 23, 27, 30, 33, 36, 39], [2, 5, 14, 23, 27, 30, 33, 36, 39]), ([], []), ([41], [41]), ([42], [42]), ([40, 0, 1, 2, 3, 4, 5, 6, 7, 8, 9, 10, 11, 12, 13, 14, 15, 16, 17, 18, 19, 20, 21, 22, 23, 24, 25, 26, 27, 28, 29, 30, 31, 32, 33, 34, 35, 36, 37, 38, 39, 40], [40]), ([43, 44, 0, 1, 2, 3, 4, 5, 6, 7, 8, 9, 10, 11, 12, 13, 14, 15, 16, 17, 18, 19, 20, 21, 22, 23, 24, 25, 26, 27, 28, 29, 30, 31, 32, 33, 34, 35, 36, 37, 38, 39, 40, 41, 42, 43, 44], [43]), ([45, 0, 1, 2, 3, 4, 5, 6, 7, 8, 9, 10, 11, 12, 13, 14, 15, 16, 17, 18, 19, 20, 21, 22, 23, 24, 25, 26, 27, 28, 29, 30, 31, 32, 33, 34, 35, 36, 37, 38, 39, 40, 41, 42, 43, 44, 45], [])])
def ref07B : List Nat := [0, 1, 3, 0, 8, 24, 0, 64, 192, 448, 0, 1024, 3072, 8128, 16320, 0, 32768, 98304, 229376, 0, 524288, 1572864, 4161536, 8355840, 0, 16777216, 50331648, 117440512, 0, 268435456, 805306368, 0, 2147483648, 6442450944, 0, 0, 51539607552, 0, 0, 412316860416, 1099511627775, 0, 2199023255552, 6597069766656, 2199023255551, 35184372088831, 70368744177663]
theorem ref07tab : rtab .any (opsOf Try.f30 17) = ref07T := by kernel_rfl
theorem ref07bits : waitsOk ref07T.2 ref07B = true := by kernel_rfl
theorem make10 (s : ByteArray) (wz : World) : (Instr.makeSlice 106 (.int .i64 10) (.int .i64 10)).run Try.prog wz = Result.ok (Value.slice (some ⟨wz.heap.size, 0, none⟩) 10 10) (wz.alloc (.cells (row07 s 0) 3)) := by
  obtain ⟨i0, hi, hz0, hz1, hz2⟩ := info_parts info3
  have h := run_makeSlice (P := Try.prog) wz 106 3 i0 (.int .i64 0) Try.underlying106 hi hz0 .i64 .i64 10 10 (by decide) (by decide) (by rw [hz1]; decide) (by rw [hz2]; decide) (by decide)
  rw [hz1] at h
  have e : madeCells (Value.int .i64 0).cells ((10 : Int).toNat * 1) = row07 s 0 := by
    apply Array.ext
    · simp [madeCells, row07]
    · intro i h1 h2
      simp [madeCells, row07, Value.cells, Nat.mod_one]
  rw [e] at h
  exact h
abbrev ended07 (er : Int) (w : World) : Ending → World → Prop := fun e w' => e = .returned (.tuple #[seg0, .int .i64 0, .int .i64 er]) ∧ Below w.heap.size w w'
set_option maxHeartbeats 4000000 in
set_option maxRecDepth 100000 in
theorem ref07_long (s : ByteArray) (h20 : 20 ≤ s.size) (hs : s.size ≤ 1000000) (n b : Nat) (hb : b = be (bl (s.extract 12 13))) (hn : n = b / 16 * 4) (ok : Bool) (hok : rightO (bl (s.extract 20 n)) = ok) (w : World) :
    Calls Try.prog 30 #[.string s] w fun e w' => (if n < 20 ∨ s.size < n then ended07 4 w e w' else if b % 16 = 0 then (if ok = true then (e = .returned (.tuple #[.agg #[.int .i64 (two07 s 0), .int .i64 (two07 s 1), .int .u32 (two07 s 2 * 65536 + two07 s 3), .int .u32 (two07 s 4 * 65536 + two07 s 5), .int .i64 (two07 s 6 % 256), .int .i64 (two07 s 7), .int .i64 (two07 s 9), .string (s.extract 20 n), .string (s.extract n s.size)], .int .i64 (two07 s 8), .int .i64 0]) ∧ Below w.heap.size w w') else ended07 4 w e w') else ended07 9 w e w') := by
  have d1 : decide ((s.size : Int) < 20) = false := decide_eq_false (by omega)
  have d2 : decide (s.size < 20) = false := decide_eq_false (by omega)
  have i12 : (12 : Int) < (s.size : Int) := by omega
  have j12 : 12 < s.size := by omega
  have x12 : s[12].toNat = b := by rw [hb]; exact byte12 s j12
  have hb256 : b < 256 := by rw [hb]; exact be_lt_of (bl (s.extract 12 13)) 1 (by rw [bl_length]; simp only [ByteArray.size_extract]; omega)
  have e1 : (b : Int) / 16 * 4 = (n : Int) := by omega
  have HS := Aside0.mk (show 20 ≤ s.size ∧ s.size ≤ 1000000 ∧ n ≤ 60 from ⟨h20, hs, by omega⟩)
  clear hb hn h20 hs
  have HOK := Aside0.mk hok
  clear hok
  by_cases c1 : n < 20
  · have q1 : decide ((n : Int) < 20) = true := decide_eq_true (by omega)
    have q2 : decide (n < 20) = true := decide_eq_true c1
    simp only [if_pos (Or.inl c1 : n < 20 ∨ s.size < n)]
    clear c1
    go_enter Try.func30, Try.ntmps30
    go_wp2
    exact bodyPost_ret (v := .tuple #[seg0, .int .i64 0, .int .i64 4]) (by simp [results, Try.results30, go_sem]) rfl ⟨rfl, ((Below.refl _ _).alloc (Nat.le_refl _) _).alloc (by simp) _⟩
  have q1 : decide ((n : Int) < 20) = false := decide_eq_false (by omega)
  have q2 : decide (n < 20) = false := decide_eq_false c1
  by_cases c2 : s.size < n
  · have q3 : decide ((s.size : Int) < (n : Int)) = true := decide_eq_true (by omega)
    have q4 : decide (s.size < n) = true := decide_eq_true c2
    simp only [if_pos (Or.inr c2 : n < 20 ∨ s.size < n)]
    clear c1 c2
    go_enter Try.func30, Try.ntmps30
    go_wp2
    exact bodyPost_ret (v := .tuple #[seg0, .int .i64 0, .int .i64 4]) (by simp [results, Try.results30, go_sem]) rfl ⟨rfl, ((Below.refl _ _).alloc (Nat.le_refl _) _).alloc (by simp) _⟩
  have q3 : decide ((s.size : Int) < (n : Int)) = false := decide_eq_false (by omega)
  have q4 : decide (s.size < n) = false := decide_eq_false c2
  simp only [if_neg (fun h => Or.elim h c1 c2 : ¬ (n < 20 ∨ s.size < n))]
  have HN := Aside0.mk (show 20 ≤ n ∧ n ≤ s.size by omega)
  have l1 : (20 : Int) ≤ (n : Int) := by omega
  have l2 : 20 ≤ n := by omega
  have l3 : (n : Int) ≤ (s.size : Int) := by omega
  have l4 : n ≤ s.size := by omega
  clear c1 c2
  by_cases c3 : b % 16 = 0
  case neg =>
    have r1 : ((b : Int) % 16 != 0) = true := by rw [bne_iff_ne]; omega
    have r2 : (b % 16 != 0) = true := by rw [bne_iff_ne]; exact c3
    simp only [if_neg c3]
    clear c3
    go_enter Try.func30, Try.ntmps30
    go_wp2
    exact bodyPost_ret (v := .tuple #[seg0, .int .i64 0, .int .i64 9]) (by simp [results, Try.results30, go_sem]) rfl ⟨rfl, ((Below.refl _ _).alloc (Nat.le_refl _) _).alloc (by simp) _⟩
  have r1 : ((b : Int) % 16 != 0) = false := by rw [bne_eq_false_iff_eq]; omega
  have r2 : (b % 16 != 0) = false := by rw [bne_eq_false_iff_eq]; exact c3
  simp only [if_pos c3]
  clear c3
  have hw := Pure.walk07_is (s.extract 20 n) (2 * (s.extract 20 n).size + 2) (by simp only [ByteArray.size_extract]; omega) (Nat.le_refl _)
  have hw2 := Pure.walkR_snd (s.extract 20 n)
  obtain ⟨wl, hwl⟩ : ∃ wl, wl = (Pure.walkR (s.extract 20 n)).1 := ⟨_, rfl⟩
  rw [show Pure.walkR (s.extract 20 n) = (wl, ok) from Prod.ext hwl.symm (hw2.trans HOK.out)] at hw
  have HW := Aside0.mk hw
  clear hw hw2 hwl HOK
  go_enter Try.func30, Try.ntmps30
  go_wp2_with fail
  refine (palanquinref07_Walk.calls _ _ _ _ _ HW.out).mono ?_
  rintro e w2 ⟨v0, rfl, _, g1⟩
  have b0 := Blk.new (w.alloc (.cells #[.int .i64 0, .int .i64 0, .int .u32 0, .int .u32 0, .int .i64 0, .int .i64 0, .int .i64 0, .string ⟨#[]⟩, .string ⟨#[]⟩] 69)) 69 #[.int .i64 0, .int .i64 0, .int .u32 0, .int .u32 0, .int .i64 0, .int .i64 0, .int .i64 0, .string ⟨#[]⟩, .string ⟨#[]⟩]
  rw [World.size_alloc] at b0
  have HK0 := Aside0.mk (Blk.below ((Blk.new w 69 #[.int .i64 0, .int .i64 0, .int .u32 0, .int .u32 0, .int .i64 0, .int .i64 0, .int .i64 0, .string ⟨#[]⟩, .string ⟨#[]⟩]).alloc (.cells #[.int .i64 0, .int .i64 0, .int .u32 0, .int .u32 0, .int .i64 0, .int .i64 0, .int .i64 0, .string ⟨#[]⟩, .string ⟨#[]⟩] 69)) g1 (by first | (simp; done) | (simp; omega)))
  have HK1 := Aside0.mk (Blk.below b0 g1 (by first | (simp; done) | (simp; omega)))
  have HB := Aside0.mk ((((Below.refl w.heap.size w).alloc (Nat.le_refl _) (.cells #[.int .i64 0, .int .i64 0, .int .u32 0, .int .u32 0, .int .i64 0, .int .i64 0, .int .i64 0, .string ⟨#[]⟩, .string ⟨#[]⟩] 69)).alloc (by simp) (.cells #[.int .i64 0, .int .i64 0, .int .u32 0, .int .u32 0, .int .i64 0, .int .i64 0, .int .i64 0, .string ⟨#[]⟩, .string ⟨#[]⟩] 69)).trans (g1.mono (by simp; omega)))
  have HZ := Aside0.mk (show w.heap.size + 2 ≤ w2.heap.size by have := g1.size; simp at this; omega)
  clear g1 b0
  cases ok
  case false =>
    have k0 := HK0.out.cells
    have k1 := HK1.out.cells
    have z0 := HK0.out.free
    go_wp2
    clear k0 k1 z0
    have HF := Aside0.mk (nine_put (v0 := .int .i64 0) (v1 := .int .i64 0) (v2 := .int .u32 0) (v3 := .int .u32 0) (v4 := .int .i64 0) (v5 := .int .i64 0) (v6 := .int .i64 0) (v7 := .string ⟨#[]⟩) (v8 := .string ⟨#[]⟩) HK0.out)
    replace HB := Aside0.mk (nine_below (v0 := .int .i64 0) (v1 := .int .i64 0) (v2 := .int .u32 0) (v3 := .int .u32 0) (v4 := .int .i64 0) (v5 := .int .i64 0) (v6 := .int .i64 0) (v7 := .string ⟨#[]⟩) (v8 := .string ⟨#[]⟩) HB.out (Nat.le_refl _))
    generalize (((((((((w2.setCell ⟨w.heap.size, 0, none⟩ (.int .i64 0)).setCell ⟨w.heap.size, 1, none⟩ (.int .i64 0)).setCell ⟨w.heap.size, 2, none⟩ (.int .u32 0)).setCell ⟨w.heap.size, 3, none⟩ (.int .u32 0)).setCell ⟨w.heap.size, 4, none⟩ (.int .i64 0)).setCell ⟨w.heap.size, 5, none⟩ (.int .i64 0)).setCell ⟨w.heap.size, 6, none⟩ (.int .i64 0)).setCell ⟨w.heap.size, 7, none⟩ (.string ⟨#[]⟩)).setCell ⟨w.heap.size, 8, none⟩ (.string ⟨#[]⟩)) = wf at HF HB ⊢
    have kf := HF.out.cells
    exact bodyPost_ret (v := .tuple #[seg0, .int .i64 0, .int .i64 4]) (by simp [results, Try.results30, go_sem, kf]) rfl ⟨rfl, HB.out⟩
  case true =>
    have hmk := make10 s w2
    go_wp2
    clear hmk
    replace HK0 := Aside0.mk (HK0.out.alloc (.cells (row07 s 0) 3))
    replace HK1 := Aside0.mk (HK1.out.alloc (.cells (row07 s 0) 3))
    replace HB := Aside0.mk (HB.out.alloc HB.out.size (.cells (row07 s 0) 3))
    have HR := Aside0.mk (Blk.new w2 3 (row07 s 0))
    generalize w2.alloc (.cells (row07 s 0) 3) = w3 at HK0 HK1 HB HR ⊢
    obtain ⟨B, hB⟩ : ∃ B, B = w2.heap.size := ⟨_, rfl⟩
    have HBz := Aside0.mk (show w.heap.size + 2 ≤ B by rw [hB]; exact HZ.out)
    rw [← hB] at HR ⊢
    clear hB HZ
    go_loopg [10] 10 (fun kq v10 wr => ∃ i : Nat, v10 = .int .i64 (i : Int) ∧ Aside0 (i + kq = 10) ∧ Aside0 (Blk wr B 3 (row07 s i)) ∧ Aside0 (Blk wr w.heap.size 69 #[.int .i64 0, .int .i64 0, .int .u32 0, .int .u32 0, .int .i64 0, .int .i64 0, .int .i64 0, .string ⟨#[]⟩, .string ⟨#[]⟩]) ∧ Aside0 (Blk wr (w.heap.size + 1) 69 #[.int .i64 0, .int .i64 0, .int .u32 0, .int .u32 0, .int .i64 0, .int .i64 0, .int .i64 0, .string ⟨#[]⟩, .string ⟨#[]⟩]) ∧ Aside0 (Below w.heap.size w wr))
    case atStart => exact ⟨0, rfl, ⟨rfl⟩, HR, HK0, HK1, HB⟩
    case round =>
      obtain ⟨i, rfl, HI, HR, HK0, HK1, HB⟩ := hrel
      by_cases hlt : i < 10
      · have q1 : decide ((i : Int) < 10) = true := decide_eq_true (by omega)
        have q2 : decide (i < 10) = true := decide_eq_true hlt
        have hi0 : (0 : Int) ≤ (i : Int) ∧ (i : Int) < 10 := by omega
        obtain ⟨p, hp⟩ : ∃ p, p = 2 * i := ⟨_, rfl⟩
        have p1 : 2 * (i : Int) = (p : Int) := by omega
        obtain ⟨z, hz⟩ : ∃ z, z = p + 2 := ⟨_, rfl⟩
        have p2 : (p : Int) + 2 = (z : Int) := by omega
        have p3 : (0 : Int) ≤ (p : Int) ∧ (p : Int) ≤ (z : Int) ∧ (z : Int) ≤ (s.size : Int) := by have := HS.out; omega
        have p4 : p ≤ z := by omega
        have p5 : z ≤ s.size := by have := HS.out; omega
        have hz2 : (s.extract p z).size = 2 := by simp only [ByteArray.size_extract]; have := HS.out; omega
        have HV := Aside0.mk (show palanquinref01_Value.f 3 (s.extract p z) = some (two07 s i) by
          rw [Pure.value_is _ (by rw [hz2]; decide) 3 (by rw [hz2]; decide)]; unfold two07; rw [hz, hp])
        have hv := two07_lt s i
        have hv2 : wrap64 (two07 s i) = two07 s i := by unfold wrap64; omega
        have HP := Aside0.mk hp
        clear hp hz2 hz
        go_wp2_with fail
        refine (palanquinref01_Value.calls 3 _ _ _ HV.out).mono ?_
        rintro e w' ⟨rfl, ⟨nd, rfl⟩⟩
        have hc := HR.out.cells i
        have hc2 : (row07 s i)[i]? = some (.int .i64 0) := by simp [row07, hlt]
        rw [hc2] at hc
        have hf := HR.out.free i
        have i10 : i < 10 := hlt
        clear p1 p2 p3 p4 p5
        have hw1 : wrap64 ((i : Int) + 1) = ((i + 1 : Nat) : Int) := by unfold wrap64; omega
        clear hc2
        go_wp2
        go_roundg (10 - (i + 1))
        case measure => have := HI.out; omega
        case rel =>
          have hR : Blk ((wr.drewN nd).setCell ⟨B, i, none⟩ (.int .i64 (two07 s i))) B 3 (row07 s (i + 1)) := blk_put (blk_drewN HR.out nd) i (.int .i64 (two07 s i)) (row07_set s i i10)
          refine ⟨i + 1, by first | rfl | exact congrArg (Value.int .i64) hw1 | (rw [← hw1]; rfl), ⟨by have := HI.out; omega⟩, ⟨?_⟩, ⟨?_⟩, ⟨?_⟩, ⟨?_⟩⟩
          · exact hR
          · exact blk_far (blk_drewN HK0.out nd) (by have := HBz.out; show w.heap.size ≠ B; omega) _
          · exact blk_far (blk_drewN HK1.out nd) (by have := HBz.out; show w.heap.size + 1 ≠ B; omega) _
          · exact below_set (pw_below_drewN HB.out nd) (by have := HBz.out; omega)
      · obtain rfl : i = 10 := by have := HI.out; omega
        have q1 : decide (((10 : Nat) : Int) < 10) = false := by decide
        have hv0 := two07_lt s 0
        have hv1 := two07_lt s 1
        have hv2 := two07_lt s 2
        have hv3 := two07_lt s 3
        have hv4 := two07_lt s 4
        have hv5 := two07_lt s 5
        have hv6 := two07_lt s 6
        obtain ⟨m2, m3, n2, n3, u3, w3'⟩ := arith07 _ _ hv2 hv3
        obtain ⟨m4, m5, n4, n5, u5, w5'⟩ := arith07 _ _ hv4 hv5
        obtain ⟨t6, y6⟩ := arith07b _ hv6
        clear hv0 hv1 hv2 hv3 hv4 hv5 hv6
        have cell := HR.out.cells
        have v0c : wr.cell? ⟨B, 0, none⟩ = some (.int .i64 (two07 s 0)) := (cell 0).trans (by simp [row07])
        have v1c : wr.cell? ⟨B, 1, none⟩ = some (.int .i64 (two07 s 1)) := (cell 1).trans (by simp [row07])
        have v2c : wr.cell? ⟨B, 2, none⟩ = some (.int .i64 (two07 s 2)) := (cell 2).trans (by simp [row07])
        have v3c : wr.cell? ⟨B, 3, none⟩ = some (.int .i64 (two07 s 3)) := (cell 3).trans (by simp [row07])
        have v4c : wr.cell? ⟨B, 4, none⟩ = some (.int .i64 (two07 s 4)) := (cell 4).trans (by simp [row07])
        have v5c : wr.cell? ⟨B, 5, none⟩ = some (.int .i64 (two07 s 5)) := (cell 5).trans (by simp [row07])
        have v6c : wr.cell? ⟨B, 6, none⟩ = some (.int .i64 (two07 s 6)) := (cell 6).trans (by simp [row07])
        have v7c : wr.cell? ⟨B, 7, none⟩ = some (.int .i64 (two07 s 7)) := (cell 7).trans (by simp [row07])
        have v8c : wr.cell? ⟨B, 8, none⟩ = some (.int .i64 (two07 s 8)) := (cell 8).trans (by simp [row07])
        have v9c : wr.cell? ⟨B, 9, none⟩ = some (.int .i64 (two07 s 9)) := (cell 9).trans (by simp [row07])
        clear cell
        go_wp2
        have hRB := HR.out
        have hRK := HK0.out
        have hB57 := HB.out.drew
        refine start_ (n := 47) (S := fun w' => w'.cell? ⟨B, 0, none⟩ = some (.int .i64 (two07 s 0)) ∧ w'.cell? ⟨B, 1, none⟩ = some (.int .i64 (two07 s 1)) ∧ w'.cell? ⟨B, 2, none⟩ = some (.int .i64 (two07 s 2)) ∧ w'.cell? ⟨B, 3, none⟩ = some (.int .i64 (two07 s 3)) ∧ w'.cell? ⟨B, 4, none⟩ = some (.int .i64 (two07 s 4)) ∧ w'.cell? ⟨B, 5, none⟩ = some (.int .i64 (two07 s 5)) ∧ w'.cell? ⟨B, 6, none⟩ = some (.int .i64 (two07 s 6)) ∧ w'.cell? ⟨B, 7, none⟩ = some (.int .i64 (two07 s 7)) ∧ w'.cell? ⟨B, 9, none⟩ = some (.int .i64 (two07 s 9)) ∧ w'.cell? ⟨B, 8, none⟩ = some (.int .i64 (two07 s 8))) (ds := []) #[false, false, false, false, false, false, false, false, false, false, false, false, false, false, false, false, false, false, false, false, false, false, false, false, false, false, false, false, false, false, false, false, false, false, false, false, false, false, false, false, false, false, false, false, false, false, false] (by kernel_rfl) rfl rfl ⟨v0c, v1c, v2c, v3c, v4c, v5c, v6c, v7c, v9c, v8c⟩ (fun hHeld => ?_); refine with_tabW ref07tab ref07bits (fun HT_ HW_ => ?_)
        change Blk wr.drew B _ _ at hRB
        change Blk wr.drew w.heap.size _ _ at hRK
        generalize wr.drew = w57 at hRB hRK hB57 v0c v1c v2c v3c v4c v5c v6c v7c v8c v9c hHeld ⊢
        refine pure_ (i := 0) (N := some 62) (v := ?_) (a' := ?_) #[true, false, false, false, false, false, false, false, false, false, false, false, false, false, false, false, false, false, false, false, false, false, false, false, false, false, false, false, false, false, false, false, false, false, false, false, false, false, false, false, false, false, false, false, false, false, false] rfl rfl (any_of HT_.out (by kernel_rfl)) (fun _ _ _ h => h) (Or.inl ⟨by rfl, ?_⟩) ?_ ?_
        rotate_left
        · intro w'
          go_simp
          with_reducible rfl
        rotate_left
        · simp only [Act.put, List.setIfInBounds_toArray, List.set_cons_zero, List.set_cons_succ, i64_w, i32_w]
          rfl
        refine pure_ (i := 1) (N := some 63) (v := ?_) (a' := ?_) #[true, true, false, false, false, false, false, false, false, false, false, false, false, false, false, false, false, false, false, false, false, false, false, false, false, false, false, false, false, false, false, false, false, false, false, false, false, false, false, false, false, false, false, false, false, false, false] rfl rfl (any_of HT_.out (by kernel_rfl)) (fun _ _ _ h => h) (Or.inl ⟨by rfl, ?_⟩) ?_ ?_
        rotate_left
        · intro w'
          go_simp
          with_reducible rfl
        rotate_left
        · simp only [Act.put, List.setIfInBounds_toArray, List.set_cons_zero, List.set_cons_succ, i64_w, i32_w]
          rfl
        refine pure_ (i := 3) (N := some 65) (v := ?_) (a' := ?_) #[true, true, false, true, false, false, false, false, false, false, false, false, false, false, false, false, false, false, false, false, false, false, false, false, false, false, false, false, false, false, false, false, false, false, false, false, false, false, false, false, false, false, false, false, false, false, false] rfl rfl (any_of HT_.out (by kernel_rfl)) (fun _ _ _ h => h) (Or.inl ⟨by rfl, ?_⟩) ?_ ?_
        rotate_left
        · intro w'
          go_simp
          with_reducible rfl
        rotate_left
        · simp only [Act.put, List.setIfInBounds_toArray, List.set_cons_zero, List.set_cons_succ, i64_w, i32_w]
          rfl
        refine pure_ (i := 4) (N := some 66) (v := ?_) (a' := ?_) #[true, true, false, true, true, false, false, false, false, false, false, false, false, false, false, false, false, false, false, false, false, false, false, false, false, false, false, false, false, false, false, false, false, false, false, false, false, false, false, false, false, false, false, false, false, false, false] rfl rfl (any_of HT_.out (by kernel_rfl)) (fun _ _ _ h => h) (Or.inl ⟨by rfl, ?_⟩) ?_ ?_
        rotate_left
        · intro w'
          go_simp
          with_reducible rfl
        rotate_left
        · simp only [Act.put, List.setIfInBounds_toArray, List.set_cons_zero, List.set_cons_succ, i64_w, i32_w]
          rfl
        refine pure_ (i := 6) (N := some 68) (v := ?_) (a' := ?_) #[true, true, false, true, true, false, true, false, false, false, false, false, false, false, false, false, false, false, false, false, false, false, false, false, false, false, false, false, false, false, false, false, false, false, false, false, false, false, false, false, false, false, false, false, false, false, false] rfl rfl (any_of HT_.out (by kernel_rfl)) (fun _ _ _ h => h) (Or.inl ⟨by rfl, ?_⟩) ?_ ?_
        rotate_left
        · intro w'
          go_simp
          with_reducible rfl
        rotate_left
        · simp only [Act.put, List.setIfInBounds_toArray, List.set_cons_zero, List.set_cons_succ, i64_w, i32_w]
          rfl
        refine pure_ (i := 7) (N := some 69) (v := ?_) (a' := ?_) #[true, true, false, true, true, false, true, true, false, false, false, false, false, false, false, false, false, false, false, false, false, false, false, false, false, false, false, false, false, false, false, false, false, false, false, false, false, false, false, false, false, false, false, false, false, false, false] rfl rfl (any_of HT_.out (by kernel_rfl)) (fun _ _ _ h => h) (Or.inl ⟨by rfl, ?_⟩) ?_ ?_
        rotate_left
        · intro w'
          go_simp
          with_reducible rfl
        rotate_left
        · simp only [Act.put, List.setIfInBounds_toArray, List.set_cons_zero, List.set_cons_succ, i64_w, i32_w]
          rfl
        refine pure_ (i := 10) (N := some 72) (v := ?_) (a' := ?_) #[true, true, false, true, true, false, true, true, false, false, true, false, false, false, false, false, false, false, false, false, false, false, false, false, false, false, false, false, false, false, false, false, false, false, false, false, false, false, false, false, false, false, false, false, false, false, false] rfl rfl (any_of HT_.out (by kernel_rfl)) (fun _ _ _ h => h) (Or.inl ⟨by rfl, ?_⟩) ?_ ?_
        rotate_left
        · intro w'
          go_simp
          with_reducible rfl
        rotate_left
        · simp only [Act.put, List.setIfInBounds_toArray, List.set_cons_zero, List.set_cons_succ, i64_w, i32_w]
          rfl
        refine pure_ (i := 11) (N := some 73) (v := ?_) (a' := ?_) #[true, true, false, true, true, false, true, true, false, false, true, true, false, false, false, false, false, false, false, false, false, false, false, false, false, false, false, false, false, false, false, false, false, false, false, false, false, false, false, false, false, false, false, false, false, false, false] rfl rfl (any_of HT_.out (by kernel_rfl)) (fun _ _ _ h => h) (Or.inl ⟨by rfl, ?_⟩) ?_ ?_
        rotate_left
        · intro w'
          go_simp
          with_reducible rfl
        rotate_left
        · simp only [Act.put, List.setIfInBounds_toArray, List.set_cons_zero, List.set_cons_succ, i64_w, i32_w]
          rfl
        refine pure_ (i := 15) (N := some 77) (v := ?_) (a' := ?_) #[true, true, false, true, true, false, true, true, false, false, true, true, false, false, false, true, false, false, false, false, false, false, false, false, false, false, false, false, false, false, false, false, false, false, false, false, false, false, false, false, false, false, false, false, false, false, false] rfl rfl (any_of HT_.out (by kernel_rfl)) (fun _ _ _ h => h) (Or.inl ⟨by rfl, ?_⟩) ?_ ?_
        rotate_left
        · intro w'
          go_simp
          with_reducible rfl
        rotate_left
        · simp only [Act.put, List.setIfInBounds_toArray, List.set_cons_zero, List.set_cons_succ, i64_w, i32_w]
          rfl
        refine pure_ (i := 16) (N := some 78) (v := ?_) (a' := ?_) #[true, true, false, true, true, false, true, true, false, false, true, true, false, false, false, true, true, false, false, false, false, false, false, false, false, false, false, false, false, false, false, false, false, false, false, false, false, false, false, false, false, false, false, false, false, false, false] rfl rfl (any_of HT_.out (by kernel_rfl)) (fun _ _ _ h => h) (Or.inl ⟨by rfl, ?_⟩) ?_ ?_
        rotate_left
        · intro w'
          go_simp
          with_reducible rfl
        rotate_left
        · simp only [Act.put, List.setIfInBounds_toArray, List.set_cons_zero, List.set_cons_succ, i64_w, i32_w]
          rfl
        refine pure_ (i := 19) (N := some 81) (v := ?_) (a' := ?_) #[true, true, false, true, true, false, true, true, false, false, true, true, false, false, false, true, true, false, false, true, false, false, false, false, false, false, false, false, false, false, false, false, false, false, false, false, false, false, false, false, false, false, false, false, false, false, false] rfl rfl (any_of HT_.out (by kernel_rfl)) (fun _ _ _ h => h) (Or.inl ⟨by rfl, ?_⟩) ?_ ?_
        rotate_left
        · intro w'
          go_simp
          with_reducible rfl
        rotate_left
        · simp only [Act.put, List.setIfInBounds_toArray, List.set_cons_zero, List.set_cons_succ, i64_w, i32_w]
          rfl
        refine pure_ (i := 20) (N := some 82) (v := ?_) (a' := ?_) #[true, true, false, true, true, false, true, true, false, false, true, true, false, false, false, true, true, false, false, true, true, false, false, false, false, false, false, false, false, false, false, false, false, false, false, false, false, false, false, false, false, false, false, false, false, false, false] rfl rfl (any_of HT_.out (by kernel_rfl)) (fun _ _ _ h => h) (Or.inl ⟨by rfl, ?_⟩) ?_ ?_
        rotate_left
        · intro w'
          go_simp
          with_reducible rfl
        rotate_left
        · simp only [Act.put, List.setIfInBounds_toArray, List.set_cons_zero, List.set_cons_succ, i64_w, i32_w]
          rfl
        refine pure_ (i := 24) (N := some 86) (v := ?_) (a' := ?_) #[true, true, false, true, true, false, true, true, false, false, true, true, false, false, false, true, true, false, false, true, true, false, false, false, true, false, false, false, false, false, false, false, false, false, false, false, false, false, false, false, false, false, false, false, false, false, false] rfl rfl (any_of HT_.out (by kernel_rfl)) (fun _ _ _ h => h) (Or.inl ⟨by rfl, ?_⟩) ?_ ?_
        rotate_left
        · intro w'
          go_simp
          with_reducible rfl
        rotate_left
        · simp only [Act.put, List.setIfInBounds_toArray, List.set_cons_zero, List.set_cons_succ, i64_w, i32_w]
          rfl
        refine pure_ (i := 25) (N := some 87) (v := ?_) (a' := ?_) #[true, true, false, true, true, false, true, true, false, false, true, true, false, false, false, true, true, false, false, true, true, false, false, false, true, true, false, false, false, false, false, false, false, false, false, false, false, false, false, false, false, false, false, false, false, false, false] rfl rfl (any_of HT_.out (by kernel_rfl)) (fun _ _ _ h => h) (Or.inl ⟨by rfl, ?_⟩) ?_ ?_
        rotate_left
        · intro w'
          go_simp
          with_reducible rfl
        rotate_left
        · simp only [Act.put, List.setIfInBounds_toArray, List.set_cons_zero, List.set_cons_succ, i64_w, i32_w]
          rfl
        refine pure_ (i := 28) (N := some 90) (v := ?_) (a' := ?_) #[true, true, false, true, true, false, true, true, false, false, true, true, false, false, false, true, true, false, false, true, true, false, false, false, true, true, false, false, true, false, false, false, false, false, false, false, false, false, false, false, false, false, false, false, false, false, false] rfl rfl (any_of HT_.out (by kernel_rfl)) (fun _ _ _ h => h) (Or.inl ⟨by rfl, ?_⟩) ?_ ?_
        rotate_left
        · intro w'
          go_simp
          with_reducible rfl
        rotate_left
        · simp only [Act.put, List.setIfInBounds_toArray, List.set_cons_zero, List.set_cons_succ, i64_w, i32_w]
          rfl
        refine pure_ (i := 29) (N := some 91) (v := ?_) (a' := ?_) #[true, true, false, true, true, false, true, true, false, false, true, true, false, false, false, true, true, false, false, true, true, false, false, false, true, true, false, false, true, true, false, false, false, false, false, false, false, false, false, false, false, false, false, false, false, false, false] rfl rfl (any_of HT_.out (by kernel_rfl)) (fun _ _ _ h => h) (Or.inl ⟨by rfl, ?_⟩) ?_ ?_
        rotate_left
        · intro w'
          go_simp
          with_reducible rfl
        rotate_left
        · simp only [Act.put, List.setIfInBounds_toArray, List.set_cons_zero, List.set_cons_succ, i64_w, i32_w]
          rfl
        refine pure_ (i := 31) (N := some 93) (v := ?_) (a' := ?_) #[true, true, false, true, true, false, true, true, false, false, true, true, false, false, false, true, true, false, false, true, true, false, false, false, true, true, false, false, true, true, false, true, false, false, false, false, false, false, false, false, false, false, false, false, false, false, false] rfl rfl (any_of HT_.out (by kernel_rfl)) (fun _ _ _ h => h) (Or.inl ⟨by rfl, ?_⟩) ?_ ?_
        rotate_left
        · intro w'
          go_simp
          with_reducible rfl
        rotate_left
        · simp only [Act.put, List.setIfInBounds_toArray, List.set_cons_zero, List.set_cons_succ, i64_w, i32_w]
          rfl
        refine pure_ (i := 32) (N := some 94) (v := ?_) (a' := ?_) #[true, true, false, true, true, false, true, true, false, false, true, true, false, false, false, true, true, false, false, true, true, false, false, false, true, true, false, false, true, true, false, true, true, false, false, false, false, false, false, false, false, false, false, false, false, false, false] rfl rfl (any_of HT_.out (by kernel_rfl)) (fun _ _ _ h => h) (Or.inl ⟨by rfl, ?_⟩) ?_ ?_
        rotate_left
        · intro w'
          go_simp
          with_reducible rfl
        rotate_left
        · simp only [Act.put, List.setIfInBounds_toArray, List.set_cons_zero, List.set_cons_succ, i64_w, i32_w]
          rfl
        refine pure_ (i := 34) (N := some 96) (v := ?_) (a' := ?_) #[true, true, false, true, true, false, true, true, false, false, true, true, false, false, false, true, true, false, false, true, true, false, false, false, true, true, false, false, true, true, false, true, true, false, true, false, false, false, false, false, false, false, false, false, false, false, false] rfl rfl (any_of HT_.out (by kernel_rfl)) (fun _ _ _ h => h) (Or.inl ⟨by rfl, ?_⟩) ?_ ?_
        rotate_left
        · intro w'
          go_simp
          with_reducible rfl
        rotate_left
        · simp only [Act.put, List.setIfInBounds_toArray, List.set_cons_zero, List.set_cons_succ, i64_w, i32_w]
          rfl
        refine pure_ (i := 35) (N := some 97) (v := ?_) (a' := ?_) #[true, true, false, true, true, false, true, true, false, false, true, true, false, false, false, true, true, false, false, true, true, false, false, false, true, true, false, false, true, true, false, true, true, false, true, true, false, false, false, false, false, false, false, false, false, false, false] rfl rfl (any_of HT_.out (by kernel_rfl)) (fun _ _ _ h => h) (Or.inl ⟨by rfl, ?_⟩) ?_ ?_
        rotate_left
        · intro w'
          go_simp
          with_reducible rfl
        rotate_left
        · simp only [Act.put, List.setIfInBounds_toArray, List.set_cons_zero, List.set_cons_succ, i64_w, i32_w]
          rfl
        refine pure_ (i := 36) (N := some 98) (v := ?_) (a' := ?_) #[true, true, false, true, true, false, true, true, false, false, true, true, false, false, false, true, true, false, false, true, true, false, false, false, true, true, false, false, true, true, false, true, true, false, true, true, true, false, false, false, false, false, false, false, false, false, false] rfl rfl (any_of HT_.out (by kernel_rfl)) (fun _ _ _ h => h) (Or.inl ⟨by rfl, ?_⟩) ?_ ?_
        rotate_left
        · intro w'
          go_simp
          with_reducible rfl
        rotate_left
        · simp only [Act.put, List.setIfInBounds_toArray, List.set_cons_zero, List.set_cons_succ, i64_w, i32_w]
          rfl
        refine pure_ (i := 37) (N := some 99) (v := ?_) (a' := ?_) #[true, true, false, true, true, false, true, true, false, false, true, true, false, false, false, true, true, false, false, true, true, false, false, false, true, true, false, false, true, true, false, true, true, false, true, true, true, true, false, false, false, false, false, false, false, false, false] rfl rfl (any_of HT_.out (by kernel_rfl)) (fun _ _ _ h => h) (Or.inl ⟨by rfl, ?_⟩) ?_ ?_
        rotate_left
        · intro w'
          go_simp
          with_reducible rfl
        rotate_left
        · simp only [Act.put, List.setIfInBounds_toArray, List.set_cons_zero, List.set_cons_succ, i64_w, i32_w]
          rfl
        refine pure_ (i := 38) (N := some 100) (v := ?_) (a' := ?_) #[true, true, false, true, true, false, true, true, false, false, true, true, false, false, false, true, true, false, false, true, true, false, false, false, true, true, false, false, true, true, false, true, true, false, true, true, true, true, true, false, false, false, false, false, false, false, false] rfl rfl (any_of HT_.out (by kernel_rfl)) (fun _ _ _ h => h) (Or.inl ⟨by rfl, ?_⟩) ?_ ?_
        rotate_left
        · intro w'
          go_simp
          with_reducible rfl
        rotate_left
        · simp only [Act.put, List.setIfInBounds_toArray, List.set_cons_zero, List.set_cons_succ, i64_w, i32_w]
          rfl
        refine pure_ (i := 39) (N := some 101) (v := ?_) (a' := ?_) #[true, true, false, true, true, false, true, true, false, false, true, true, false, false, false, true, true, false, false, true, true, false, false, false, true, true, false, false, true, true, false, true, true, false, true, true, true, true, true, true, false, false, false, false, false, false, false] rfl rfl (any_of HT_.out (by kernel_rfl)) (fun _ _ _ h => h) (Or.inl ⟨by rfl, ?_⟩) ?_ ?_
        rotate_left
        · intro w'
          go_simp
          with_reducible rfl
        rotate_left
        · simp only [Act.put, List.setIfInBounds_toArray, List.set_cons_zero, List.set_cons_succ, i64_w, i32_w]
          rfl
        refine pure_ (i := 41) (N := some 103) (v := ?_) (a' := ?_) #[true, true, false, true, true, false, true, true, false, false, true, true, false, false, false, true, true, false, false, true, true, false, false, false, true, true, false, false, true, true, false, true, true, false, true, true, true, true, true, true, false, true, false, false, false, false, false] rfl rfl (any_of HT_.out (by kernel_rfl)) (fun _ _ _ h => h) (Or.inl ⟨by rfl, ?_⟩) ?_ ?_
        rotate_left
        · intro w'
          go_simp
          with_reducible rfl
        rotate_left
        · simp only [Act.put, List.setIfInBounds_toArray, List.set_cons_zero, List.set_cons_succ, i64_w, i32_w]
          rfl
        refine pure_ (i := 42) (N := some 104) (v := ?_) (a' := ?_) #[true, true, false, true, true, false, true, true, false, false, true, true, false, false, false, true, true, false, false, true, true, false, false, false, true, true, false, false, true, true, false, true, true, false, true, true, true, true, true, true, false, true, true, false, false, false, false] rfl rfl (any_of HT_.out (by kernel_rfl)) (fun _ _ _ h => h) (Or.inl ⟨by rfl, ?_⟩) ?_ ?_
        rotate_left
        · intro w'
          go_simp
          with_reducible rfl
        rotate_left
        · simp only [Act.put, List.setIfInBounds_toArray, List.set_cons_zero, List.set_cons_succ, i64_w, i32_w]
          rfl
        refine take_ (i := 2) (N := some 64) (v := ?_) (a' := ?_) #[true, true, true, true, true, false, true, true, false, false, true, true, false, false, false, true, true, false, false, true, true, false, false, false, true, true, false, false, true, true, false, true, true, false, true, true, true, true, true, true, false, true, true, false, false, false, false] rfl rfl (take_ofW HT_.out HW_.out (by kernel_rfl)) (fun _ _ _ h => h) (Or.inl ⟨by rfl, ?_⟩) hHeld ?_ ?_
        rotate_left
        · rintro w' ⟨s0, s1, s2, s3, s4, s5, s6, s7, s8, s9⟩
          go_simp
          with_reducible rfl
        rotate_left
        · simp only [Act.put, List.setIfInBounds_toArray, List.set_cons_zero, List.set_cons_succ, i64_w, i32_w]
          rfl
        refine take_ (i := 5) (N := some 67) (v := ?_) (a' := ?_) #[true, true, true, true, true, true, true, true, false, false, true, true, false, false, false, true, true, false, false, true, true, false, false, false, true, true, false, false, true, true, false, true, true, false, true, true, true, true, true, true, false, true, true, false, false, false, false] rfl rfl (take_ofW HT_.out HW_.out (by kernel_rfl)) (fun _ _ _ h => h) (Or.inl ⟨by rfl, ?_⟩) hHeld ?_ ?_
        rotate_left
        · rintro w' ⟨s0, s1, s2, s3, s4, s5, s6, s7, s8, s9⟩
          go_simp
          with_reducible rfl
        rotate_left
        · simp only [Act.put, List.setIfInBounds_toArray, List.set_cons_zero, List.set_cons_succ, i64_w, i32_w]
          rfl
        refine take_ (i := 8) (N := some 70) (v := ?_) (a' := ?_) #[true, true, true, true, true, true, true, true, true, false, true, true, false, false, false, true, true, false, false, true, true, false, false, false, true, true, false, false, true, true, false, true, true, false, true, true, true, true, true, true, false, true, true, false, false, false, false] rfl rfl (take_ofW HT_.out HW_.out (by kernel_rfl)) (fun _ _ _ h => h) (Or.inl ⟨by rfl, ?_⟩) hHeld ?_ ?_
        rotate_left
        · rintro w' ⟨s0, s1, s2, s3, s4, s5, s6, s7, s8, s9⟩
          go_simp
          with_reducible rfl
        rotate_left
        · simp only [Act.put, List.setIfInBounds_toArray, List.set_cons_zero, List.set_cons_succ, i64_w, i32_w]
          rfl
        refine pure_ (i := 9) (N := some 71) (v := ?_) (a' := ?_) #[true, true, true, true, true, true, true, true, true, true, true, true, false, false, false, true, true, false, false, true, true, false, false, false, true, true, false, false, true, true, false, true, true, false, true, true, true, true, true, true, false, true, true, false, false, false, false] rfl rfl (any_of HT_.out (by kernel_rfl)) (fun _ _ _ h => h) (Or.inl ⟨by rfl, ?_⟩) ?_ ?_
        rotate_left
        · intro w'
          go_simp
          with_reducible rfl
        rotate_left
        · simp only [Act.put, List.setIfInBounds_toArray, List.set_cons_zero, List.set_cons_succ, i64_w, i32_w]
          rfl
        refine take_ (i := 12) (N := some 74) (v := ?_) (a' := ?_) #[true, true, true, true, true, true, true, true, true, true, true, true, true, false, false, true, true, false, false, true, true, false, false, false, true, true, false, false, true, true, false, true, true, false, true, true, true, true, true, true, false, true, true, false, false, false, false] rfl rfl (take_ofW HT_.out HW_.out (by kernel_rfl)) (fun _ _ _ h => h) (Or.inl ⟨by rfl, ?_⟩) hHeld ?_ ?_
        rotate_left
        · rintro w' ⟨s0, s1, s2, s3, s4, s5, s6, s7, s8, s9⟩
          go_simp
          with_reducible rfl
        rotate_left
        · simp only [Act.put, List.setIfInBounds_toArray, List.set_cons_zero, List.set_cons_succ, i64_w, i32_w]
          rfl
        refine pure_ (i := 13) (N := some 75) (v := ?_) (a' := ?_) #[true, true, true, true, true, true, true, true, true, true, true, true, true, true, false, true, true, false, false, true, true, false, false, false, true, true, false, false, true, true, false, true, true, false, true, true, true, true, true, true, false, true, true, false, false, false, false] rfl rfl (any_of HT_.out (by kernel_rfl)) (fun _ _ _ h => h) (Or.inl ⟨by rfl, ?_⟩) ?_ ?_
        rotate_left
        · intro w'
          go_simp
          with_reducible rfl
        rotate_left
        · simp only [Act.put, List.setIfInBounds_toArray, List.set_cons_zero, List.set_cons_succ, i64_w, i32_w]
          rfl
        refine pure_ (i := 14) (N := some 76) (v := ?_) (a' := ?_) #[true, true, true, true, true, true, true, true, true, true, true, true, true, true, true, true, true, false, false, true, true, false, false, false, true, true, false, false, true, true, false, true, true, false, true, true, true, true, true, true, false, true, true, false, false, false, false] rfl rfl (any_of HT_.out (by kernel_rfl)) (fun _ _ _ h => h) (Or.inl ⟨by rfl, ?_⟩) ?_ ?_
        rotate_left
        · intro w'
          go_simp
          with_reducible rfl
        rotate_left
        · simp only [Act.put, List.setIfInBounds_toArray, List.set_cons_zero, List.set_cons_succ, i64_w, i32_w]
          rfl
        refine take_ (i := 17) (N := some 79) (v := ?_) (a' := ?_) #[true, true, true, true, true, true, true, true, true, true, true, true, true, true, true, true, true, true, false, true, true, false, false, false, true, true, false, false, true, true, false, true, true, false, true, true, true, true, true, true, false, true, true, false, false, false, false] rfl rfl (take_ofW HT_.out HW_.out (by kernel_rfl)) (fun _ _ _ h => h) (Or.inl ⟨by rfl, ?_⟩) hHeld ?_ ?_
        rotate_left
        · rintro w' ⟨s0, s1, s2, s3, s4, s5, s6, s7, s8, s9⟩
          go_simp
          with_reducible rfl
        rotate_left
        · simp only [Act.put, List.setIfInBounds_toArray, List.set_cons_zero, List.set_cons_succ, i64_w, i32_w]
          rfl
        refine pure_ (i := 18) (N := some 80) (v := ?_) (a' := ?_) #[true, true, true, true, true, true, true, true, true, true, true, true, true, true, true, true, true, true, true, true, true, false, false, false, true, true, false, false, true, true, false, true, true, false, true, true, true, true, true, true, false, true, true, false, false, false, false] rfl rfl (any_of HT_.out (by kernel_rfl)) (fun _ _ _ h => h) (Or.inl ⟨by rfl, ?_⟩) ?_ ?_
        rotate_left
        · intro w'
          go_simp
          with_reducible rfl
        rotate_left
        · simp only [Act.put, List.setIfInBounds_toArray, List.set_cons_zero, List.set_cons_succ, i64_w, i32_w]
          rfl
        refine take_ (i := 21) (N := some 83) (v := ?_) (a' := ?_) #[true, true, true, true, true, true, true, true, true, true, true, true, true, true, true, true, true, true, true, true, true, true, false, false, true, true, false, false, true, true, false, true, true, false, true, true, true, true, true, true, false, true, true, false, false, false, false] rfl rfl (take_ofW HT_.out HW_.out (by kernel_rfl)) (fun _ _ _ h => h) (Or.inl ⟨by rfl, ?_⟩) hHeld ?_ ?_
        rotate_left
        · rintro w' ⟨s0, s1, s2, s3, s4, s5, s6, s7, s8, s9⟩
          go_simp
          with_reducible rfl
        rotate_left
        · simp only [Act.put, List.setIfInBounds_toArray, List.set_cons_zero, List.set_cons_succ, i64_w, i32_w]
          rfl
        refine pure_ (i := 22) (N := some 84) (v := ?_) (a' := ?_) #[true, true, true, true, true, true, true, true, true, true, true, true, true, true, true, true, true, true, true, true, true, true, true, false, true, true, false, false, true, true, false, true, true, false, true, true, true, true, true, true, false, true, true, false, false, false, false] rfl rfl (any_of HT_.out (by kernel_rfl)) (fun _ _ _ h => h) (Or.inl ⟨by rfl, ?_⟩) ?_ ?_
        rotate_left
        · intro w'
          go_simp
          with_reducible rfl
        rotate_left
        · simp only [Act.put, List.setIfInBounds_toArray, List.set_cons_zero, List.set_cons_succ, i64_w, i32_w]
          rfl
        refine pure_ (i := 23) (N := some 85) (v := ?_) (a' := ?_) #[true, true, true, true, true, true, true, true, true, true, true, true, true, true, true, true, true, true, true, true, true, true, true, true, true, true, false, false, true, true, false, true, true, false, true, true, true, true, true, true, false, true, true, false, false, false, false] rfl rfl (any_of HT_.out (by kernel_rfl)) (fun _ _ _ h => h) (Or.inl ⟨by rfl, ?_⟩) ?_ ?_
        rotate_left
        · intro w'
          go_simp
          with_reducible rfl
        rotate_left
        · simp only [Act.put, List.setIfInBounds_toArray, List.set_cons_zero, List.set_cons_succ, i64_w, i32_w]
          rfl
        refine take_ (i := 26) (N := some 88) (v := ?_) (a' := ?_) #[true, true, true, true, true, true, true, true, true, true, true, true, true, true, true, true, true, true, true, true, true, true, true, true, true, true, true, false, true, true, false, true, true, false, true, true, true, true, true, true, false, true, true, false, false, false, false] rfl rfl (take_ofW HT_.out HW_.out (by kernel_rfl)) (fun _ _ _ h => h) (Or.inl ⟨by rfl, ?_⟩) hHeld ?_ ?_
        rotate_left
        · rintro w' ⟨s0, s1, s2, s3, s4, s5, s6, s7, s8, s9⟩
          go_simp
          with_reducible rfl
        rotate_left
        · simp only [Act.put, List.setIfInBounds_toArray, List.set_cons_zero, List.set_cons_succ, i64_w, i32_w]
          rfl
        refine pure_ (i := 27) (N := some 89) (v := ?_) (a' := ?_) #[true, true, true, true, true, true, true, true, true, true, true, true, true, true, true, true, true, true, true, true, true, true, true, true, true, true, true, true, true, true, false, true, true, false, true, true, true, true, true, true, false, true, true, false, false, false, false] rfl rfl (any_of HT_.out (by kernel_rfl)) (fun _ _ _ h => h) (Or.inl ⟨by rfl, ?_⟩) ?_ ?_
        rotate_left
        · intro w'
          go_simp
          with_reducible rfl
        rotate_left
        · simp only [Act.put, List.setIfInBounds_toArray, List.set_cons_zero, List.set_cons_succ, i64_w, i32_w]
          rfl
        refine take_ (i := 30) (N := some 92) (v := ?_) (a' := ?_) #[true, true, true, true, true, true, true, true, true, true, true, true, true, true, true, true, true, true, true, true, true, true, true, true, true, true, true, true, true, true, true, true, true, false, true, true, true, true, true, true, false, true, true, false, false, false, false] rfl rfl (take_ofW HT_.out HW_.out (by kernel_rfl)) (fun _ _ _ h => h) (Or.inl ⟨by rfl, ?_⟩) hHeld ?_ ?_
        rotate_left
        · rintro w' ⟨s0, s1, s2, s3, s4, s5, s6, s7, s8, s9⟩
          go_simp
          with_reducible rfl
        rotate_left
        · simp only [Act.put, List.setIfInBounds_toArray, List.set_cons_zero, List.set_cons_succ, i64_w, i32_w]
          rfl
        refine take_ (i := 33) (N := some 95) (v := ?_) (a' := ?_) #[true, true, true, true, true, true, true, true, true, true, true, true, true, true, true, true, true, true, true, true, true, true, true, true, true, true, true, true, true, true, true, true, true, true, true, true, true, true, true, true, false, true, true, false, false, false, false] rfl rfl (take_ofW HT_.out HW_.out (by kernel_rfl)) (fun _ _ _ h => h) (Or.inl ⟨by rfl, ?_⟩) hHeld ?_ ?_
        rotate_left
        · rintro w' ⟨s0, s1, s2, s3, s4, s5, s6, s7, s8, s9⟩
          go_simp
          with_reducible rfl
        rotate_left
        · simp only [Act.put, List.setIfInBounds_toArray, List.set_cons_zero, List.set_cons_succ, i64_w, i32_w]
          rfl
        refine pure_ (i := 40) (N := some 102) (v := ?_) (a' := ?_) #[true, true, true, true, true, true, true, true, true, true, true, true, true, true, true, true, true, true, true, true, true, true, true, true, true, true, true, true, true, true, true, true, true, true, true, true, true, true, true, true, true, true, true, false, false, false, false] rfl rfl (any_of HT_.out (by kernel_rfl)) (fun _ _ _ h => h) (Or.inl ⟨by rfl, ?_⟩) ?_ ?_
        rotate_left
        · intro w'
          go_simp
          with_reducible rfl
        rotate_left
        · simp only [Act.put, List.setIfInBounds_toArray, List.set_cons_zero, List.set_cons_succ, i64_w, i32_w]
          rfl
        refine take_ (i := 43) (N := some 105) (v := ?_) (a' := ?_) #[true, true, true, true, true, true, true, true, true, true, true, true, true, true, true, true, true, true, true, true, true, true, true, true, true, true, true, true, true, true, true, true, true, true, true, true, true, true, true, true, true, true, true, true, false, false, false] rfl rfl (take_ofW HT_.out HW_.out (by kernel_rfl)) (fun _ _ _ h => h) (Or.inl ⟨by rfl, ?_⟩) hHeld ?_ ?_
        rotate_left
        · rintro w' ⟨s0, s1, s2, s3, s4, s5, s6, s7, s8, s9⟩
          go_simp
          with_reducible rfl
        rotate_left
        · simp only [Act.put, List.setIfInBounds_toArray, List.set_cons_zero, List.set_cons_succ, i64_w, i32_w]
          rfl
        refine one_ (i := 44) (N := none) #[true, true, true, true, true, true, true, true, true, true, true, true, true, true, true, true, true, true, true, true, true, true, true, true, true, true, true, true, true, true, true, true, true, true, true, true, true, true, true, true, true, true, true, true, true, false, false] rfl rfl (one_of HT_.out (by kernel_rfl)) (by decide) (fun K hK => ?_)
        have hs := hRK.cells
        have hf := hRK.free
        refine skip_ (w1 := ?_) (by rfl) rfl ?_ ?_
        rotate_left
        · go_simp
          rfl
        have hne : B ≠ w.heap.size := by have := HBz.out; omega
        refine hK.out _ _ ⟨((nine_far hRB hne).cells 0).trans (by simp [row07]), ((nine_far hRB hne).cells 1).trans (by simp [row07]), ((nine_far hRB hne).cells 2).trans (by simp [row07]), ((nine_far hRB hne).cells 3).trans (by simp [row07]), ((nine_far hRB hne).cells 4).trans (by simp [row07]), ((nine_far hRB hne).cells 5).trans (by simp [row07]), ((nine_far hRB hne).cells 6).trans (by simp [row07]), ((nine_far hRB hne).cells 7).trans (by simp [row07]), ((nine_far hRB hne).cells 9).trans (by simp [row07]), ((nine_far hRB hne).cells 8).trans (by simp [row07])⟩ (fun hHeld => ?_)
        clear hK K hs hf
        refine pure_ (i := 45) (N := some 3) (v := ?_) (a' := ?_) #[true, true, true, true, true, true, true, true, true, true, true, true, true, true, true, true, true, true, true, true, true, true, true, true, true, true, true, true, true, true, true, true, true, true, true, true, true, true, true, true, true, true, true, true, true, true, false] rfl rfl (any_of HT_.out (by kernel_rfl)) (fun _ _ _ h => h) (Or.inl ⟨by rfl, ?_⟩) ?_ ?_
        rotate_left
        · intro w'
          go_simp
          with_reducible rfl
        rotate_left
        · simp only [Act.put, List.setIfInBounds_toArray, List.set_cons_zero, List.set_cons_succ, i64_w, i32_w]
          rfl
        refine pure_ (i := 46) (N := some 4) (v := ?_) (a' := ?_) #[true, true, true, true, true, true, true, true, true, true, true, true, true, true, true, true, true, true, true, true, true, true, true, true, true, true, true, true, true, true, true, true, true, true, true, true, true, true, true, true, true, true, true, true, true, true, true] rfl rfl (any_of HT_.out (by kernel_rfl)) (fun _ _ _ h => h) (Or.inl ⟨by rfl, ?_⟩) ?_ ?_
        rotate_left
        · intro w'
          go_simp
          with_reducible rfl
        rotate_left
        · simp only [Act.put, List.setIfInBounds_toArray, List.set_cons_zero, List.set_cons_succ, i64_w, i32_w]
          rfl
        refine done_ (done_of HT_.out (by kernel_rfl)) ?_
        have HF := Aside0.mk (nine_put (v0 := .int .i64 (two07 s 0)) (v1 := .int .i64 (two07 s 1)) (v2 := .int .u32 (two07 s 2 * 65536 + two07 s 3)) (v3 := .int .u32 (two07 s 4 * 65536 + two07 s 5)) (v4 := .int .i64 (two07 s 6 % 256)) (v5 := .int .i64 (two07 s 7)) (v6 := .int .i64 (two07 s 9)) (v7 := .string (s.extract 20 n)) (v8 := .string (s.extract n s.size)) hRK)
        have HBF := Aside0.mk (nine_below (v0 := .int .i64 (two07 s 0)) (v1 := .int .i64 (two07 s 1)) (v2 := .int .u32 (two07 s 2 * 65536 + two07 s 3)) (v3 := .int .u32 (two07 s 4 * 65536 + two07 s 5)) (v4 := .int .i64 (two07 s 6 % 256)) (v5 := .int .i64 (two07 s 7)) (v6 := .int .i64 (two07 s 9)) (v7 := .string (s.extract 20 n)) (v8 := .string (s.extract n s.size)) hB57 (Nat.le_refl _))
        clear hHeld hRB hRK hB57 v0c v1c v2c v3c v4c v5c v6c v7c v8c v9c HT_ HW_
        generalize (((((((((w57.setCell ⟨w.heap.size, 0, none⟩ (.int .i64 (two07 s 0))).setCell ⟨w.heap.size, 1, none⟩ (.int .i64 (two07 s 1))).setCell ⟨w.heap.size, 2, none⟩ (.int .u32 (two07 s 2 * 65536 + two07 s 3))).setCell ⟨w.heap.size, 3, none⟩ (.int .u32 (two07 s 4 * 65536 + two07 s 5))).setCell ⟨w.heap.size, 4, none⟩ (.int .i64 (two07 s 6 % 256))).setCell ⟨w.heap.size, 5, none⟩ (.int .i64 (two07 s 7))).setCell ⟨w.heap.size, 6, none⟩ (.int .i64 (two07 s 9))).setCell ⟨w.heap.size, 7, none⟩ (.string (s.extract 20 n))).setCell ⟨w.heap.size, 8, none⟩ (.string (s.extract n s.size))) = wf at HF HBF ⊢
        go_wp2
        have kf := HF.out.cells
        exact bodyPost_ret (v := .tuple #[.agg #[.int .i64 (two07 s 0), .int .i64 (two07 s 1), .int .u32 (two07 s 2 * 65536 + two07 s 3), .int .u32 (two07 s 4 * 65536 + two07 s 5), .int .i64 (two07 s 6 % 256), .int .i64 (two07 s 7), .int .i64 (two07 s 9), .string (s.extract 20 n), .string (s.extract n s.size)], .int .i64 (two07 s 8), .int .i64 0]) (by simp [results, Try.results30, go_sem, kf]) rfl ⟨rfl, HBF.out⟩

theorem cut07 (s : ByteArray) (n m : Nat) : bl (s.extract n m) = ((bl s).take m).drop n := by simp [bl, ByteArray.data_extract, List.drop_take]
theorem be_halves7 (s : ByteArray) (i : Nat) (h : i + 4 ≤ s.size) : be (bl (s.extract i (i + 4))) = be (bl (s.extract i (i + 2))) * 65536 + be (bl (s.extract (i + 2) (i + 4))) := by
  have e : bl (s.extract i (i + 4)) = bl (s.extract i (i + 2)) ++ bl (s.extract (i + 2) (i + 4)) := by
    simp only [cut07]
    have h1 : ((bl s).take (i + 2)).drop i = (((bl s).take (i + 4)).drop i).take 2 := by rw [List.take_drop, List.take_take]; congr 2; omega
    rw [h1, show ((bl s).take (i + 4)).drop (i + 2) = (((bl s).take (i + 4)).drop i).drop 2 by rw [List.drop_drop], List.take_append_drop]
  rw [e, be_append, show (bl (s.extract (i + 2) (i + 4))).length = 2 by rw [bl_length]; simp only [ByteArray.size_extract]; omega]
theorem be_pair7 (s : ByteArray) (i : Nat) (h : i + 2 ≤ s.size) : be (bl (s.extract i (i + 2))) = be (bl (s.extract i (i + 1))) * 256 + be (bl (s.extract (i + 1) (i + 2))) := by
  have e : bl (s.extract i (i + 2)) = bl (s.extract i (i + 1)) ++ bl (s.extract (i + 1) (i + 2)) := by
    simp only [cut07]
    have h1 : ((bl s).take (i + 1)).drop i = (((bl s).take (i + 2)).drop i).take 1 := by rw [List.take_drop, List.take_take]; congr 2; omega
    rw [h1, show ((bl s).take (i + 2)).drop (i + 1) = (((bl s).take (i + 2)).drop i).drop 1 by rw [List.drop_drop], List.take_append_drop]
  rw [e, be_append, show (bl (s.extract (i + 1) (i + 2))).length = 1 by rw [bl_length]; simp only [ByteArray.size_extract]; omega]
def palanquinref07_Get.f (s : ByteArray) : Option (Int × Int × Int × Int × Int × Int × Int × ByteArray × ByteArray × Int × Int) := if s.size ≤ 1000000 then tcp_Get.f s else none
theorem palanquinref07_Get.calls (s : ByteArray) (r1 r2 r3 r4 r5 r6 r7 : Int) (r8 r9 : ByteArray) (r10 r11 : Int) (w : World) (h : palanquinref07_Get.f s = some (r1, r2, r3, r4, r5, r6, r7, r8, r9, r10, r11)) :
    Calls Try.prog 30 #[.string s] w fun e w' => e = .returned (.tuple #[.agg #[.int .i64 r1, .int .i64 r2, .int .u32 r3, .int .u32 r4, .int .i64 r5, .int .i64 r6, .int .i64 r7, .string r8, .string r9], .int .i64 r10, .int .i64 r11]) ∧ Below w.heap.size w w' := by
  unfold palanquinref07_Get.f at h
  split at h
  case isFalse => exact absurd h (by simp)
  rename_i hs
  unfold tcp_Get.f at h
  rw [if_pos (by omega)] at h
  have h := Option.some.inj h
  by_cases h20 : s.size < 20
  · have he : tcpErr s = 2 := if_pos h20
    rw [he, if_neg (by decide)] at h
    simp only [Prod.mk.injEq] at h
    obtain ⟨rfl, rfl, rfl, rfl, rfl, rfl, rfl, rfl, rfl, rfl, rfl⟩ := h
    exact ref07_short s h20 w
  · refine (ref07_long s (by omega) hs (ht s) _ rfl rfl _ rfl w).mono ?_
    intro e w' hp
    have bad : ∀ er : Int, er ≠ 0 → tcpErr s = er → ended07 er w e w' → e = .returned (.tuple #[.agg #[.int .i64 r1, .int .i64 r2, .int .u32 r3, .int .u32 r4, .int .i64 r5, .int .i64 r6, .int .i64 r7, .string r8, .string r9], .int .i64 r10, .int .i64 r11]) ∧ Below w.heap.size w w' := by
      intro er h0 he hd
      rw [he, if_neg h0] at h
      simp only [Prod.mk.injEq] at h
      obtain ⟨rfl, rfl, rfl, rfl, rfl, rfl, rfl, rfl, rfl, rfl, rfl⟩ := h
      exact hd
    by_cases c1 : ht s < 20 ∨ s.size < ht s
    · rw [if_pos c1] at hp
      exact bad 4 (by decide) (by unfold tcpErr; rw [if_neg h20, if_neg (by omega)]) hp
    rw [if_neg c1] at hp
    have c1' : 20 ≤ ht s ∧ ht s ≤ s.size := by omega
    by_cases c2 : be (bl (s.extract 12 13)) % 16 = 0
    case neg =>
      rw [if_neg c2] at hp
      exact bad 9 (by decide) (by unfold tcpErr; rw [if_neg h20, if_pos c1', if_neg c2]) hp
    rw [if_pos c2] at hp
    by_cases c3 : rightO (bl (s.extract 20 (ht s))) = true
    case neg =>
      rw [if_neg c3] at hp
      exact bad 4 (by decide) (by unfold tcpErr; rw [if_neg h20, if_pos c1', if_pos c2, if_neg c3]) hp
    rw [if_pos c3] at hp
    have he : tcpErr s = 0 := by unfold tcpErr; rw [if_neg h20, if_pos c1', if_pos c2, if_pos c3]
    rw [if_pos he] at h
    simp only [Prod.mk.injEq] at h
    obtain ⟨rfl, rfl, rfl, rfl, rfl, rfl, rfl, rfl, rfl, rfl, rfl⟩ := h
    have e1 := be_halves7 s 4 (by omega)
    have e2 := be_halves7 s 8 (by omega)
    have e3 := be_pair7 s 12 (by omega)
    have b3 := be_lt_of (bl (s.extract 13 14)) 1 (by rw [bl_length]; simp only [ByteArray.size_extract]; omega)
    have q1 : two07 s 2 * 65536 + two07 s 3 = ((be (bl (s.extract 4 8)) : Nat) : Int) := by rw [e1]; unfold two07; simp
    have q2 : two07 s 4 * 65536 + two07 s 5 = ((be (bl (s.extract 8 12)) : Nat) : Int) := by rw [e2]; unfold two07; simp
    have q3 : two07 s 6 % 256 = ((be (bl (s.extract 13 14)) : Nat) : Int) := by
      have : two07 s 6 = ((be (bl (s.extract 12 (12 + 2))) : Nat) : Int) := rfl
      rw [this, e3]
      generalize be (bl (s.extract (12 + 1) (12 + 2))) = x at b3 ⊢
      generalize be (bl (s.extract 12 (12 + 1))) = y
      omega
    rw [q1, q2, q3] at hp
    exact hp
end Go.Proofs.Ytcmalglippmocaa.G
end
