/- Texts of this session, joined: each is a section. -/
import Derived.Test.YtcmalglippmocaaDoorMFtun3
import Derived.Test.YtcmalglippmocaaDoorMFtun2
import Derived.Lib.ConvBytes
import Derived.WalkLawsBesides
import Derived.Recover
import Derived.Defers
import Derived.WideLaws
import Derived.Lib.Hide
set_option linter.unusedVariables false
set_option linter.unusedSimpArgs false
section
namespace Go.Proofs.YtcmalglippmocaaDoor.G
open Go.RowKit Go.Proofs.YtcmalglippmocaaDoorW.PrintWords Go.Proofs.YtcmalglippmocaaDoorW.PrintLast Go.Proofs.YtcmalglippmocaaDoorW.PrintMore Go.Proofs.YtcmalglippmocaaDoor.Pal
def gue_header.f (a0 : Int) : Option ByteArray := some ⟨(nb 1 0 ++ nb 1 (u64n a0) ++ nb 2 0).toArray⟩
theorem wrap_u64_0 : IntKind.u64.wrap 0 = 0 := by decide +kernel
set_option maxHeartbeats 2000000 in
set_option maxRecDepth 100000 in
theorem gue_header.calls (a0 : Int) (r : ByteArray) (w : World) (h : gue_header.f a0 = some r) :
    Calls Tryd.prog 74 #[.int .i64 a0] w fun e w' => e = .returned (.string r) ∧ Below w.heap.size w w' := by
  obtain rfl := Option.some.inj h
  clear h
  have HW := Aside0.mk (SW.start (w1 := w) (Below.refl w.heap.size w) (Nat.le_refl _))
  go_enter Tryd.func74, Tryd.ntmps74
  go_wp2_with fail
  refine (Writer_U8.calls _ _ _ _ HW.out.1 (by simp)).mono ?_
  rintro e w3 ⟨rfl, g1, g2⟩
  replace HW := Aside0.mk (HW.out.next g1 g2)
  clear g1 g2
  go_wp2_with fail
  refine (Writer_U8.calls _ _ _ _ HW.out.1 (by simp [nb_length])).mono ?_
  rintro e w4 ⟨rfl, g1, g2⟩
  replace HW := Aside0.mk (HW.out.next g1 g2)
  clear g1 g2
  go_wp2_with fail
  refine (Writer_U16.calls _ _ _ _ HW.out.1 (by simp [nb_length])).mono ?_
  rintro e w5 ⟨rfl, g1, g2⟩
  replace HW := Aside0.mk (HW.out.next g1 g2)
  clear g1 g2
  go_wp2_with fail
  refine (Writer_String.calls _ _ _ HW.out.1).mono ?_
  rintro e w6 ⟨rfl, g1, g2⟩
  replace HW := Aside0.mk (HW.out.next g1 g2)
  clear g1 g2
  go_wp2
  go_ret
  exact ⟨by simp [u64n, wrap_u64_0], HW.out.2.1⟩
end Go.Proofs.YtcmalglippmocaaDoor.G
end

section
namespace Go.Proofs.YtcmalglippmocaaDoor.G
open Go.RowKit Go.Proofs.YtcmalglippmocaaDoorW.PrintWords Go.Proofs.YtcmalglippmocaaDoorW.PrintLast Go.Proofs.YtcmalglippmocaaDoorW.PrintMore Go.Proofs.YtcmalglippmocaaDoor.Pal

def Rd (w : World) (R : Nat) (s : ByteArray) (n : Nat) : Prop := Blk w R 177 #[.string s, .int .i64 (n : Int)] ∧ n ≤ s.size ∧ s.size ≤ 140737488351232
def stopV (e : Int) : Value := .iface 175 (.agg #[.int .i64 e])
def stopped (e : Int) : Ending := .panicked [{ v := stopV e, recovered := false }]
theorem Rd.facts {w : World} {R : Nat} {s : ByteArray} {n : Nat} (h : Rd w R s n) :
    w.cell? ⟨R, 0, none⟩ = some (.string s) ∧ w.cell? ⟨R, 1, none⟩ = some (.int .i64 (n : Int)) ∧ w.frozen? ⟨R, 1, none⟩ = false :=
  ⟨h.1.cell 0 _ rfl, h.1.cell 1 _ rfl, h.1.free 1⟩
theorem Rd.step {w : World} {R : Nat} {s : ByteArray} {n : Nat} (h : Rd w R s n) (m : Nat) (hm : m ≤ s.size) : Rd (w.setCell ⟨R, 1, none⟩ (.int .i64 (m : Int))) R s m := ⟨h.1.set 1 _, hm, h.2.2⟩
theorem Rd.below {w w' : World} {R : Nat} {s : ByteArray} {n : Nat} (h : Rd w R s n) (hb : Below w.heap.size w w') : Rd w' R s n := ⟨h.1.below hb h.1.lt, h.2⟩

set_option maxHeartbeats 400000 in
theorem Reader_Left.calls (R : Nat) (s : ByteArray) (n : Nat) (w : World) (h : Rd w R s n) :
    Calls Tryd.prog 78 #[.pointer (some ⟨R, 0, none⟩)] w fun e w' => e = .returned (.int .i64 ((s.size : Int) - n)) ∧ ∃ k, w' = w.drewN k := by
  obtain ⟨c0, c1, c2⟩ := h.facts
  have hn := h.2.1
  have hs := h.2.2
  clear h
  go_enter Tryd.func78, Tryd.ntmps78
  go_wp2
  go_quiet (fail)
  go_wp2
  go_ret
  exact ⟨rfl, _, rfl⟩

set_option maxHeartbeats 400000 in
theorem Reader_Need.yes (R : Nat) (e : Int) (w : World) :
    Calls Tryd.prog 65 #[.pointer (some ⟨R, 0, none⟩), .bool true, .int .i64 e] w fun e w' => e = .returned (.tuple #[]) ∧ w' = w := by
  go_enter Tryd.func65, Tryd.ntmps65
  go_wp2
  go_end0
  exact ⟨rfl, rfl⟩

set_option maxHeartbeats 400000 in
theorem Reader_Need.no (R : Nat) (e : Int) (w : World) :
    Calls Tryd.prog 65 #[.pointer (some ⟨R, 0, none⟩), .bool false, .int .i64 e] w fun e1 w' => e1 = stopped e ∧ w' = w := by
  go_enter Tryd.func65, Tryd.ntmps65
  go_wp2
  exact ⟨rfl, rfl, rfl⟩

set_option maxHeartbeats 800000 in
theorem Reader_Take.yes (R : Nat) (s : ByteArray) (n : Nat) (m : Nat) (w : World) (h : Rd w R s n) (hm : n + m ≤ s.size) :
    Calls Tryd.prog 106 #[.pointer (some ⟨R, 0, none⟩), .int .i64 (m : Int)] w fun e w' =>
      e = .returned (.string (s.extract n (n + m))) ∧ ∃ k j, w' = ((w.drewN k).setCell ⟨R, 1, none⟩ (.int .i64 ((n + m : Nat) : Int))).drewN j := by
  have hn := h.2.1
  have hs := h.2.2
  have g1 : decide ((0 : Int) ≤ (m : Int)) = true := by simp
  have g2 : decide ((m : Int) ≤ (s.size : Int) - n) = true := by simp; omega
  go_enter Tryd.func106, Tryd.ntmps106
  go_wp2_with fail
  refine (Reader_Left.calls R s n _ h).mono ?_
  rintro e w1 ⟨rfl, k, rfl⟩
  have h1 := (show Rd (w.drewN k) R s n from h)
  go_wp2_with fail
  refine (Reader_Need.yes R 2 _).mono ?_
  rintro e w1 ⟨rfl, hw⟩
  subst hw
  obtain ⟨c0, c1, c2⟩ := h1.facts
  have h2 := h1.step (n + m) hm
  obtain ⟨d0, d1, d2⟩ := h2.facts
  have e1 : (((n + m : Nat) : Int)) = (n : Int) + m := by omega
  rw [e1] at d0 d1
  have h2' := Aside0.mk h2
  clear h2 h1 h
  go_wp2
  have hwn : IntKind.i64.wrap (n : Int) = n := wraps_i64 _ (by omega) (by omega)
  have hsl : ∀ wx : World, (Instr.slice 9 (.string s) (some (.int .i64 (n : Int))) (some (.int .i64 ((n : Int) + m))) none).run Tryd.prog wx = .ok (.string (s.extract n (n + m))) wx := fun wx => by
    have := run_slice_string (P := Tryd.prog) wx 9 s .i64 .i64 (n : Int) ((n : Int) + m) Tryd.underlying9 (by omega) (by omega) (by omega)
    rwa [Int.toNat_natCast, ← e1, Int.toNat_natCast] at this
  go_quiet (fail)
  clear hwn hsl
  go_wp2
  go_ret
  exact ⟨rfl, _, _, by rw [e1]⟩

set_option maxHeartbeats 800000 in
theorem Reader_Take.no (R : Nat) (s : ByteArray) (n : Nat) (m : Int) (w : World) (h : Rd w R s n) (hm : m < 0 ∨ (s.size : Int) < n + m) :
    Calls Tryd.prog 106 #[.pointer (some ⟨R, 0, none⟩), .int .i64 m] w fun e w' =>
      e = stopped 2 ∧ ∃ k, w' = w.drewN k := by
  have hn := h.2.1
  have hs := h.2.2
  by_cases h0 : 0 ≤ m
  · have g1 : decide ((0 : Int) ≤ m) = true := by simp; omega
    have g2 : decide (m ≤ (s.size : Int) - n) = false := by simp; omega
    clear h0 hm
    go_enter Tryd.func106, Tryd.ntmps106
    go_wp2_with fail
    refine (Reader_Left.calls R s n _ h).mono ?_
    rintro e w1 ⟨rfl, k, rfl⟩
    go_wp2_with fail
    refine (Reader_Need.no R 2 _).mono ?_
    rintro e w1 ⟨rfl, hw⟩
    subst hw
    exact ⟨rfl, rfl, _, rfl⟩
  · have g1 : decide ((0 : Int) ≤ m) = false := by simp; omega
    clear h0 hm
    go_enter Tryd.func106, Tryd.ntmps106
    go_wp2_with fail
    refine (Reader_Need.no R 2 _).mono ?_
    rintro e w1 ⟨rfl, hw⟩
    subst hw
    exact ⟨rfl, rfl, 0, rfl⟩


def Went (w w' : World) (R : Nat) (s : ByteArray) (n : Nat) : Prop := w.grownBy w' (some R) ∧ Rd w' R s n
theorem Went.take {w : World} {R : Nat} {s : ByteArray} {n : Nat} (h : Rd w R s n) (m : Nat) (hm : n + m ≤ s.size) (k j : Nat) :
    Went w (((w.drewN k).setCell ⟨R, 1, none⟩ (.int .i64 ((n + m : Nat) : Int))).drewN j) R s (n + m) :=
  ⟨grown_drewN (World.grownBy.trans (grown_drewN (grown_refl w _) k) (grown_setCell _ _ _ _)) j, ((show Rd (w.drewN k) R s n from h).step (n + m) hm)⟩

set_option maxHeartbeats 400000 in
theorem Reader_Rest.calls (R : Nat) (s : ByteArray) (n : Nat) (w : World) (h : Rd w R s n) :
    Calls Tryd.prog 70 #[.pointer (some ⟨R, 0, none⟩)] w fun e w' => e = .returned (.string (s.extract n s.size)) ∧ Went w w' R s s.size := by
  have hn := h.2.1
  go_enter Tryd.func70, Tryd.ntmps70
  go_wp2_with fail
  refine (Reader_Left.calls R s n _ h).mono ?_
  rintro e w1 ⟨rfl, k, rfl⟩
  have h1 := (show Rd (w.drewN k) R s n from h)
  go_wp2_with fail
  rw [show ((s.size : Int) - n) = ((s.size - n : Nat) : Int) from by omega]
  refine (Reader_Take.yes R s n (s.size - n) _ h1 (by omega)).mono ?_
  rintro e w1 ⟨rfl, k1, j1, rfl⟩
  have HW := Aside0.mk (Went.take h1 (s.size - n) (by omega) k1 j1)
  have hsz : n + (s.size - n) = s.size := by omega
  rw [hsz] at HW ⊢
  generalize (((w.drewN k).drewN k1).setCell ⟨R, 1, none⟩ (.int .i64 ((s.size : Nat) : Int))).drewN j1 = w2 at HW ⊢
  clear hsz
  go_wp2
  go_ret
  exact ⟨rfl, World.grownBy.trans (grown_drewN (grown_refl w _) k) HW.out.1, HW.out.2⟩

theorem shl_or (x : Nat) (b : UInt8) (hx : x < 72057594037927936) : Go.bits .or .u64 ((x : Int) * 256) (b.toNat : Int) = ((x * 256 + b.toNat : Nat) : Int) := by
  have hb := b.toNat_lt
  have e := u64_or_nat (x * 256) b.toNat (by omega) (by omega)
  rw [nat_join 8 (x * 256) b.toNat (by omega) (by omega)] at e
  rw [← e]
  simp
theorem bl_extract (s : ByteArray) (n m : Nat) : bl (s.extract n m) = ((bl s).take m).drop n := by
  simp [bl, ByteArray.data_extract, List.drop_take]

set_option maxHeartbeats 800000 in
theorem Reader_number.yes (R : Nat) (s : ByteArray) (n : Nat) (m : Nat) (w : World) (h : Rd w R s n) (hm : n + m ≤ s.size) (h8 : m ≤ 8) :
    Calls Tryd.prog 105 #[.pointer (some ⟨R, 0, none⟩), .int .i64 (m : Int)] w fun e w' =>
      e = .returned (.int .u64 (be (bl (s.extract n (n + m))) : Nat)) ∧ Went w w' R s (n + m) := by
  have hs := h.2.2
  go_enter Tryd.func105, Tryd.ntmps105
  go_wp2_with fail
  refine (Reader_Take.yes R s n m _ h hm).mono ?_
  rintro e w1 ⟨rfl, k1, j1, rfl⟩
  have HW := Aside0.mk (Went.take h m hm k1 j1)
  have hsz : (s.extract n (n + m)).size = m := by simp only [ByteArray.size_extract]; omega
  generalize ((w.drewN k1).setCell ⟨R, 1, none⟩ (.int .i64 ((n + m : Nat) : Int))).drewN j1 = w2 at HW ⊢
  generalize hte : s.extract n (n + m) = t at hsz ⊢
  have HE := Aside0.mk hte
  have HS := Aside0.mk hsz
  clear hsz h hte
  have hcv := fun (wx : World) => Lib.run_convert_string_bytes (P := Tryd.prog) wx 9 23 5 t Tryd.underlying9 Tryd.underlying23 Tryd.underlying5
  go_wp2
  clear hcv
  have hB : Below w2.heap.size w2 (Lib.bytesWorld w2 5 t) := ⟨rfl, rfl, rfl, by rw [Lib.bytesWorld_size]; omega, fun k hk => Lib.bytesWorld_at_old _ _ _ _ hk⟩
  have hC : ∀ j, j < t.size → (Lib.bytesWorld w2 5 t).cell? ⟨w2.heap.size, j, none⟩ = some (.int .u8 ((bl t).getD j 0).toNat) := fun j hj => Lib.bytesWorld_cell _ _ _ _ hj
  generalize Lib.bytesWorld w2 5 t = w3 at hB hC ⊢
  have HB := Aside0.mk hB
  have HC := Aside0.mk hC
  clear hB hC
  go_loopg [5, 13] t.size (fun kq v5 v13 wr => ∃ j : Nat, v13 = .int .i64 (j : Int) ∧ v5 = .int .u64 (be ((bl t).take j) : Nat) ∧ Aside0 (j + kq = t.size) ∧ Aside0 (wr = w3))
  case atStart => exact ⟨0, rfl, rfl, ⟨by omega⟩, ⟨rfl⟩⟩
  case round =>
    obtain ⟨j, rfl, rfl, HK, HEw⟩ := hrel
    obtain rfl := HEw.out
    clear HEw
    by_cases hlt : j < t.size
    · have hcell := HC.out j hlt
      have hx : be ((bl t).take j) < 72057594037927936 := by
        have := be_lt_of ((bl t).take j) 7 (by rw [List.length_take, bl_length]; have := HS.out; omega)
        simpa using this
      have HT : Aside0 ((bl t).take (j + 1) = (bl t).take j ++ [(bl t).getD j 0]) := ⟨by
        rw [List.take_succ_eq_append_getElem (by rw [bl_length]; exact hlt), List.getD_eq_getElem?_getD, List.getElem?_eq_getElem (by rw [bl_length]; exact hlt)]
        rfl⟩
      generalize (bl t).getD j 0 = b at hcell HT
      have hor := shl_or (be ((bl t).take j)) b hx
      have HN : Aside0 (be ((bl t).take (j + 1)) = be ((bl t).take j) * 256 + b.toNat) := ⟨by rw [HT.out, be_snoc]⟩
      generalize be ((bl t).take j) = x at hx hor HN ⊢
      have hw : wrap64 ((j : Int) + 1) = ((j + 1 : Nat) : Int) := by have := HS.out; unfold wrap64; omega
      go_wp2
      go_roundg (t.size - (j + 1))
      case measure => have := HK.out; omega
      case rel => exact ⟨j + 1, by rw [hw], by rw [show IntKind.u64.wrap (b.toNat : Int) = (b.toNat : Int) from by have := b.toNat_lt; exact wraps_u64 _ (by omega) (by omega), hor, HN.out], ⟨by omega⟩, ⟨rfl⟩⟩
    · have HT : Aside0 ((bl t).take j = bl t) := ⟨List.take_of_length_le (by rw [bl_length]; omega)⟩
      rw [HT.out]
      go_wp2
      go_ret
      exact ⟨by rw [← HE.out]; rfl, grown_of_below' HW.out.1 HB.out, HW.out.2.below HB.out⟩

set_option maxHeartbeats 800000 in
theorem Reader_number.no (R : Nat) (s : ByteArray) (n : Nat) (m : Nat) (w : World) (h : Rd w R s n) (hm : s.size < n + m) :
    Calls Tryd.prog 105 #[.pointer (some ⟨R, 0, none⟩), .int .i64 (m : Int)] w fun e w' =>
      e = stopped 2 ∧ ∃ k, w' = w.drewN k := by
  go_enter Tryd.func105, Tryd.ntmps105
  go_wp2_with fail
  refine (Reader_Take.no R s n m _ h (.inr (by omega))).mono ?_
  rintro e w1 ⟨rfl, k1, rfl⟩
  exact ⟨rfl, rfl, _, rfl⟩

theorem be_small_U8 (s : ByteArray) (n : Nat) : be (bl (s.extract n (n + 1))) < 256 := by
  have := be_lt_of (bl (s.extract n (n + 1))) 1 (by rw [bl_length]; simp only [ByteArray.size_extract]; omega)
  simpa using this

set_option maxHeartbeats 400000 in
theorem Reader_U8.yes (R : Nat) (s : ByteArray) (n : Nat) (w : World) (h : Rd w R s n) (hm : n + 1 ≤ s.size) :
    Calls Tryd.prog 79 #[.pointer (some ⟨R, 0, none⟩)] w fun e w' => e = .returned (.int .i64 (be (bl (s.extract n (n + 1))) : Nat)) ∧ Went w w' R s (n + 1) := by
  have hw : wrap64 ((be (bl (s.extract n (n + 1))) : Nat) : Int) = ((be (bl (s.extract n (n + 1))) : Nat) : Int) := by have := be_small_U8 s n; unfold wrap64; omega
  go_enter Tryd.func79, Tryd.ntmps79
  go_wp2_with fail
  refine (Reader_number.yes R s n 1 _ h hm (by decide)).mono ?_
  rintro e w1 ⟨rfl, hw1⟩
  have HW := Aside0.mk hw1
  clear hw1
  go_wp2
  go_ret
  exact ⟨by first | rfl | exact congrArg (fun z => Ending.returned (.int .i64 z)) hw, HW.out⟩
set_option maxHeartbeats 400000 in
theorem Reader_U8.no (R : Nat) (s : ByteArray) (n : Nat) (w : World) (h : Rd w R s n) (hm : s.size < n + 1) :
    Calls Tryd.prog 79 #[.pointer (some ⟨R, 0, none⟩)] w fun e w' => e = stopped 2 ∧ ∃ k, w' = w.drewN k := by
  go_enter Tryd.func79, Tryd.ntmps79
  go_wp2_with fail
  refine (Reader_number.no R s n 1 _ h hm).mono ?_
  rintro e w1 ⟨rfl, k1, rfl⟩
  exact ⟨rfl, rfl, _, rfl⟩

theorem be_small_U16 (s : ByteArray) (n : Nat) : be (bl (s.extract n (n + 2))) < 65536 := by
  have := be_lt_of (bl (s.extract n (n + 2))) 2 (by rw [bl_length]; simp only [ByteArray.size_extract]; omega)
  simpa using this

set_option maxHeartbeats 400000 in
theorem Reader_U16.yes (R : Nat) (s : ByteArray) (n : Nat) (w : World) (h : Rd w R s n) (hm : n + 2 ≤ s.size) :
    Calls Tryd.prog 66 #[.pointer (some ⟨R, 0, none⟩)] w fun e w' => e = .returned (.int .i64 (be (bl (s.extract n (n + 2))) : Nat)) ∧ Went w w' R s (n + 2) := by
  have hw : wrap64 ((be (bl (s.extract n (n + 2))) : Nat) : Int) = ((be (bl (s.extract n (n + 2))) : Nat) : Int) := by have := be_small_U16 s n; unfold wrap64; omega
  go_enter Tryd.func66, Tryd.ntmps66
  go_wp2_with fail
  refine (Reader_number.yes R s n 2 _ h hm (by decide)).mono ?_
  rintro e w1 ⟨rfl, hw1⟩
  have HW := Aside0.mk hw1
  clear hw1
  go_wp2
  go_ret
  exact ⟨by first | rfl | exact congrArg (fun z => Ending.returned (.int .i64 z)) hw, HW.out⟩
set_option maxHeartbeats 400000 in
theorem Reader_U16.no (R : Nat) (s : ByteArray) (n : Nat) (w : World) (h : Rd w R s n) (hm : s.size < n + 2) :
    Calls Tryd.prog 66 #[.pointer (some ⟨R, 0, none⟩)] w fun e w' => e = stopped 2 ∧ ∃ k, w' = w.drewN k := by
  go_enter Tryd.func66, Tryd.ntmps66
  go_wp2_with fail
  refine (Reader_number.no R s n 2 _ h hm).mono ?_
  rintro e w1 ⟨rfl, k1, rfl⟩
  exact ⟨rfl, rfl, _, rfl⟩

theorem be_small_U32 (s : ByteArray) (n : Nat) : be (bl (s.extract n (n + 4))) < 4294967296 := by
  have := be_lt_of (bl (s.extract n (n + 4))) 4 (by rw [bl_length]; simp only [ByteArray.size_extract]; omega)
  simpa using this

set_option maxHeartbeats 400000 in
theorem Reader_U32.yes (R : Nat) (s : ByteArray) (n : Nat) (w : World) (h : Rd w R s n) (hm : n + 4 ≤ s.size) :
    Calls Tryd.prog 68 #[.pointer (some ⟨R, 0, none⟩)] w fun e w' => e = .returned (.int .u32 (be (bl (s.extract n (n + 4))) : Nat)) ∧ Went w w' R s (n + 4) := by
  have hw : IntKind.u32.wrap ((be (bl (s.extract n (n + 4))) : Nat) : Int) = ((be (bl (s.extract n (n + 4))) : Nat) : Int) := by have := be_small_U32 s n; exact wraps_u32 _ (by omega) (by omega)
  go_enter Tryd.func68, Tryd.ntmps68
  go_wp2_with fail
  refine (Reader_number.yes R s n 4 _ h hm (by decide)).mono ?_
  rintro e w1 ⟨rfl, hw1⟩
  have HW := Aside0.mk hw1
  clear hw1
  go_wp2
  go_ret
  exact ⟨by first | rfl | exact congrArg (fun z => Ending.returned (.int .i64 z)) hw, HW.out⟩
set_option maxHeartbeats 400000 in
theorem Reader_U32.no (R : Nat) (s : ByteArray) (n : Nat) (w : World) (h : Rd w R s n) (hm : s.size < n + 4) :
    Calls Tryd.prog 68 #[.pointer (some ⟨R, 0, none⟩)] w fun e w' => e = stopped 2 ∧ ∃ k, w' = w.drewN k := by
  go_enter Tryd.func68, Tryd.ntmps68
  go_wp2_with fail
  refine (Reader_number.no R s n 4 _ h hm).mono ?_
  rintro e w1 ⟨rfl, k1, rfl⟩
  exact ⟨rfl, rfl, _, rfl⟩

end Go.Proofs.YtcmalglippmocaaDoor.G
end

section
namespace Go.Proofs.YtcmalglippmocaaDoor.G
open Go.RowKit Go.Proofs.YtcmalglippmocaaDoorW.PrintWords Go.Proofs.YtcmalglippmocaaDoorW.PrintLast Go.Proofs.YtcmalglippmocaaDoorW.PrintMore Go.Proofs.YtcmalglippmocaaDoor.Pal

def did (e : Int) : Ending := if e = 0 then .returned (.tuple #[]) else stopped e

theorem stop_is (v : Value) (W : World) : (Instr.typeAssert (.iface 175 v) 20 175 true).run Tryd.prog W = .ok (.tuple #[v, .bool true]) W := by kernel_rfl

set_option maxHeartbeats 400000 in
theorem Read1_caught (p : Nat) (x e : Int) (w : World) (hc : w.cell? ⟨p, 0, none⟩ = some (.int .i64 x)) (hz : w.frozen? ⟨p, 0, none⟩ = false) (hp : p < w.heap.size) :
    CallsD Tryd.prog 104 #[.pointer (some ⟨p, 0, none⟩)] (.panicking [{ v := stopV e, recovered := false }]) w fun e1 u' w' =>
      e1 = .returned (.tuple #[]) ∧ u' = .panicking [{ v := stopV e, recovered := true }] ∧ w' = (w.setCell ⟨p, 0, none⟩ (.int .i64 e)).alloc (.cells #[.int .i64 e] 175) := by
  have hta : ∀ (v : Value) (W : World), (Instr.typeAssert (.iface 175 v) 20 175 true).run Tryd.prog W = .ok (.tuple #[v, .bool true]) W := stop_is
  refine callsD_of_wpS Tryd.func104 rfl fun c₀ cs hu => ?_
  simp only [Tryd.ntmps104, List.size_toArray, List.length_cons, List.length_nil, Nat.reduceAdd, Nat.reduceSub, Array.replicate_succ,
     Array.replicate_zero, List.push_toArray, List.append_toArray, List.nil_append, List.cons_append]
  apply wpS_seq
  apply wpS_region
  simp [wpOpsS, go_sem, recoverD, hu, Exit.thenS, stopV]
  apply wpS_of_wp
  go_wp2
  exact ⟨rfl, _, rfl, _, results_none rfl _ _ _, rfl, rfl, rfl⟩

set_option maxHeartbeats 400000 in
theorem Read1_idle (p : Nat) (w : World) :
    CallsD Tryd.prog 104 #[.pointer (some ⟨p, 0, none⟩)] .returning w fun e1 u' w' => e1 = .returned (.tuple #[]) ∧ u' = .returning ∧ w' = w := by
  refine callsD_of_wpS Tryd.func104 rfl fun c₀ cs hu => ?_
  simp only [Tryd.ntmps104, List.size_toArray, List.length_cons, List.length_nil, Nat.reduceAdd, Nat.reduceSub, Array.replicate_succ,
     Array.replicate_zero, List.push_toArray, List.append_toArray, List.nil_append, List.cons_append]
  apply wpS_seq
  apply wpS_region
  simp [wpOpsS, go_sem, recoverD, hu, Exit.thenS]
  apply wpS_of_wp
  go_wp2
  refine ⟨rfl, .returning, ?_, _, results_none rfl _ _ _, rfl, rfl, rfl⟩
  cases c₀
  simp_all

def readW (w : World) (s : ByteArray) : World := (w.alloc (.cells #[.int .i64 0] 24)).alloc (.cells #[.string s, .int .i64 0] 177)
theorem readW_rd (w : World) (s : ByteArray) (hs : s.size ≤ 140737488351232) : Rd (readW w s) (w.heap.size + 1) s 0 := by
  have h := Blk.new (w.alloc (.cells #[.int .i64 0] 24)) 177 #[.string s, .int .i64 0]
  rw [World.size_alloc] at h
  exact ⟨h, by omega, hs⟩
theorem readW_res (w : World) (s : ByteArray) : Blk (readW w s) w.heap.size 24 #[.int .i64 0] := (Blk.new w _ _).alloc _
theorem readW_below (w : World) (s : ByteArray) : Below w.heap.size w (readW w s) := ((Below.refl _ _).alloc (Nat.le_refl _) _).alloc (by simp) _
set_option maxHeartbeats 800000 in
theorem Read_calls (g : FuncId) (cap : Array Value) (s : ByteArray) (er : Int) (w : World) (Q : World → Prop)
    (hg : ∀ args w, (callFunc g args).run Tryd.prog w = .ok (.enter g args) w)
    (hdo : Calls Tryd.prog g (#[.pointer (some ⟨w.heap.size + 1, 0, none⟩)] ++ cap) (readW w s) fun e w2 => e = did er ∧ Blk w2 w.heap.size 24 #[.int .i64 0] ∧ Q w2) :
    Calls Tryd.prog 63 #[.string s, .func (.func g) #[] cap] w fun e w' => e = .returned (.int .i64 er) ∧ ∃ w2, Q w2 ∧ w2.grownBy w' (some w.heap.size) := by
  have hmf : ∀ (fn : Fn) (first cap : Array Value) (w : World), (Instr.makeFunc fn first cap).run Tryd.prog w = .ok (.func fn first cap) w := fun _ _ _ _ => rfl
  have HD := Lib.hid hdo
  clear hdo
  go_enter_defers Tryd.func63, Tryd.ntmps63
  go_wp2_with fail
  refine HD.out.mono ?_
  rintro e w2 ⟨rfl, hb, hq⟩
  have HQ := Lib.hid hq
  clear hq HD
  have c0 := hb.cell 0 _ rfl
  have c1 := hb.free 0
  have HB := Aside0.mk hb
  clear hb
  by_cases h0 : er = 0
  · subst h0
    rw [show did 0 = .returned (.tuple #[]) from rfl]
    go_wp2
    refine leaves_cons (f := 104) (args := #[.pointer (some ⟨w.heap.size, 0, none⟩)]) (by simp) (by simp [go_sem]) ?_
    refine (Read1_idle w.heap.size _).mono ?_
    rintro e u' w'' ⟨rfl, rfl, rfl⟩
    have c2 := (HB.out.set 0 (.int .i64 0)).cell 0 _ rfl
    refine ⟨.int .i64 0, ?_, rfl, w2, HQ.out, grown_setCell _ _ _ _⟩
    simp [results, Tryd.results63, go_sem]
    rw [c2]
    rfl
  · rw [show did er = stopped er from if_neg h0]
    refine leaves_cons (f := 104) (args := #[.pointer (some ⟨w.heap.size, 0, none⟩)]) (by simp) (by simp [go_sem]) ?_
    refine (Read1_caught w.heap.size 0 er w2 c0 c1 HB.out.lt).mono ?_
    rintro e u' w'' ⟨rfl, rfl, rfl⟩
    have c2 := (((HB.out.set 0 (.int .i64 er))).alloc (.cells #[.int .i64 er] 175)).cell 0 _ rfl
    refine ⟨.int .i64 er, ?_, rfl, w2, HQ.out, grown_alloc (grown_setCell _ _ _ _) _⟩
    simp [results, Tryd.results63, go_sem]
    rw [c2]
    rfl
end Go.Proofs.YtcmalglippmocaaDoor.G
end
