/- Texts of this session, joined: each is a section. -/
import Derived.Test.YtcmalglippmocaaMClampTells5
import Derived.Test.YtcmalglippmocaaMClampTells10
import Derived.Test.YtcmalglippmocaaMClampTells11
import Derived.Test.YtcmalglippmocaaMClampTells2
import Derived.Laws.OwnMore
import Derived.StillTailTactics
import Derived.WalkLawsBesides
set_option linter.unusedVariables false
set_option linter.unusedSimpArgs false
section
namespace Go.Proofs.Ytcmalglippmocaa.G
open Go.RowKit Go.Proofs.YtcmalglippmocaaW.PrintWords Go.Proofs.YtcmalglippmocaaW.PrintLast Go.Proofs.YtcmalglippmocaaW.PrintMore Go.Proofs.Ytcmalglippmocaa.Pal
abbrev seg0 : Value := .agg #[.int .i64 0, .int .i64 0, .int .u32 0, .int .u32 0, .int .i64 0, .int .i64 0, .int .i64 0, .string ⟨#[]⟩, .string ⟨#[]⟩]
set_option maxHeartbeats 4000000 in
set_option maxRecDepth 100000 in
theorem ref07_short (s : ByteArray) (hs : s.size < 20) (w : World) :
    Calls Try.prog 30 #[.string s] w fun e w' => e = .returned (.tuple #[seg0, .int .i64 0, .int .i64 2]) ∧ Below w.heap.size w w' := by
  have d1 : decide ((s.size : Int) < 20) = true := decide_eq_true (by omega)
  have d2 : decide (s.size < 20) = true := decide_eq_true hs
  clear hs
  go_enter Try.func30, Try.ntmps30
  go_wp2
  exact bodyPost_ret (v := .tuple #[seg0, .int .i64 0, .int .i64 2]) (by simp [results, Try.results30, go_sem]) rfl ⟨rfl, ((Below.refl _ _).alloc (Nat.le_refl _) _).alloc (by simp) _⟩

theorem byte12 (s : ByteArray) (h : 12 < s.size) : (s[12]'h).toNat = be (bl (s.extract 12 13)) := by
  have e : bl (s.extract 12 13) = [s[12]'h] := by
    have : bl (s.extract 12 13) = ((bl s).take 13).drop 12 := by simp [bl, ByteArray.data_extract, List.drop_take]
    rw [this, List.drop_take, List.drop_eq_getElem_cons (by rw [bl_length]; exact h)]
    rfl
  rw [e]
  simp [be]
def two07 (s : ByteArray) (j : Nat) : Int := ((be (bl (s.extract (2 * j) (2 * j + 2))) : Nat) : Int)
def row07 (s : ByteArray) (i : Nat) : Array Value := ((List.range 10).map fun j => Value.int .i64 (if j < i then two07 s j else 0)).toArray
theorem arith07 (a b : Int) (ha : 0 ≤ a ∧ a < 65536) (hb : 0 ≤ b ∧ b < 65536) : IntKind.i64.wrap (a * 65536) = a * 65536 ∧ IntKind.i64.wrap (a * 65536 + b) = a * 65536 + b ∧ wrap64 (a * 65536) = a * 65536 ∧ wrap64 (a * 65536 + b) = a * 65536 + b ∧ IntKind.u32.wrap (a * 65536 + b) = a * 65536 + b ∧ (a * 65536 + b) % 4294967296 = a * 65536 + b := by
  refine ⟨by rw [IntKind.wrap_i64]; omega, by rw [IntKind.wrap_i64]; omega, by unfold wrap64; omega, by unfold wrap64; omega, wraps_u32 _ (by omega) (by omega), by omega⟩
theorem arith07b (a : Int) (ha : 0 ≤ a ∧ a < 65536) : Int.tmod a 256 = a % 256 ∧ IntKind.i64.wrap (a % 256) = a % 256 :=
  ⟨Int.tmod_eq_emod_of_nonneg ha.1, by rw [IntKind.wrap_i64]; omega⟩
theorem row07_set (s : ByteArray) (i : Nat) (hi : i < 10) : (row07 s i).setIfInBounds i (.int .i64 (two07 s i)) = row07 s (i + 1) := by
  have : i = 0 ∨ i = 1 ∨ i = 2 ∨ i = 3 ∨ i = 4 ∨ i = 5 ∨ i = 6 ∨ i = 7 ∨ i = 8 ∨ i = 9 := by omega
  rcases this with rfl | rfl | rfl | rfl | rfl | rfl | rfl | rfl | rfl | rfl <;> simp [row07, List.range_succ]
theorem two07_lt (s : ByteArray) (j : Nat) : 0 ≤ two07 s j ∧ two07 s j < 65536 := by
  have := be_lt_of (bl (s.extract (2 * j) (2 * j + 2))) 2 (by rw [bl_length]; simp only [ByteArray.size_extract]; omega)
  unfold two07
  have e : (256 : Nat) ^ 2 = 65536 := by decide
  omega
theorem nine_put {W : World} {B : Nat} {T : TypeId} {c0 c1 c2 c3 c4 c5 c6 c7 c8 v0 v1 v2 v3 v4 v5 v6 v7 v8 : Value} (h : W.heap[B]? = some (.cells #[c0, c1, c2, c3, c4, c5, c6, c7, c8] T (0, 0))) :
    Blk (((((((((W.setCell ⟨B, 0, none⟩ v0).setCell ⟨B, 1, none⟩ v1).setCell ⟨B, 2, none⟩ v2).setCell ⟨B, 3, none⟩ v3).setCell ⟨B, 4, none⟩ v4).setCell ⟨B, 5, none⟩ v5).setCell ⟨B, 6, none⟩ v6).setCell ⟨B, 7, none⟩ v7).setCell ⟨B, 8, none⟩ v8) B T #[v0, v1, v2, v3, v4, v5, v6, v7, v8] :=
  blk_put (cs := #[v0, v1, v2, v3, v4, v5, v6, v7, c8]) (blk_put (cs := #[v0, v1, v2, v3, v4, v5, v6, c7, c8]) (blk_put (cs := #[v0, v1, v2, v3, v4, v5, c6, c7, c8]) (blk_put (cs := #[v0, v1, v2, v3, v4, c5, c6, c7, c8]) (blk_put (cs := #[v0, v1, v2, v3, c4, c5, c6, c7, c8]) (blk_put (cs := #[v0, v1, v2, c3, c4, c5, c6, c7, c8]) (blk_put (cs := #[v0, v1, c2, c3, c4, c5, c6, c7, c8]) (blk_put (cs := #[v0, c1, c2, c3, c4, c5, c6, c7, c8]) (blk_put (cs := #[c0, c1, c2, c3, c4, c5, c6, c7, c8]) h 0 v0 rfl) 1 v1 rfl) 2 v2 rfl) 3 v3 rfl) 4 v4 rfl) 5 v5 rfl) 6 v6 rfl) 7 v7 rfl) 8 v8 rfl
theorem nine_far {W : World} {B g : Nat} {T : TypeId} {cs : Array Value} {v0 v1 v2 v3 v4 v5 v6 v7 v8 : Value} (h : Blk W g T cs) (hg : g ≠ B) :
    Blk (((((((((W.setCell ⟨B, 0, none⟩ v0).setCell ⟨B, 1, none⟩ v1).setCell ⟨B, 2, none⟩ v2).setCell ⟨B, 3, none⟩ v3).setCell ⟨B, 4, none⟩ v4).setCell ⟨B, 5, none⟩ v5).setCell ⟨B, 6, none⟩ v6).setCell ⟨B, 7, none⟩ v7).setCell ⟨B, 8, none⟩ v8) g T cs :=
  blk_far (blk_far (blk_far (blk_far (blk_far (blk_far (blk_far (blk_far (blk_far h hg _) hg _) hg _) hg _) hg _) hg _) hg _) hg _) hg _
theorem nine_below {w W : World} {B : Nat} {v0 v1 v2 v3 v4 v5 v6 v7 v8 : Value} (h : Below w.heap.size w W) (hg : w.heap.size ≤ B) :
    Below w.heap.size w (((((((((W.setCell ⟨B, 0, none⟩ v0).setCell ⟨B, 1, none⟩ v1).setCell ⟨B, 2, none⟩ v2).setCell ⟨B, 3, none⟩ v3).setCell ⟨B, 4, none⟩ v4).setCell ⟨B, 5, none⟩ v5).setCell ⟨B, 6, none⟩ v6).setCell ⟨B, 7, none⟩ v7).setCell ⟨B, 8, none⟩ v8) :=
  below_set (below_set (below_set (below_set (below_set (below_set (below_set (below_set (below_set h hg) hg) hg) hg) hg) hg) hg) hg) hg
def ref07T : Bool × List (List Nat × List Nat) := (true, [([], []), ([0], [0]), ([1], [1]), ([], []), ([3], [3]), ([4], [4]), ([], []), ([6], [6]), ([7], [7]), ([8], [8]), ([], []), ([10], [10]), ([11], [11]), ([9, 12], [9, 12]), ([13], [13]), ([], []), ([15], [15]), ([16], [16]), ([17], [17]), ([], []), ([19], [19]), ([20], [20]), ([18, 21], [18, 21]), ([22], [22]), ([], []), ([24], [24]), ([25], [25]), ([26], [26]), ([], []), ([28], [28]), ([29], [29]), ([], []), ([31], [31]), ([32], [32]), ([], []), ([], []), ([34, 35], [34, 35]), ([], []), ([], []), ([37, 38], [37, 38]), ([2, 5, 14, 23, 27, 30, 33, 36, 39], [2, 5, 14, 23, 27, 30, 33, 36, 39]), ([], []), ([41], [41]), ([42], [42]), ([40, 0, 1, 2, 3, 4, 5, 6, 7, 8, 9, 10, 11, 12, 13, 14, 15, 16, 17, 18, 19, 20, 21, 22, 23, 24, 25, 26, 27, 28, 29, 30, 31, 32, 33, 34, 35, 36, 37, 38, 39, 40], [40]), ([43, 44, 0, 1, 2, 3, 4, 5, 6, 7, 8, 9, 10, 11, 12, 13, 14, 15, 16, 17, 18, 19, 20, 21, 22, 23, 24, 25, 26, 27, 28, 29, 30, 31, 32, 33, 34, 35, 36, 37, 38, 39, 40, 41, 42, 43, 44], [43]), ([45, 0, 1, 2, 3, 4, 5, 6, 7, 8, 9, 10, 11, 12, 13, 14, 15, 16, 17, 18, 19, 20, 21, 22, 23, 24, 25, 26, 27, 28, 29, 30, 31, 32, 33, 34, 35, 36, 37, 38, 39, 40, 41, 42, 43, 44, 45], [])])
def ref07B : List Nat := [0, 1, 3, 0, 8, 24, 0, 64, 192, 448, 0, 1024, 3072, 8128, 16320, 0, 32768, 98304, 229376, 0, 524288, 1572864, 4161536, 8355840, 0, 16777216, 50331648, 117440512, 0, 268435456, 805306368, 0, 2147483648, 6442450944, 0, 0, 51539607552, 0, 0, 412316860416, 1099511627775, 0, 2199023255552, 6597069766656, 2199023255551, 35184372088831, 70368744177663]
theorem ref07tab : rtab .any (opsOf Try.f30 17) = ref07T := by kernel_rfl
theorem ref07bits : waitsOk ref07T.2 ref07B = true := by kernel_rfl
theorem make10 (s : ByteArray) (wz : World) : (Instr.makeSlice 106 (.int .i64 10) (.int .i64 10)).run Try.prog wz = Result.ok (Value.slice (some ⟨wz.heap.size, 0, none⟩) 10 10) (wz.alloc (.cells (row07 s 0) 3)) := by
  obtain ⟨i0, hi, hz0, hz1, hz2⟩ := info_parts info3
  have h := run_makeSlice (P := Try.prog) wz 106 3 i0 (.int .i64 0) Try.underlying106 hi hz0 .i64 .i64 10 10 (by decide) (by decide) (by rw [hz1]; decide) (by rw [hz2]; decide) (by decide)
  rw [hz1] at h
  have e : madeCells (Value.int .i64 0).cells ((10 : Int).toNat * 1) = row07 s 0 := by
    apply Array.ext
    · simp [madeCells, row07]
    · intro i h1 h2
      simp [madeCells, row07, Value.cells, Nat.mod_one]
  rw [e] at h
  exact h
abbrev ended07 (er : Int) (w : World) : Ending → World → Prop := fun e w' => e = .returned (.tuple #[seg0, .int .i64 0, .int .i64 er]) ∧ Below w.heap.size w w'
set_option maxHeartbeats 4000000 in
set_option maxRecDepth 100000 in
theorem ref07_long (s : ByteArray) (h20 : 20 ≤ s.size) (hs : s.size ≤ 1000000) (n b : Nat) (hb : b = be (bl (s.extract 12 13))) (hn : n = b / 16 * 4) (ok : Bool) (hok : rightO (bl (s.extract 20 n)) = ok) (w : World) :
    Calls Try.prog 30 #[.string s] w fun e w' => (if n < 20 ∨ s.size < n then ended07 4 w e w' else if b % 16 = 0 then (if ok = true then (e = .returned (.tuple #[.agg #[.int .i64 (two07 s 0), .int .i64 (two07 s 1), .int .u32 (two07 s 2 * 65536 + two07 s 3), .int .u32 (two07 s 4 * 65536 + two07 s 5), .int .i64 (two07 s 6 % 256), .int .i64 (two07 s 7), .int .i64 (two07 s 9), .string (s.extract 20 n), .string (s.extract n s.size)], .int .i64 (two07 s 8), .int .i64 0]) ∧ Below w.heap.size w w') else ended07 4 w e w') else ended07 9 w e w') := by
  have d1 : decide ((s.size : Int) < 20) = false := decide_eq_false (by omega)
  have d2 : decide (s.size < 20) = false := decide_eq_false (by omega)
  have i12 : (12 : Int) < (s.size : Int) := by omega
  have j12 : 12 < s.size := by omega
  have x12 : s[12].toNat = b := by rw [hb]; exact byte12 s j12
  have hb256 : b < 256 := by rw [hb]; exact be_lt_of (bl (s.extract 12 13)) 1 (by rw [bl_length]; simp only [ByteArray.size_extract]; omega)
  have e1 : (b : Int) / 16 * 4 = (n : Int) := by omega
  have HS := Aside0.mk (show 20 ≤ s.size ∧ s.size ≤ 1000000 ∧ n ≤ 60 from ⟨h20, hs, by omega⟩)
  clear hb hn h20 hs
  have HOK := Aside0.mk hok
  clear hok
  by_cases c1 : n < 20
  · have q1 : decide ((n : Int) < 20) = true := decide_eq_true (by omega)
    have q2 : decide (n < 20) = true := decide_eq_true c1
    simp only [if_pos (Or.inl c1 : n < 20 ∨ s.size < n)]
    clear c1
    go_enter Try.func30, Try.ntmps30
    go_wp2
    exact bodyPost_ret (v := .tuple #[seg0, .int .i64 0, .int .i64 4]) (by simp [results, Try.results30, go_sem]) rfl ⟨rfl, ((Below.refl _ _).alloc (Nat.le_refl _) _).alloc (by simp) _⟩
  have q1 : decide ((n : Int) < 20) = false := decide_eq_false (by omega)
  have q2 : decide (n < 20) = false := decide_eq_false c1
  by_cases c2 : s.size < n
  · have q3 : decide ((s.size : Int) < (n : Int)) = true := decide_eq_true (by omega)
    have q4 : decide (s.size < n) = true := decide_eq_true c2
    simp only [if_pos (Or.inr c2 : n < 20 ∨ s.size < n)]
    clear c1 c2
    go_enter Try.func30, Try.ntmps30
    go_wp2
    exact bodyPost_ret (v := .tuple #[seg0, .int .i64 0, .int .i64 4]) (by simp [results, Try.results30, go_sem]) rfl ⟨rfl, ((Below.refl _ _).alloc (Nat.le_refl _) _).alloc (by simp) _⟩
  have q3 : decide ((s.size : Int) < (n : Int)) = false := decide_eq_false (by omega)
  have q4 : decide (s.size < n) = false := decide_eq_false c2
  simp only [if_neg (fun h => Or.elim h c1 c2 : ¬ (n < 20 ∨ s.size < n))]
  have HN := Aside0.mk (show 20 ≤ n ∧ n ≤ s.size by omega)
  have l1 : (20 : Int) ≤ (n : Int) := by omega
  have l2 : 20 ≤ n := by omega
  have l3 : (n : Int) ≤ (s.size : Int) := by omega
  have l4 : n ≤ s.size := by omega
  clear c1 c2
  by_cases c3 : b % 16 = 0
  case neg =>
    have r1 : ((b : Int) % 16 != 0) = true := by rw [bne_iff_ne]; omega
    have r2 : (b % 16 != 0) = true := by rw [bne_iff_ne]; exact c3
    simp only [if_neg c3]
    clear c3
    go_enter Try.func30, Try.ntmps30
    go_wp2
    exact bodyPost_ret (v := .tuple #[seg0, .int .i64 0, .int .i64 9]) (by simp [results, Try.results30, go_sem]) rfl ⟨rfl, ((Below.refl _ _).alloc (Nat.le_refl _) _).alloc (by simp) _⟩
  have r1 : ((b : Int) % 16 != 0) = false := by rw [bne_eq_false_iff_eq]; omega
  have r2 : (b % 16 != 0) = false := by rw [bne_eq_false_iff_eq]; exact c3
  simp only [if_pos c3]
  clear c3
  have hw := Pure.walk07_is (s.extract 20 n) (2 * (s.extract 20 n).size + 2) (by simp only [ByteArray.size_extract]; omega) (Nat.le_refl _)
  have hw2 := Pure.walkR_snd (s.extract 20 n)
  obtain ⟨wl, hwl⟩ : ∃ wl, wl = (Pure.walkR (s.extract 20 n)).1 := ⟨_, rfl⟩
  rw [show Pure.walkR (s.extract 20 n) = (wl, ok) from Prod.ext hwl.symm (hw2.trans HOK.out)] at hw
  have HW := Aside0.mk hw
  clear hw hw2 hwl HOK
  go_enter Try.func30, Try.ntmps30
  go_wp2_with fail
  refine (palanquinref07_Walk.calls _ _ _ _ _ HW.out).mono ?_
  rintro e w2 ⟨v0, rfl, _, g1⟩
  have b0 := Blk.new (w.alloc (.cells #[.int .i64 0, .int .i64 0, .int .u32 0, .int .u32 0, .int .i64 0, .int .i64 0, .int .i64 0, .string ⟨#[]⟩, .string ⟨#[]⟩] 69)) 69 #[.int .i64 0, .int .i64 0, .int .u32 0, .int .u32 0, .int .i64 0, .int .i64 0, .int .i64 0, .string ⟨#[]⟩, .string ⟨#[]⟩]
  rw [World.size_alloc] at b0
  have HK0 := Aside0.mk (Blk.below ((Blk.new w 69 #[.int .i64 0, .int .i64 0, .int .u32 0, .int .u32 0, .int .i64 0, .int .i64 0, .int .i64 0, .string ⟨#[]⟩, .string ⟨#[]⟩]).alloc (.cells #[.int .i64 0, .int .i64 0, .int .u32 0, .int .u32 0, .int .i64 0, .int .i64 0, .int .i64 0, .string ⟨#[]⟩, .string ⟨#[]⟩] 69)) g1 (by first | (simp; done) | (simp; omega)))
  have HK1 := Aside0.mk (Blk.below b0 g1 (by first | (simp; done) | (simp; omega)))
  have HB := Aside0.mk ((((Below.refl w.heap.size w).alloc (Nat.le_refl _) (.cells #[.int .i64 0, .int .i64 0, .int .u32 0, .int .u32 0, .int .i64 0, .int .i64 0, .int .i64 0, .string ⟨#[]⟩, .string ⟨#[]⟩] 69)).alloc (by simp) (.cells #[.int .i64 0, .int .i64 0, .int .u32 0, .int .u32 0, .int .i64 0, .int .i64 0, .int .i64 0, .string ⟨#[]⟩, .string ⟨#[]⟩] 69)).trans (g1.mono (by simp; omega)))
  have HZ := Aside0.mk (show w.heap.size + 2 ≤ w2.heap.size by have := g1.size; simp at this; omega)
  clear g1 b0
  cases ok
  case false =>
    have k0 := HK0.out.cells
    have k1 := HK1.out.cells
    have z0 := HK0.out.free
    go_wp2
    clear k0 k1 z0
    have HF := Aside0.mk (nine_put (v0 := .int .i64 0) (v1 := .int .i64 0) (v2 := .int .u32 0) (v3 := .int .u32 0) (v4 := .int .i64 0) (v5 := .int .i64 0) (v6 := .int .i64 0) (v7 := .string ⟨#[]⟩) (v8 := .string ⟨#[]⟩) HK0.out)
    replace HB := Aside0.mk (nine_below (v0 := .int .i64 0) (v1 := .int .i64 0) (v2 := .int .u32 0) (v3 := .int .u32 0) (v4 := .int .i64 0) (v5 := .int .i64 0) (v6 := .int .i64 0) (v7 := .string ⟨#[]⟩) (v8 := .string ⟨#[]⟩) HB.out (Nat.le_refl _))
    generalize (((((((((w2.setCell ⟨w.heap.size, 0, none⟩ (.int .i64 0)).setCell ⟨w.heap.size, 1, none⟩ (.int .i64 0)).setCell ⟨w.heap.size, 2, none⟩ (.int .u32 0)).setCell ⟨w.heap.size, 3, none⟩ (.int .u32 0)).setCell ⟨w.heap.size, 4, none⟩ (.int .i64 0)).setCell ⟨w.heap.size, 5, none⟩ (.int .i64 0)).setCell ⟨w.heap.size, 6, none⟩ (.int .i64 0)).setCell ⟨w.heap.size, 7, none⟩ (.string ⟨#[]⟩)).setCell ⟨w.heap.size, 8, none⟩ (.string ⟨#[]⟩)) = wf at HF HB ⊢
    have kf := HF.out.cells
    exact bodyPost_ret (v := .tuple #[seg0, .int .i64 0, .int .i64 4]) (by simp [results, Try.results30, go_sem, kf]) rfl ⟨rfl, HB.out⟩
  case true =>
    have hmk := make10 s w2
    go_wp2
    clear hmk
    replace HK0 := Aside0.mk (HK0.out.alloc (.cells (row07 s 0) 3))
    replace HK1 := Aside0.mk (HK1.out.alloc (.cells (row07 s 0) 3))
    replace HB := Aside0.mk (HB.out.alloc HB.out.size (.cells (row07 s 0) 3))
    have HR := Aside0.mk (Blk.new w2 3 (row07 s 0))
    generalize w2.alloc (.cells (row07 s 0) 3) = w3 at HK0 HK1 HB HR ⊢
    obtain ⟨B, hB⟩ : ∃ B, B = w2.heap.size := ⟨_, rfl⟩
    have HBz := Aside0.mk (show w.heap.size + 2 ≤ B by rw [hB]; exact HZ.out)
    rw [← hB] at HR ⊢
    clear hB HZ
    go_loopg [10] 10 (fun kq v10 wr => ∃ i : Nat, v10 = .int .i64 (i : Int) ∧ Aside0 (i + kq = 10) ∧ Aside0 (Blk wr B 3 (row07 s i)) ∧ Aside0 (Blk wr w.heap.size 69 #[.int .i64 0, .int .i64 0, .int .u32 0, .int .u32 0, .int .i64 0, .int .i64 0, .int .i64 0, .string ⟨#[]⟩, .string ⟨#[]⟩]) ∧ Aside0 (Blk wr (w.heap.size + 1) 69 #[.int .i64 0, .int .i64 0, .int .u32 0, .int .u32 0, .int .i64 0, .int .i64 0, .int .i64 0, .string ⟨#[]⟩, .string ⟨#[]⟩]) ∧ Aside0 (Below w.heap.size w wr))
    case atStart => exact ⟨0, rfl, ⟨rfl⟩, HR, HK0, HK1, HB⟩
    case round =>
      obtain ⟨i, rfl, HI, HR, HK0, HK1, HB⟩ := hrel
      by_cases hlt : i < 10
      · have q1 : decide ((i : Int) < 10) = true := decide_eq_true (by omega)
        have q2 : decide (i < 10) = true := decide_eq_true hlt
        have hi0 : (0 : Int) ≤ (i : Int) ∧ (i : Int) < 10 := by omega
        obtain ⟨p, hp⟩ : ∃ p, p = 2 * i := ⟨_, rfl⟩
        have p1 : 2 * (i : Int) = (p : Int) := by omega
        obtain ⟨z, hz⟩ : ∃ z, z = p + 2 := ⟨_, rfl⟩
        have p2 : (p : Int) + 2 = (z : Int) := by omega
        have p3 : (0 : Int) ≤ (p : Int) ∧ (p : Int) ≤ (z : Int) ∧ (z : Int) ≤ (s.size : Int) := by have := HS.out; omega
        have p4 : p ≤ z := by omega
        have p5 : z ≤ s.size := by have := HS.out; omega
        have hz2 : (s.extract p z).size = 2 := by simp only [ByteArray.size_extract]; have := HS.out; omega
        have HV := Aside0.mk (show palanquinref01_Value.f 3 (s.extract p z) = some (two07 s i) by
          rw [Pure.value_is _ (by rw [hz2]; decide) 3 (by rw [hz2]; decide)]; unfold two07; rw [hz, hp])
        have hv := two07_lt s i
        have hv2 : wrap64 (two07 s i) = two07 s i := by unfold wrap64; omega
        have HP := Aside0.mk hp
        clear hp hz2 hz
        go_wp2_with fail
        refine (palanquinref01_Value.calls 3 _ _ _ HV.out).mono ?_
        rintro e w' ⟨rfl, ⟨nd, rfl⟩⟩
        have hc := HR.out.cells i
        have hc2 : (row07 s i)[i]? = some (.int .i64 0) := by simp [row07, hlt]
        rw [hc2] at hc
        have hf := HR.out.free i
        have i10 : i < 10 := hlt
        clear p1 p2 p3 p4 p5
        have hw1 : wrap64 ((i : Int) + 1) = ((i + 1 : Nat) : Int) := by unfold wrap64; omega
        clear hc2
        go_wp2
        go_roundg (10 - (i + 1))
        case measure => have := HI.out; omega
        case rel =>
          have hR : Blk ((wr.drewN nd).setCell ⟨B, i, none⟩ (.int .i64 (two07 s i))) B 3 (row07 s (i + 1)) := blk_put (blk_drewN HR.out nd) i (.int .i64 (two07 s i)) (row07_set s i i10)
          refine ⟨i + 1, by first | rfl | exact congrArg (Value.int .i64) hw1 | (rw [← hw1]; rfl), ⟨by have := HI.out; omega⟩, ⟨?_⟩, ⟨?_⟩, ⟨?_⟩, ⟨?_⟩⟩
          · exact hR
          · exact blk_far (blk_drewN HK0.out nd) (by have := HBz.out; show w.heap.size ≠ B; omega) _
          · exact blk_far (blk_drewN HK1.out nd) (by have := HBz.out; show w.heap.size + 1 ≠ B; omega) _
          · exact below_set (pw_below_drewN HB.out nd) (by have := HBz.out; omega)
      · obtain rfl : i = 10 := by have := HI.out; omega
        have q1 : decide (((10 : Nat) : Int) < 10) = false := by decide
        have hv0 := two07_lt s 0
        have hv1 := two07_lt s 1
        have hv2 := two07_lt s 2
        have hv3 := two07_lt s 3
        have hv4 := two07_lt s 4
        have hv5 := two07_lt s 5
        have hv6 := two07_lt s 6
        obtain ⟨m2, m3, n2, n3, u3, w3'⟩ := arith07 _ _ hv2 hv3
        obtain ⟨m4, m5, n4, n5, u5, w5'⟩ := arith07 _ _ hv4 hv5
        obtain ⟨t6, y6⟩ := arith07b _ hv6
        clear hv0 hv1 hv2 hv3 hv4 hv5 hv6
        have cell := HR.out.cells
        have v0c : wr.cell? ⟨B, 0, none⟩ = some (.int .i64 (two07 s 0)) := (cell 0).trans (by simp [row07])
        have v1c : wr.cell? ⟨B, 1, none⟩ = some (.int .i64 (two07 s 1)) := (cell 1).trans (by simp [row07])
        have v2c : wr.cell? ⟨B, 2, none⟩ = some (.int .i64 (two07 s 2)) := (cell 2).trans (by simp [row07])
        have v3c : wr.cell? ⟨B, 3, none⟩ = some (.int .i64 (two07 s 3)) := (cell 3).trans (by simp [row07])
        have v4c : wr.cell? ⟨B, 4, none⟩ = some (.int .i64 (two07 s 4)) := (cell 4).trans (by simp [row07])
        have v5c : wr.cell? ⟨B, 5, none⟩ = some (.int .i64 (two07 s 5)) := (cell 5).trans (by simp [row07])
        have v6c : wr.cell? ⟨B, 6, none⟩ = some (.int .i64 (two07 s 6)) := (cell 6).trans (by simp [row07])
        have v7c : wr.cell? ⟨B, 7, none⟩ = some (.int .i64 (two07 s 7)) := (cell 7).trans (by simp [row07])
        have v8c : wr.cell? ⟨B, 8, none⟩ = some (.int .i64 (two07 s 8)) := (cell 8).trans (by simp [row07])
        have v9c : wr.cell? ⟨B, 9, none⟩ = some (.int .i64 (two07 s 9)) := (cell 9).trans (by simp [row07])
        clear cell
        go_wp2
        have hRB := HR.out
        have hRK := HK0.out
        have hB57 := HB.out.drew
        refine start_ (n := 47) (S := fun w' => w'.cell? ⟨B, 0, none⟩ = some (.int .i64 (two07 s 0)) ∧ w'.cell? ⟨B, 1, none⟩ = some (.int .i64 (two07 s 1)) ∧ w'.cell? ⟨B, 2, none⟩ = some (.int .i64 (two07 s 2)) ∧ w'.cell? ⟨B, 3, none⟩ = some (.int .i64 (two07 s 3)) ∧ w'.cell? ⟨B, 4, none⟩ = some (.int .i64 (two07 s 4)) ∧ w'.cell? ⟨B, 5, none⟩ = some (.int .i64 (two07 s 5)) ∧ w'.cell? ⟨B, 6, none⟩ = some (.int .i64 (two07 s 6)) ∧ w'.cell? ⟨B, 7, none⟩ = some (.int .i64 (two07 s 7)) ∧ w'.cell? ⟨B, 9, none⟩ = some (.int .i64 (two07 s 9)) ∧ w'.cell? ⟨B, 8, none⟩ = some (.int .i64 (two07 s 8))) (ds := []) #[false, false, false, false, false, false, false, false, false, false, false, false, false, false, false, false, false, false, false, false, false, false, false, false, false, false, false, false, false, false, false, false, false, false, false, false, false, false, false, false, false, false, false, false, false, false, false] (by kernel_rfl) rfl rfl ⟨v0c, v1c, v2c, v3c, v4c, v5c, v6c, v7c, v9c, v8c⟩ (fun hHeld => ?_); refine with_tabW ref07tab ref07bits (fun HT_ HW_ => ?_)
        change Blk wr.drew B _ _ at hRB
        change Blk wr.drew w.heap.size _ _ at hRK
        generalize wr.drew = w57 at hRB hRK hB57 v0c v1c v2c v3c v4c v5c v6c v7c v8c v9c hHeld ⊢
        refine pure_ (i := 0) (N := some 62) (v := ?_) (a' := ?_) #[true, false, false, false, false, false, false, false, false, false, false, false, false, false, false, false, false, false, false, false, false, false, false, false, false, false, false, false, false, false, false, false, false, false, false, false, false, false, false, false, false, false, false, false, false, false, false] rfl rfl (any_of HT_.out (by kernel_rfl)) (fun _ _ _ h => h) (Or.inl ⟨by rfl, ?_⟩) ?_ ?_
        rotate_left
        · intro w'
          go_simp
          with_reducible rfl
        rotate_left
        · simp only [Act.put, List.setIfInBounds_toArray, List.set_cons_zero, List.set_cons_succ, i64_w, i32_w]
          rfl
        refine pure_ (i := 1) (N := some 63) (v := ?_) (a' := ?_) #[true, true, false, false, false, false, false, false, false, false, false, false, false, false, false, false, false, false, false, false, false, false, false, false, false, false, false, false, false, false, false, false, false, false, false, false, false, false, false, false, false, false, false, false, false, false, false] rfl rfl (any_of HT_.out (by kernel_rfl)) (fun _ _ _ h => h) (Or.inl ⟨by rfl, ?_⟩) ?_ ?_
        rotate_left
        · intro w'
          go_simp
          with_reducible rfl
        rotate_left
        · simp only [Act.put, List.setIfInBounds_toArray, List.set_cons_zero, List.set_cons_succ, i64_w, i32_w]
          rfl
        refine pure_ (i := 3) (N := some 65) (v := ?_) (a' := ?_) #[true, true, false, true, false, false, false, false, false, false, false, false, false, false, false, false, false, false, false, false, false, false, false, false, false, false, false, false, false, false, false, false, false, false, false, false, false, false, false, false, false, false, false, false, false, false, false] rfl rfl (any_of HT_.out (by kernel_rfl)) (fun _ _ _ h => h) (Or.inl ⟨by rfl, ?_⟩) ?_ ?_
        rotate_left
        · intro w'
          go_simp
          with_reducible rfl
        rotate_left
        · simp only [Act.put, List.setIfInBounds_toArray, List.set_cons_zero, List.set_cons_succ, i64_w, i32_w]
          rfl
        refine pure_ (i := 4) (N := some 66) (v := ?_) (a' := ?_) #[true, true, false, true, true, false, false, false, false, false, false, false, false, false, false, false, false, false, false, false, false, false, false, false, false, false, false, false, false, false, false, false, false, false, false, false, false, false, false, false, false, false, false, false, false, false, false] rfl rfl (any_of HT_.out (by kernel_rfl)) (fun _ _ _ h => h) (Or.inl ⟨by rfl, ?_⟩) ?_ ?_
        rotate_left
        · intro w'
          go_simp
          with_reducible rfl
        rotate_left
        · simp only [Act.put, List.setIfInBounds_toArray, List.set_cons_zero, List.set_cons_succ, i64_w, i32_w]
          rfl
        refine pure_ (i := 6) (N := some 68) (v := ?_) (a' := ?_) #[true, true, false, true, true, false, true, false, false, false, false, false, false, false, false, false, false, false, false, false, false, false, false, false, false, false, false, false, false, false, false, false, false, false, false, false, false, false, false, false, false, false, false, false, false, false, false] rfl rfl (any_of HT_.out (by kernel_rfl)) (fun _ _ _ h => h) (Or.inl ⟨by rfl, ?_⟩) ?_ ?_
        rotate_left
        · intro w'
          go_simp
          with_reducible rfl
        rotate_left
        · simp only [Act.put, List.setIfInBounds_toArray, List.set_cons_zero, List.set_cons_succ, i64_w, i32_w]
          rfl
        refine pure_ (i := 7) (N := some 69) (v := ?_) (a' := ?_) #[true, true, false, true, true, false, true, true, false, false, false, false, false, false, false, false, false, false, false, false, false, false, false, false, false, false, false, false, false, false, false, false, false, false, false, false, false, false, false, false, false, false, false, false, false, false, false] rfl rfl (any_of HT_.out (by kernel_rfl)) (fun _ _ _ h => h) (Or.inl ⟨by rfl, ?_⟩) ?_ ?_
        rotate_left
        · intro w'
          go_simp
          with_reducible rfl
        rotate_left
        · simp only [Act.put, List.setIfInBounds_toArray, List.set_cons_zero, List.set_cons_succ, i64_w, i32_w]
          rfl
        refine pure_ (i := 10) (N := some 72) (v := ?_) (a' := ?_) #[true, true, false, true, true, false, true, true, false, false, true, false, false, false, false, false, false, false, false, false, false, false, false, false, false, false, false, false, false, false, false, false, false, false, false, false, false, false, false, false, false, false, false, false, false, false, false] rfl rfl (any_of HT_.out (by kernel_rfl)) (fun _ _ _ h => h) (Or.inl ⟨by rfl, ?_⟩) ?_ ?_
        rotate_left
        · intro w'
          go_simp
          with_reducible rfl
        rotate_left
        · simp only [Act.put, List.setIfInBounds_toArray, List.set_cons_zero, List.set_cons_succ, i64_w, i32_w]
          rfl
        refine pure_ (i := 11) (N := some 73) (v := ?_) (a' := ?_) #[true, true, false, true, true, false, true, true, false, false, true, true, false, false, false, false, false, false, false, false, false, false, false, false, false, false, false, false, false, false, false, false, false, false, false, false, false, false, false, false, false, false, false, false, false, false, false] rfl rfl (any_of HT_.out (by kernel_rfl)) (fun _ _ _ h => h) (Or.inl ⟨by rfl, ?_⟩) ?_ ?_
        rotate_left
        · intro w'
          go_simp
          with_reducible rfl
        rotate_left
        · simp only [Act.put, List.setIfInBounds_toArray, List.set_cons_zero, List.set_cons_succ, i64_w, i32_w]
          rfl
        refine pure_ (i := 15) (N := some 77) (v := ?_) (a' := ?_) #[true, true, false, true, true, false, true, true, false, false, true, true, false, false, false, true, false, false, false, false, false, false, false, false, false, false, false, false, false, false, false, false, false, false, false, false, false, false, false, false, false, false, false, false, false, false, false] rfl rfl (any_of HT_.out (by kernel_rfl)) (fun _ _ _ h => h) (Or.inl ⟨by rfl, ?_⟩) ?_ ?_
        rotate_left
        · intro w'
          go_simp
          with_reducible rfl
        rotate_left
        · simp only [Act.put, List.setIfInBounds_toArray, List.set_cons_zero, List.set_cons_succ, i64_w, i32_w]
          rfl
        refine pure_ (i := 16) (N := some 78) (v := ?_) (a' := ?_) #[true, true, false, true, true, false, true, true, false, false, true, true, false, false, false, true, true, false, false, false, false, false, false, false, false, false, false, false, false, false, false, false, false, false, false, false, false, false, false, false, false, false, false, false, false, false, false] rfl rfl (any_of HT_.out (by kernel_rfl)) (fun _ _ _ h => h) (Or.inl ⟨by rfl, ?_⟩) ?_ ?_
        rotate_left
        · intro w'
          go_simp
          with_reducible rfl
        rotate_left
        · simp only [Act.put, List.setIfInBounds_toArray, List.set_cons_zero, List.set_cons_succ, i64_w, i32_w]
          rfl
        refine pure_ (i := 19) (N := some 81) (v := ?_) (a' := ?_) #[true, true, false, true, true, false, true, true, false, false, true, true, false, false, false, true, true, false, false, true, false, false, false, false, false, false, false, false, false, false, false, false, false, false, false, false, false, false, false, false, false, false, false, false, false, false, false] rfl rfl (any_of HT_.out (by kernel_rfl)) (fun _ _ _ h => h) (Or.inl ⟨by rfl, ?_⟩) ?_ ?_
        rotate_left
        · intro w'
          go_simp
          with_reducible rfl
        rotate_left
        · simp only [Act.put, List.setIfInBounds_toArray, List.set_cons_zero, List.set_cons_succ, i64_w, i32_w]
          rfl
        refine pure_ (i := 20) (N := some 82) (v := ?_) (a' := ?_) #[true, true, false, true, true, false, true, true, false, false, true, true, false, false, false, true, true, false, false, true, true, false, false, false, false, false, false, false, false, false, false, false, false, false, false, false, false, false, false, false, false, false, false, false, false, false, false] rfl rfl (any_of HT_.out (by kernel_rfl)) (fun _ _ _ h => h) (Or.inl ⟨by rfl, ?_⟩) ?_ ?_
        rotate_left
        · intro w'
          go_simp
          with_reducible rfl
        rotate_left
        · simp only [Act.put, List.setIfInBounds_toArray, List.set_cons_zero, List.set_cons_succ, i64_w, i32_w]
          rfl
        refine pure_ (i := 24) (N := some 86) (v := ?_) (a' := ?_) #[true, true, false, true, true, false, true, true, false, false, true, true, false, false, false, true, true, false, false, true, true, false, false, false, true, false, false, false, false, false, false, false, false, false, false, false, false, false, false, false, false, false, false, false, false, false, false] rfl rfl (any_of HT_.out (by kernel_rfl)) (fun _ _ _ h => h) (Or.inl ⟨by rfl, ?_⟩) ?_ ?_
        rotate_left
        · intro w'
          go_simp
          with_reducible rfl
        rotate_left
        · simp only [Act.put, List.setIfInBounds_toArray, List.set_cons_zero, List.set_cons_succ, i64_w, i32_w]
          rfl
        refine pure_ (i := 25) (N := some 87) (v := ?_) (a' := ?_) #[true, true, false, true, true, false, true, true, false, false, true, true, false, false, false, true, true, false, false, true, true, false, false, false, true, true, false, false, false, false, false, false, false, false, false, false, false, false, false, false, false, false, false, false, false, false, false] rfl rfl (any_of HT_.out (by kernel_rfl)) (fun _ _ _ h => h) (Or.inl ⟨by rfl, ?_⟩) ?_ ?_
        rotate_left
        · intro w'
          go_simp
          with_reducible rfl
        rotate_left
        · simp only [Act.put, List.setIfInBounds_toArray, List.set_cons_zero, List.set_cons_succ, i64_w, i32_w]
          rfl
        refine pure_ (i := 28) (N := some 90) (v := ?_) (a' := ?_) #[true, true, false, true, true, false, true, true, false, false, true, true, false, false, false, true, true, false, false, true, true, false, false, false, true, true, false, false, true, false, false, false, false, false, false, false, false, false, false, false, false, false, false, false, false, false, false] rfl rfl (any_of HT_.out (by kernel_rfl)) (fun _ _ _ h => h) (Or.inl ⟨by rfl, ?_⟩) ?_ ?_
        rotate_left
        · intro w'
          go_simp
          with_reducible rfl
        rotate_left
        · simp only [Act.put, List.setIfInBounds_toArray, List.set_cons_zero, List.set_cons_succ, i64_w, i32_w]
          rfl
        refine pure_ (i := 29) (N := some 91) (v := ?_) (a' := ?_) #[true, true, false, true, true, false, true, true, false, false, true, true, false, false, false, true, true, false, false, true, true, false, false, false, true, true, false, false, true, true, false, false, false, false, false, false, false, false, false, false, false, false, false, false, false, false, false] rfl rfl (any_of HT_.out (by kernel_rfl)) (fun _ _ _ h => h) (Or.inl ⟨by rfl, ?_⟩) ?_ ?_
        rotate_left
        · intro w'
          go_simp
          with_reducible rfl
        rotate_left
        · simp only [Act.put, List.setIfInBounds_toArray, List.set_cons_zero, List.set_cons_succ, i64_w, i32_w]
          rfl
        refine pure_ (i := 31) (N := some 93) (v := ?_) (a' := ?_) #[true, true, false, true, true, false, true, true, false, false, true, true, false, false, false, true, true, false, false, true, true, false, false, false, true, true, false, false, true, true, false, true, false, false, false, false, false, false, false, false, false, false, false, false, false, false, false] rfl rfl (any_of HT_.out (by kernel_rfl)) (fun _ _ _ h => h) (Or.inl ⟨by rfl, ?_⟩) ?_ ?_
        rotate_left
        · intro w'
          go_simp
          with_reducible rfl
        rotate_left
        · simp only [Act.put, List.setIfInBounds_toArray, List.set_cons_zero, List.set_cons_succ, i64_w, i32_w]
          rfl
        refine pure_ (i := 32) (N := some 94) (v := ?_) (a' := ?_) #[true, true, false, true, true, false, true, true, false, false, true, true, false, false, false, true, true, false, false, true, true, false, false, false, true, true, false, false, true, true, false, true, true, false, false, false, false, false, false, false, false, false, false, false, false, false, false] rfl rfl (any_of HT_.out (by kernel_rfl)) (fun _ _ _ h => h) (Or.inl ⟨by rfl, ?_⟩) ?_ ?_
        rotate_left
        · intro w'
          go_simp
          with_reducible rfl
        rotate_left
        · simp only [Act.put, List.setIfInBounds_toArray, List.set_cons_zero, List.set_cons_succ, i64_w, i32_w]
          rfl
        refine pure_ (i := 34) (N := some 96) (v := ?_) (a' := ?_) #[true, true, false, true, true, false, true, true, false, false, true, true, false, false, false, true, true, false, false, true, true, false, false, false, true, true, false, false, true, true, false, true, true, false, true, false, false, false, false, false, false, false, false, false, false, false, false] rfl rfl (any_of HT_.out (by kernel_rfl)) (fun _ _ _ h => h) (Or.inl ⟨by rfl, ?_⟩) ?_ ?_
        rotate_left
        · intro w'
          go_simp
          with_reducible rfl
        rotate_left
        · simp only [Act.put, List.setIfInBounds_toArray, List.set_cons_zero, List.set_cons_succ, i64_w, i32_w]
          rfl
        refine pure_ (i := 35) (N := some 97) (v := ?_) (a' := ?_) #[true, true, false, true, true, false, true, true, false, false, true, true, false, false, false, true, true, false, false, true, true, false, false, false, true, true, false, false, true, true, false, true, true, false, true, true, false, false, false, false, false, false, false, false, false, false, false] rfl rfl (any_of HT_.out (by kernel_rfl)) (fun _ _ _ h => h) (Or.inl ⟨by rfl, ?_⟩) ?_ ?_
        rotate_left
        · intro w'
          go_simp
          with_reducible rfl
        rotate_left
        · simp only [Act.put, List.setIfInBounds_toArray, List.set_cons_zero, List.set_cons_succ, i64_w, i32_w]
          rfl
        refine pure_ (i := 36) (N := some 98) (v := ?_) (a' := ?_) #[true, true, false, true, true, false, true, true, false, false, true, true, false, false, false, true, true, false, false, true, true, false, false, false, true, true, false, false, true, true, false, true, true, false, true, true, true, false, false, false, false, false, false, false, false, false, false] rfl rfl (any_of HT_.out (by kernel_rfl)) (fun _ _ _ h => h) (Or.inl ⟨by rfl, ?_⟩) ?_ ?_
        rotate_left
        · intro w'
          go_simp
          with_reducible rfl
        rotate_left
        · simp only [Act.put, List.setIfInBounds_toArray, List.set_cons_zero, List.set_cons_succ, i64_w, i32_w]
          rfl
        refine pure_ (i := 37) (N := some 99) (v := ?_) (a' := ?_) #[true, true, false, true, true, false, true, true, false, false, true, true, false, false, false, true, true, false, false, true, true, false, false, false, true, true, false, false, true, true, false, true, true, false, true, true, true, true, false, false, false, false, false, false, false, false, false] rfl rfl (any_of HT_.out (by kernel_rfl)) (fun _ _ _ h => h) (Or.inl ⟨by rfl, ?_⟩) ?_ ?_
        rotate_left
        · intro w'
          go_simp
          with_reducible rfl
        rotate_left
        · simp only [Act.put, List.setIfInBounds_toArray, List.set_cons_zero, List.set_cons_succ, i64_w, i32_w]
          rfl
        refine pure_ (i := 38) (N := some 100) (v := ?_) (a' := ?_) #[true, true, false, true, true, false, true, true, false, false, true, true, false, false, false, true, true, false, false, true, true, false, false, false, true, true, false, false, true, true, false, true, true, false, true, true, true, true, true, false, false, false, false, false, false, false, false] rfl rfl (any_of HT_.out (by kernel_rfl)) (fun _ _ _ h => h) (Or.inl ⟨by rfl, ?_⟩) ?_ ?_
        rotate_left
        · intro w'
          go_simp
          with_reducible rfl
        rotate_left
        · simp only [Act.put, List.setIfInBounds_toArray, List.set_cons_zero, List.set_cons_succ, i64_w, i32_w]
          rfl
        refine pure_ (i := 39) (N := some 101) (v := ?_) (a' := ?_) #[true, true, false, true, true, false, true, true, false, false, true, true, false, false, false, true, true, false, false, true, true, false, false, false, true, true, false, false, true, true, false, true, true, false, true, true, true, true, true, true, false, false, false, false, false, false, false] rfl rfl (any_of HT_.out (by kernel_rfl)) (fun _ _ _ h => h) (Or.inl ⟨by rfl, ?_⟩) ?_ ?_
        rotate_left
        · intro w'
          go_simp
          with_reducible rfl
        rotate_left
        · simp only [Act.put, List.setIfInBounds_toArray, List.set_cons_zero, List.set_cons_succ, i64_w, i32_w]
          rfl
        refine pure_ (i := 41) (N := some 103) (v := ?_) (a' := ?_) #[true, true, false, true, true, false, true, true, false, false, true, true, false, false, false, true, true, false, false, true, true, false, false, false, true, true, false, false, true, true, false, true, true, false, true, true, true, true, true, true, false, true, false, false, false, false, false] rfl rfl (any_of HT_.out (by kernel_rfl)) (fun _ _ _ h => h) (Or.inl ⟨by rfl, ?_⟩) ?_ ?_
        rotate_left
        · intro w'
          go_simp
          with_reducible rfl
        rotate_left
        · simp only [Act.put, List.setIfInBounds_toArray, List.set_cons_zero, List.set_cons_succ, i64_w, i32_w]
          rfl
        refine pure_ (i := 42) (N := some 104) (v := ?_) (a' := ?_) #[true, true, false, true, true, false, true, true, false, false, true, true, false, false, false, true, true, false, false, true, true, false, false, false, true, true, false, false, true, true, false, true, true, false, true, true, true, true, true, true, false, true, true, false, false, false, false] rfl rfl (any_of HT_.out (by kernel_rfl)) (fun _ _ _ h => h) (Or.inl ⟨by rfl, ?_⟩) ?_ ?_
        rotate_left
        · intro w'
          go_simp
          with_reducible rfl
        rotate_left
        · simp only [Act.put, List.setIfInBounds_toArray, List.set_cons_zero, List.set_cons_succ, i64_w, i32_w]
          rfl
        refine take_ (i := 2) (N := some 64) (v := ?_) (a' := ?_) #[true, true, true, true, true, false, true, true, false, false, true, true, false, false, false, true, true, false, false, true, true, false, false, false, true, true, false, false, true, true, false, true, true, false, true, true, true, true, true, true, false, true, true, false, false, false, false] rfl rfl (take_ofW HT_.out HW_.out (by kernel_rfl)) (fun _ _ _ h => h) (Or.inl ⟨by rfl, ?_⟩) hHeld ?_ ?_
        rotate_left
        · rintro w' ⟨s0, s1, s2, s3, s4, s5, s6, s7, s8, s9⟩
          go_simp
          with_reducible rfl
        rotate_left
        · simp only [Act.put, List.setIfInBounds_toArray, List.set_cons_zero, List.set_cons_succ, i64_w, i32_w]
          rfl
        refine take_ (i := 5) (N := some 67) (v := ?_) (a' := ?_) #[true, true, true, true, true, true, true, true, false, false, true, true, false, false, false, true, true, false, false, true, true, false, false, false, true, true, false, false, true, true, false, true, true, false, true, true, true, true, true, true, false, true, true, false, false, false, false] rfl rfl (take_ofW HT_.out HW_.out (by kernel_rfl)) (fun _ _ _ h => h) (Or.inl ⟨by rfl, ?_⟩) hHeld ?_ ?_
        rotate_left
        · rintro w' ⟨s0, s1, s2, s3, s4, s5, s6, s7, s8, s9⟩
          go_simp
          with_reducible rfl
        rotate_left
        · simp only [Act.put, List.setIfInBounds_toArray, List.set_cons_zero, List.set_cons_succ, i64_w, i32_w]
          rfl
        refine take_ (i := 8) (N := some 70) (v := ?_) (a' := ?_) #[true, true, true, true, true, true, true, true, true, false, true, true, false, false, false, true, true, false, false, true, true, false, false, false, true, true, false, false, true, true, false, true, true, false, true, true, true, true, true, true, false, true, true, false, false, false, false] rfl rfl (take_ofW HT_.out HW_.out (by kernel_rfl)) (fun _ _ _ h => h) (Or.inl ⟨by rfl, ?_⟩) hHeld ?_ ?_
        rotate_left
        · rintro w' ⟨s0, s1, s2, s3, s4, s5, s6, s7, s8, s9⟩
          go_simp
          with_reducible rfl
        rotate_left
        · simp only [Act.put, List.setIfInBounds_toArray, List.set_cons_zero, List.set_cons_succ, i64_w, i32_w]
          rfl
        refine pure_ (i := 9) (N := some 71) (v := ?_) (a' := ?_) #[true, true, true, true, true, true, true, true, true, true, true, true, false, false, false, true, true, false, false, true, true, false, false, false, true, true, false, false, true, true, false, true, true, false, true, true, true, true, true, true, false, true, true, false, false, false, false] rfl rfl (any_of HT_.out (by kernel_rfl)) (fun _ _ _ h => h) (Or.inl ⟨by rfl, ?_⟩) ?_ ?_
        rotate_left
        · intro w'
          go_simp
          with_reducible rfl
        rotate_left
        · simp only [Act.put, List.setIfInBounds_toArray, List.set_cons_zero, List.set_cons_succ, i64_w, i32_w]
          rfl
        refine take_ (i := 12) (N := some 74) (v := ?_) (a' := ?_) #[true, true, true, true, true, true, true, true, true, true, true, true, true, false, false, true, true, false, false, true, true, false, false, false, true, true, false, false, true, true, false, true, true, false, true, true, true, true, true, true, false, true, true, false, false, false, false] rfl rfl (take_ofW HT_.out HW_.out (by kernel_rfl)) (fun _ _ _ h => h) (Or.inl ⟨by rfl, ?_⟩) hHeld ?_ ?_
        rotate_left
        · rintro w' ⟨s0, s1, s2, s3, s4, s5, s6, s7, s8, s9⟩
          go_simp
          with_reducible rfl
        rotate_left
        · simp only [Act.put, List.setIfInBounds_toArray, List.set_cons_zero, List.set_cons_succ, i64_w, i32_w]
          rfl
        refine pure_ (i := 13) (N := some 75) (v := ?_) (a' := ?_) #[true, true, true, true, true, true, true, true, true, true, true, true, true, true, false, true, true, false, false, true, true, false, false, false, true, true, false, false, true, true, false, true, true, false, true, true, true, true, true, true, false, true, true, false, false, false, false] rfl rfl (any_of HT_.out (by kernel_rfl)) (fun _ _ _ h => h) (Or.inl ⟨by rfl, ?_⟩) ?_ ?_
        rotate_left
        · intro w'
          go_simp
          with_reducible rfl
        rotate_left
        · simp only [Act.put, List.setIfInBounds_toArray, List.set_cons_zero, List.set_cons_succ, i64_w, i32_w]
          rfl
        refine pure_ (i := 14) (N := some 76) (v := ?_) (a' := ?_) #[true, true, true, true, true, true, true, true, true, true, true, true, true, true, true, true, true, false, false, true, true, false, false, false, true, true, false, false, true, true, false, true, true, false, true, true, true, true, true, true, false, true, true, false, false, false, false] rfl rfl (any_of HT_.out (by kernel_rfl)) (fun _ _ _ h => h) (Or.inl ⟨by rfl, ?_⟩) ?_ ?_
        rotate_left
        · intro w'
          go_simp
          with_reducible rfl
        rotate_left
        · simp only [Act.put, List.setIfInBounds_toArray, List.set_cons_zero, List.set_cons_succ, i64_w, i32_w]
          rfl
        refine take_ (i := 17) (N := some 79) (v := ?_) (a' := ?_) #[true, true, true, true, true, true, true, true, true, true, true, true, true, true, true, true, true, true, false, true, true, false, false, false, true, true, false, false, true, true, false, true, true, false, true, true, true, true, true, true, false, true, true, false, false, false, false] rfl rfl (take_ofW HT_.out HW_.out (by kernel_rfl)) (fun _ _ _ h => h) (Or.inl ⟨by rfl, ?_⟩) hHeld ?_ ?_
        rotate_left
        · rintro w' ⟨s0, s1, s2, s3, s4, s5, s6, s7, s8, s9⟩
          go_simp
          with_reducible rfl
        rotate_left
        · simp only [Act.put, List.setIfInBounds_toArray, List.set_cons_zero, List.set_cons_succ, i64_w, i32_w]
          rfl
        refine pure_ (i := 18) (N := some 80) (v := ?_) (a' := ?_) #[true, true, true, true, true, true, true, true, true, true, true, true, true, true, true, true, true, true, true, true, true, false, false, false, true, true, false, false, true, true, false, true, true, false, true, true, true, true, true, true, false, true, true, false, false, false, false] rfl rfl (any_of HT_.out (by kernel_rfl)) (fun _ _ _ h => h) (Or.inl ⟨by rfl, ?_⟩) ?_ ?_
        rotate_left
        · intro w'
          go_simp
          with_reducible rfl
        rotate_left
        · simp only [Act.put, List.setIfInBounds_toArray, List.set_cons_zero, List.set_cons_succ, i64_w, i32_w]
          rfl
        refine take_ (i := 21) (N := some 83) (v := ?_) (a' := ?_) #[true, true, true, true, true, true, true, true, true, true, true, true, true, true, true, true, true, true, true, true, true, true, false, false, true, true, false, false, true, true, false, true, true, false, true, true, true, true, true, true, false, true, true, false, false, false, false] rfl rfl (take_ofW HT_.out HW_.out (by kernel_rfl)) (fun _ _ _ h => h) (Or.inl ⟨by rfl, ?_⟩) hHeld ?_ ?_
        rotate_left
        · rintro w' ⟨s0, s1, s2, s3, s4, s5, s6, s7, s8, s9⟩
          go_simp
          with_reducible rfl
        rotate_left
        · simp only [Act.put, List.setIfInBounds_toArray, List.set_cons_zero, List.set_cons_succ, i64_w, i32_w]
          rfl
        refine pure_ (i := 22) (N := some 84) (v := ?_) (a' := ?_) #[true, true, true, true, true, true, true, true, true, true, true, true, true, true, true, true, true, true, true, true, true, true, true, false, true, true, false, false, true, true, false, true, true, false, true, true, true, true, true, true, false, true, true, false, false, false, false] rfl rfl (any_of HT_.out (by kernel_rfl)) (fun _ _ _ h => h) (Or.inl ⟨by rfl, ?_⟩) ?_ ?_
        rotate_left
        · intro w'
          go_simp
          with_reducible rfl
        rotate_left
        · simp only [Act.put, List.setIfInBounds_toArray, List.set_cons_zero, List.set_cons_succ, i64_w, i32_w]
          rfl
        refine pure_ (i := 23) (N := some 85) (v := ?_) (a' := ?_) #[true, true, true, true, true, true, true, true, true, true, true, true, true, true, true, true, true, true, true, true, true, true, true, true, true, true, false, false, true, true, false, true, true, false, true, true, true, true, true, true, false, true, true, false, false, false, false] rfl rfl (any_of HT_.out (by kernel_rfl)) (fun _ _ _ h => h) (Or.inl ⟨by rfl, ?_⟩) ?_ ?_
        rotate_left
        · intro w'
          go_simp
          with_reducible rfl
        rotate_left
        · simp only [Act.put, List.setIfInBounds_toArray, List.set_cons_zero, List.set_cons_succ, i64_w, i32_w]
          rfl
        refine take_ (i := 26) (N := some 88) (v := ?_) (a' := ?_) #[true, true, true, true, true, true, true, true, true, true, true, true, true, true, true, true, true, true, true, true, true, true, true, true, true, true, true, false, true, true, false, true, true, false, true, true, true, true, true, true, false, true, true, false, false, false, false] rfl rfl (take_ofW HT_.out HW_.out (by kernel_rfl)) (fun _ _ _ h => h) (Or.inl ⟨by rfl, ?_⟩) hHeld ?_ ?_
        rotate_left
        · rintro w' ⟨s0, s1, s2, s3, s4, s5, s6, s7, s8, s9⟩
          go_simp
          with_reducible rfl
        rotate_left
        · simp only [Act.put, List.setIfInBounds_toArray, List.set_cons_zero, List.set_cons_succ, i64_w, i32_w]
          rfl
        refine pure_ (i := 27) (N := some 89) (v := ?_) (a' := ?_) #[true, true, true, true, true, true, true, true, true, true, true, true, true, true, true, true, true, true, true, true, true, true, true, true, true, true, true, true, true, true, false, true, true, false, true, true, true, true, true, true, false, true, true, false, false, false, false] rfl rfl (any_of HT_.out (by kernel_rfl)) (fun _ _ _ h => h) (Or.inl ⟨by rfl, ?_⟩) ?_ ?_
        rotate_left
        · intro w'
          go_simp
          with_reducible rfl
        rotate_left
        · simp only [Act.put, List.setIfInBounds_toArray, List.set_cons_zero, List.set_cons_succ, i64_w, i32_w]
          rfl
        refine take_ (i := 30) (N := some 92) (v := ?_) (a' := ?_) #[true, true, true, true, true, true, true, true, true, true, true, true, true, true, true, true, true, true, true, true, true, true, true, true, true, true, true, true, true, true, true, true, true, false, true, true, true, true, true, true, false, true, true, false, false, false, false] rfl rfl (take_ofW HT_.out HW_.out (by kernel_rfl)) (fun _ _ _ h => h) (Or.inl ⟨by rfl, ?_⟩) hHeld ?_ ?_
        rotate_left
        · rintro w' ⟨s0, s1, s2, s3, s4, s5, s6, s7, s8, s9⟩
          go_simp
          with_reducible rfl
        rotate_left
        · simp only [Act.put, List.setIfInBounds_toArray, List.set_cons_zero, List.set_cons_succ, i64_w, i32_w]
          rfl
        refine take_ (i := 33) (N := some 95) (v := ?_) (a' := ?_) #[true, true, true, true, true, true, true, true, true, true, true, true, true, true, true, true, true, true, true, true, true, true, true, true, true, true, true, true, true, true, true, true, true, true, true, true, true, true, true, true, false, true, true, false, false, false, false] rfl rfl (take_ofW HT_.out HW_.out (by kernel_rfl)) (fun _ _ _ h => h) (Or.inl ⟨by rfl, ?_⟩) hHeld ?_ ?_
        rotate_left
        · rintro w' ⟨s0, s1, s2, s3, s4, s5, s6, s7, s8, s9⟩
          go_simp
          with_reducible rfl
        rotate_left
        · simp only [Act.put, List.setIfInBounds_toArray, List.set_cons_zero, List.set_cons_succ, i64_w, i32_w]
          rfl
        refine pure_ (i := 40) (N := some 102) (v := ?_) (a' := ?_) #[true, true, true, true, true, true, true, true, true, true, true, true, true, true, true, true, true, true, true, true, true, true, true, true, true, true, true, true, true, true, true, true, true, true, true, true, true, true, true, true, true, true, true, false, false, false, false] rfl rfl (any_of HT_.out (by kernel_rfl)) (fun _ _ _ h => h) (Or.inl ⟨by rfl, ?_⟩) ?_ ?_
        rotate_left
        · intro w'
          go_simp
          with_reducible rfl
        rotate_left
        · simp only [Act.put, List.setIfInBounds_toArray, List.set_cons_zero, List.set_cons_succ, i64_w, i32_w]
          rfl
        refine take_ (i := 43) (N := some 105) (v := ?_) (a' := ?_) #[true, true, true, true, true, true, true, true, true, true, true, true, true, true, true, true, true, true, true, true, true, true, true, true, true, true, true, true, true, true, true, true, true, true, true, true, true, true, true, true, true, true, true, true, false, false, false] rfl rfl (take_ofW HT_.out HW_.out (by kernel_rfl)) (fun _ _ _ h => h) (Or.inl ⟨by rfl, ?_⟩) hHeld ?_ ?_
        rotate_left
        · rintro w' ⟨s0, s1, s2, s3, s4, s5, s6, s7, s8, s9⟩
          go_simp
          with_reducible rfl
        rotate_left
        · simp only [Act.put, List.setIfInBounds_toArray, List.set_cons_zero, List.set_cons_succ, i64_w, i32_w]
          rfl
        refine one_ (i := 44) (N := none) #[true, true, true, true, true, true, true, true, true, true, true, true, true, true, true, true, true, true, true, true, true, true, true, true, true, true, true, true, true, true, true, true, true, true, true, true, true, true, true, true, true, true, true, true, true, false, false] rfl rfl (one_of HT_.out (by kernel_rfl)) (by decide) (fun K hK => ?_)
        have hs := hRK.cells
        have hf := hRK.free
        refine skip_ (w1 := ?_) (by rfl) rfl ?_ ?_
        rotate_left
        · go_simp
          rfl
        have hne : B ≠ w.heap.size := by have := HBz.out; omega
        refine hK.out _ _ ⟨((nine_far hRB hne).cells 0).trans (by simp [row07]), ((nine_far hRB hne).cells 1).trans (by simp [row07]), ((nine_far hRB hne).cells 2).trans (by simp [row07]), ((nine_far hRB hne).cells 3).trans (by simp [row07]), ((nine_far hRB hne).cells 4).trans (by simp [row07]), ((nine_far hRB hne).cells 5).trans (by simp [row07]), ((nine_far hRB hne).cells 6).trans (by simp [row07]), ((nine_far hRB hne).cells 7).trans (by simp [row07]), ((nine_far hRB hne).cells 9).trans (by simp [row07]), ((nine_far hRB hne).cells 8).trans (by simp [row07])⟩ (fun hHeld => ?_)
        clear hK K hs hf
        refine pure_ (i := 45) (N := some 3) (v := ?_) (a' := ?_) #[true, true, true, true, true, true, true, true, true, true, true, true, true, true, true, true, true, true, true, true, true, true, true, true, true, true, true, true, true, true, true, true, true, true, true, true, true, true, true, true, true, true, true, true, true, true, false] rfl rfl (any_of HT_.out (by kernel_rfl)) (fun _ _ _ h => h) (Or.inl ⟨by rfl, ?_⟩) ?_ ?_
        rotate_left
        · intro w'
          go_simp
          with_reducible rfl
        rotate_left
        · simp only [Act.put, List.setIfInBounds_toArray, List.set_cons_zero, List.set_cons_succ, i64_w, i32_w]
          rfl
        refine pure_ (i := 46) (N := some 4) (v := ?_) (a' := ?_) #[true, true, true, true, true, true, true, true, true, true, true, true, true, true, true, true, true, true, true, true, true, true, true, true, true, true, true, true, true, true, true, true, true, true, true, true, true, true, true, true, true, true, true, true, true, true, true] rfl rfl (any_of HT_.out (by kernel_rfl)) (fun _ _ _ h => h) (Or.inl ⟨by rfl, ?_⟩) ?_ ?_
        rotate_left
        · intro w'
          go_simp
          with_reducible rfl
        rotate_left
        · simp only [Act.put, List.setIfInBounds_toArray, List.set_cons_zero, List.set_cons_succ, i64_w, i32_w]
          rfl
        refine done_ (done_of HT_.out (by kernel_rfl)) ?_
        have HF := Aside0.mk (nine_put (v0 := .int .i64 (two07 s 0)) (v1 := .int .i64 (two07 s 1)) (v2 := .int .u32 (two07 s 2 * 65536 + two07 s 3)) (v3 := .int .u32 (two07 s 4 * 65536 + two07 s 5)) (v4 := .int .i64 (two07 s 6 % 256)) (v5 := .int .i64 (two07 s 7)) (v6 := .int .i64 (two07 s 9)) (v7 := .string (s.extract 20 n)) (v8 := .string (s.extract n s.size)) hRK)
        have HBF := Aside0.mk (nine_below (v0 := .int .i64 (two07 s 0)) (v1 := .int .i64 (two07 s 1)) (v2 := .int .u32 (two07 s 2 * 65536 + two07 s 3)) (v3 := .int .u32 (two07 s 4 * 65536 + two07 s 5)) (v4 := .int .i64 (two07 s 6 % 256)) (v5 := .int .i64 (two07 s 7)) (v6 := .int .i64 (two07 s 9)) (v7 := .string (s.extract 20 n)) (v8 := .string (s.extract n s.size)) hB57 (Nat.le_refl _))
        clear hHeld hRB hRK hB57 v0c v1c v2c v3c v4c v5c v6c v7c v8c v9c HT_ HW_
        generalize (((((((((w57.setCell ⟨w.heap.size, 0, none⟩ (.int .i64 (two07 s 0))).setCell ⟨w.heap.size, 1, none⟩ (.int .i64 (two07 s 1))).setCell ⟨w.heap.size, 2, none⟩ (.int .u32 (two07 s 2 * 65536 + two07 s 3))).setCell ⟨w.heap.size, 3, none⟩ (.int .u32 (two07 s 4 * 65536 + two07 s 5))).setCell ⟨w.heap.size, 4, none⟩ (.int .i64 (two07 s 6 % 256))).setCell ⟨w.heap.size, 5, none⟩ (.int .i64 (two07 s 7))).setCell ⟨w.heap.size, 6, none⟩ (.int .i64 (two07 s 9))).setCell ⟨w.heap.size, 7, none⟩ (.string (s.extract 20 n))).setCell ⟨w.heap.size, 8, none⟩ (.string (s.extract n s.size))) = wf at HF HBF ⊢
        go_wp2
        have kf := HF.out.cells
        exact bodyPost_ret (v := .tuple #[.agg #[.int .i64 (two07 s 0), .int .i64 (two07 s 1), .int .u32 (two07 s 2 * 65536 + two07 s 3), .int .u32 (two07 s 4 * 65536 + two07 s 5), .int .i64 (two07 s 6 % 256), .int .i64 (two07 s 7), .int .i64 (two07 s 9), .string (s.extract 20 n), .string (s.extract n s.size)], .int .i64 (two07 s 8), .int .i64 0]) (by simp [results, Try.results30, go_sem, kf]) rfl ⟨rfl, HBF.out⟩

theorem cut07 (s : ByteArray) (n m : Nat) : bl (s.extract n m) = ((bl s).take m).drop n := by simp [bl, ByteArray.data_extract, List.drop_take]
theorem be_halves7 (s : ByteArray) (i : Nat) (h : i + 4 ≤ s.size) : be (bl (s.extract i (i + 4))) = be (bl (s.extract i (i + 2))) * 65536 + be (bl (s.extract (i + 2) (i + 4))) := by
  have e : bl (s.extract i (i + 4)) = bl (s.extract i (i + 2)) ++ bl (s.extract (i + 2) (i + 4)) := by
    simp only [cut07]
    have h1 : ((bl s).take (i + 2)).drop i = (((bl s).take (i + 4)).drop i).take 2 := by rw [List.take_drop, List.take_take]; congr 2; omega
    rw [h1, show ((bl s).take (i + 4)).drop (i + 2) = (((bl s).take (i + 4)).drop i).drop 2 by rw [List.drop_drop], List.take_append_drop]
  rw [e, be_append, show (bl (s.extract (i + 2) (i + 4))).length = 2 by rw [bl_length]; simp only [ByteArray.size_extract]; omega]
theorem be_pair7 (s : ByteArray) (i : Nat) (h : i + 2 ≤ s.size) : be (bl (s.extract i (i + 2))) = be (bl (s.extract i (i + 1))) * 256 + be (bl (s.extract (i + 1) (i + 2))) := by
  have e : bl (s.extract i (i + 2)) = bl (s.extract i (i + 1)) ++ bl (s.extract (i + 1) (i + 2)) := by
    simp only [cut07]
    have h1 : ((bl s).take (i + 1)).drop i = (((bl s).take (i + 2)).drop i).take 1 := by rw [List.take_drop, List.take_take]; congr 2; omega
    rw [h1, show ((bl s).take (i + 2)).drop (i + 1) = (((bl s).take (i + 2)).drop i).drop 1 by rw [List.drop_drop], List.take_append_drop]
  rw [e, be_append, show (bl (s.extract (i + 1) (i + 2))).length = 1 by rw [bl_length]; simp only [ByteArray.size_extract]; omega]
def palanquinref07_Get.f (s : ByteArray) : Option (Int × Int × Int × Int × Int × Int × Int × ByteArray × ByteArray × Int × Int) := if s.size ≤ 1000000 then tcp_Get.f s else none
theorem palanquinref07_Get.calls (s : ByteArray) (r1 r2 r3 r4 r5 r6 r7 : Int) (r8 r9 : ByteArray) (r10 r11 : Int) (w : World) (h : palanquinref07_Get.f s = some (r1, r2, r3, r4, r5, r6, r7, r8, r9, r10, r11)) :
    Calls Try.prog 30 #[.string s] w fun e w' => e = .returned (.tuple #[.agg #[.int .i64 r1, .int .i64 r2, .int .u32 r3, .int .u32 r4, .int .i64 r5, .int .i64 r6, .int .i64 r7, .string r8, .string r9], .int .i64 r10, .int .i64 r11]) ∧ Below w.heap.size w w' := by
  unfold palanquinref07_Get.f at h
  split at h
  case isFalse => exact absurd h (by simp)
  rename_i hs
  unfold tcp_Get.f at h
  rw [if_pos (by omega)] at h
  have h := Option.some.inj h
  by_cases h20 : s.size < 20
  · have he : tcpErr s = 2 := if_pos h20
    rw [he, if_neg (by decide)] at h
    simp only [Prod.mk.injEq] at h
    obtain ⟨rfl, rfl, rfl, rfl, rfl, rfl, rfl, rfl, rfl, rfl, rfl⟩ := h
    exact ref07_short s h20 w
  · refine (ref07_long s (by omega) hs (ht s) _ rfl rfl _ rfl w).mono ?_
    intro e w' hp
    have bad : ∀ er : Int, er ≠ 0 → tcpErr s = er → ended07 er w e w' → e = .returned (.tuple #[.agg #[.int .i64 r1, .int .i64 r2, .int .u32 r3, .int .u32 r4, .int .i64 r5, .int .i64 r6, .int .i64 r7, .string r8, .string r9], .int .i64 r10, .int .i64 r11]) ∧ Below w.heap.size w w' := by
      intro er h0 he hd
      rw [he, if_neg h0] at h
      simp only [Prod.mk.injEq] at h
      obtain ⟨rfl, rfl, rfl, rfl, rfl, rfl, rfl, rfl, rfl, rfl, rfl⟩ := h
      exact hd
    by_cases c1 : ht s < 20 ∨ s.size < ht s
    · rw [if_pos c1] at hp
      exact bad 4 (by decide) (by unfold tcpErr; rw [if_neg h20, if_neg (by omega)]) hp
    rw [if_neg c1] at hp
    have c1' : 20 ≤ ht s ∧ ht s ≤ s.size := by omega
    by_cases c2 : be (bl (s.extract 12 13)) % 16 = 0
    case neg =>
      rw [if_neg c2] at hp
      exact bad 9 (by decide) (by unfold tcpErr; rw [if_neg h20, if_pos c1', if_neg c2]) hp
    rw [if_pos c2] at hp
    by_cases c3 : rightO (bl (s.extract 20 (ht s))) = true
    case neg =>
      rw [if_neg c3] at hp
      exact bad 4 (by decide) (by unfold tcpErr; rw [if_neg h20, if_pos c1', if_pos c2, if_neg c3]) hp
    rw [if_pos c3] at hp
    have he : tcpErr s = 0 := by unfold tcpErr; rw [if_neg h20, if_pos c1', if_pos c2, if_pos c3]
    rw [if_pos he] at h
    simp only [Prod.mk.injEq] at h
    obtain ⟨rfl, rfl, rfl, rfl, rfl, rfl, rfl, rfl, rfl, rfl, rfl⟩ := h
    have e1 := be_halves7 s 4 (by omega)
    have e2 := be_halves7 s 8 (by omega)
    have e3 := be_pair7 s 12 (by omega)
    have b3 := be_lt_of (bl (s.extract 13 14)) 1 (by rw [bl_length]; simp only [ByteArray.size_extract]; omega)
    have q1 : two07 s 2 * 65536 + two07 s 3 = ((be (bl (s.extract 4 8)) : Nat) : Int) := by rw [e1]; unfold two07; simp
    have q2 : two07 s 4 * 65536 + two07 s 5 = ((be (bl (s.extract 8 12)) : Nat) : Int) := by rw [e2]; unfold two07; simp
    have q3 : two07 s 6 % 256 = ((be (bl (s.extract 13 14)) : Nat) : Int) := by
      have : two07 s 6 = ((be (bl (s.extract 12 (12 + 2))) : Nat) : Int) := rfl
      rw [this, e3]
      generalize be (bl (s.extract (12 + 1) (12 + 2))) = x at b3 ⊢
      generalize be (bl (s.extract 12 (12 + 1))) = y
      omega
    rw [q1, q2, q3] at hp
    exact hp
end Go.Proofs.Ytcmalglippmocaa.G
end
