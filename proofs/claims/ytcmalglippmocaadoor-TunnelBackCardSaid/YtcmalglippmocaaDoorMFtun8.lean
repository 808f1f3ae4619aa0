/- Texts of this session, joined: each is a section. -/
import Derived.Test.YtcmalglippmocaaDoorMFtun7
import Derived.Test.YtcmalglippmocaaDoorMFtun6
import Derived.Test.YtcmalglippmocaaDoorMFtun1
import Derived.Test.YtcmalglippmocaaDoorMFtun4
import Derived.Test.YtcmalglippmocaaDoorMFtun3
import Derived.Test.YtcmalglippmocaaDoorMFtun5
import Derived.Test.YtcmalglippmocaaDoorMFtun2
set_option linter.unusedVariables false
set_option linter.unusedSimpArgs false
section
namespace Go.Proofs.YtcmalglippmocaaDoor.G
open Go.RowKit Go.Proofs.YtcmalglippmocaaDoorW.PrintWords Go.Proofs.YtcmalglippmocaaDoorW.PrintLast Go.Proofs.YtcmalglippmocaaDoorW.PrintMore Go.Proofs.YtcmalglippmocaaDoor.Pal
def GR (k : Nat) (s : ByteArray) (w w1 : World) : Prop :=
  ∃ cs x, Hp w1 [(k + 1, 40, #[.bool false, .bool false, .int .u32 0]), (k + 2, 40, cs), (k + 3, 9, #[.string x])] ∧ Below k w w1 ∧
    (greErr s = 0 → cs = #[.bool (gS s), .bool (gK s), .int .u32 (gVal s)] ∧ x = gIn s)
theorem GG.done {k : Nat} {s : ByteArray} {w w1 w2 : World} {n : Nat} {cs : Array Value} {x : ByteArray} (h : GG k s w w1 n cs x) (hw : w1.grownBy w2 (some (k + 4)))
    (hx : greErr s = 0 → cs = #[.bool (gS s), .bool (gK s), .int .u32 (gVal s)] ∧ x = gIn s) : GR k s w w2 :=
  ⟨cs, x, Hp.grown (R := k + 4) (fun y hy => h.2.1 y (by simp at hy ⊢; rcases hy with rfl | rfl | rfl <;> simp)) hw (by simp), h.2.2.1.trans (below_of_grown hw (by have := h.1.1.lt; omega) (by omega)), hx⟩
abbrev hd0 : Array Value := #[.bool false, .bool false, .int .u32 0]
set_option maxRecDepth 100000 in
theorem gre_Get.reads (s : ByteArray) (hs : s.size ≤ 1099511627776) (w : World) (hV : GV w) :
    Calls Tryd.prog 63 #[.string s, .func (.func 64) #[] #[.pointer (some ⟨w.heap.size, 0, none⟩), .pointer (some ⟨w.heap.size + 1 + 1, 0, none⟩), .pointer (some ⟨w.heap.size + 1 + 1 + 1, 0, none⟩)]]
      ((((w.alloc (.cells #[.string s] 9)).alloc (.cells hd0 40)).alloc (.cells hd0 40)).alloc (.cells #[.string ⟨#[]⟩] 9))
      fun e w' => e = .returned (.int .i64 (greErr s)) ∧ GR w.heap.size s w w' := by
  obtain ⟨W, hW⟩ : ∃ W, W = ((((w.alloc (.cells #[.string s] 9)).alloc (.cells hd0 40)).alloc (.cells hd0 40)).alloc (.cells #[.string ⟨#[]⟩] 9)) := ⟨_, rfl⟩
  have hk : W.heap.size = w.heap.size + 4 := by rw [hW]; simp
  have b0 : Blk W w.heap.size 9 #[.string s] := by rw [hW]; exact (((Blk.new w _ _).alloc _).alloc _).alloc _
  have b1 : Blk W (w.heap.size + 1) 40 hd0 := by
    rw [hW]
    have := Blk.new (w.alloc (.cells #[.string s] 9)) 40 hd0
    rw [World.size_alloc] at this
    exact (this.alloc _).alloc _
  have b2 : Blk W (w.heap.size + 2) 40 hd0 := by
    rw [hW]
    have := Blk.new ((w.alloc (.cells #[.string s] 9)).alloc (.cells hd0 40)) 40 hd0
    rw [World.size_alloc, World.size_alloc] at this
    exact this.alloc _
  have b3 : Blk W (w.heap.size + 3) 9 #[.string ⟨#[]⟩] := by
    rw [hW]
    have := Blk.new (((w.alloc (.cells #[.string s] 9)).alloc (.cells hd0 40)).alloc (.cells hd0 40)) 9 #[.string ⟨#[]⟩]
    rw [World.size_alloc, World.size_alloc, World.size_alloc] at this
    exact this
  have hb : Below w.heap.size w W := by
    rw [hW]
    exact ((((Below.refl _ _).alloc (Nat.le_refl _) _).alloc (by simp) _).alloc (by simp; omega) _).alloc (by simp; omega) _
  rw [← hW]
  clear hW
  have hrd := readW_rd W s (by omega)
  have hres := readW_res W s
  have hbl := readW_below W s
  rw [hk] at hrd hres hbl
  have hG : GG w.heap.size s w (readW W s) 0 hd0 ⟨#[]⟩ :=
    ⟨hrd, .cons (b0.below hbl (by omega)) (.cons (b1.below hbl (by omega)) (.cons (b2.below hbl (by omega)) (.cons (b3.below hbl (by omega)) (.cons hres (.nil _))))), hb.trans (hbl.mono (by omega)), rfl⟩
  have h1 := Read_calls 64 #[.pointer (some ⟨w.heap.size, 0, none⟩), .pointer (some ⟨w.heap.size + 1 + 1, 0, none⟩), .pointer (some ⟨w.heap.size + 1 + 1 + 1, 0, none⟩)] s (greErr s) W
    (fun w2 => ∃ n cs x, GG w.heap.size s w w2 n cs x ∧ (greErr s = 0 → cs = #[.bool (gS s), .bool (gK s), .int .u32 (gVal s)] ∧ x = gIn s)) (fun _ _ => rfl)
  rw [hk] at h1
  refine (h1 ?_).mono ?_
  · refine (gre_Get1 w.heap.size s w (readW W s) hs hV hG).mono ?_
    rintro e w2 ⟨rfl, n, cs, x, hu, hx⟩
    exact ⟨rfl, hu.2.1.tail.tail.tail.tail.head, n, cs, x, hu, hx⟩
  · rintro e w' ⟨rfl, w2, ⟨n, cs, x, hu, hx⟩, hg⟩
    exact ⟨rfl, hu.done hg hx⟩
theorem results_cell_tmp2 {P : Program} {fn : Func} {p t u : Tmp} {ty : TypeId} (h : fn.results = #[.cell p ty, .tmp t, .tmp u]) (tmps : Array Value) (w : World) (k : Nat) (cs : Array Value) (d : TypeDesc)
    (hp : tmps.getD p undef = .pointer (some ⟨k, 0, none⟩)) (hb : Blk w k ty cs) (hu : P.underlying ty = some d) (hd : (match d with | .struct _ | .array _ _ => true | _ => false) = true) (hi : (P.info? ty).map (·.size) = some cs.size) :
    (results fn tmps).run P w = .ok (.tuple #[.agg cs, tmps.getD t undef, tmps.getD u undef]) w := by
  have hp' : tmps[p]?.getD undef = .pointer (some ⟨k, 0, none⟩) := by simpa using hp
  simp [results, h, hp', asAddr, run_loadVar_row w k ty ty cs (0, 0) d hb hu hd hi]
set_option maxHeartbeats 2000000 in
set_option maxRecDepth 100000 in
theorem gre_Get.calls (s : ByteArray) (r1 r2 : Bool) (r3 : Int) (r4 : ByteArray) (r5 : Int) (w : World) (h : gre_Get.f s = some (r1, r2, r3, r4, r5)) (hV : GV w) :
    Calls Tryd.prog 31 #[.string s] w fun e w' => e = .returned (.tuple #[.agg #[.bool r1, .bool r2, .int .u32 r3], .string r4, .int .i64 r5]) ∧ Below w.heap.size w w' := by
  unfold gre_Get.f at h
  by_cases hs : s.size ≤ 1099511627776
  case neg => rw [if_neg hs] at h; exact absurd h (by simp)
  rw [if_pos hs] at h
  have hmf : ∀ (fn : Fn) (first cap : Array Value) (w : World), (Instr.makeFunc fn first cap).run Tryd.prog w = .ok (.func fn first cap) w := fun _ _ _ _ => rfl
  have hu := Tryd.underlying40
  have HS := Aside0.mk hs
  have HV := Aside0.mk hV
  clear hs hV
  by_cases h0 : greErr s = 0
  · rw [if_pos h0] at h
    have h' := Option.some.inj h
    simp only [Prod.mk.injEq] at h'
    obtain ⟨rfl, rfl, rfl, rfl, rfl⟩ := h'
    have d1 : (greErr s != 0) = false := bne_eq_false_iff_eq.mpr h0
    replace h := Aside0.mk h0
    clear h0
    go_enter Tryd.func31, Tryd.ntmps31
    go_wp2_with fail
    refine (gre_Get.reads s HS.out w HV.out).mono ?_
    rintro e w2 ⟨rfl, cs, x, hp, hb, hx⟩
    obtain ⟨rfl, rfl⟩ := hx h.out
    have HB := Aside0.mk hb
    have c1 := hp.head.cells
    have c2 := hp.head.frees
    have c3 := hp.tail.head.cells
    have c4 := hp.tail.tail.head.cell 0 _ rfl
    have HK := Aside0.mk hp.head
    clear hp hb hx
    go_wp2_with fail
    go_region
    all_goals
      have c5 := Aside0.mk (((HK.out.set 0 (.bool (gS s))).set 1 (.bool (gK s))).set 2 (.int .u32 (gVal s))).drew
      simp only [List.setIfInBounds_toArray, List.set_cons_zero, List.set_cons_succ] at c5
      clear c1 c2 c3 c4
      go_wp2
      refine bodyPost_ret (results_cell_tmp2 rfl _ _ _ _ _ rfl c5.out hu rfl (by kernel_rfl)) rfl ?_
      exact ⟨rfl, (((HB.out.setCell (by simp) _).setCell (by simp) _).setCell (by simp) _).drew⟩
  · rw [if_neg h0] at h
    have h' := Option.some.inj h
    simp only [Prod.mk.injEq] at h'
    obtain ⟨rfl, rfl, rfl, rfl, rfl⟩ := h'
    have d1 : (greErr s != 0) = true := bne_iff_ne.mpr h0
    clear h h0
    go_enter Tryd.func31, Tryd.ntmps31
    go_wp2_with fail
    refine (gre_Get.reads s HS.out w HV.out).mono ?_
    rintro e w2 ⟨rfl, cs, x, hp, hb, hx⟩
    have HB := Aside0.mk hb
    have c1 := hp.head.cells
    have c2 := hp.head.frees
    have HK := Aside0.mk hp.head
    clear hp hb hx
    go_wp2
    have c5 := Aside0.mk (((HK.out.set 0 (.bool false)).set 1 (.bool false)).set 2 (.int .u32 0))
    simp only [List.setIfInBounds_toArray, List.set_cons_zero, List.set_cons_succ] at c5
    clear c1 c2
    refine bodyPost_ret (results_cell_tmp2 rfl _ _ _ _ _ rfl c5.out hu rfl (by kernel_rfl)) rfl ?_
    exact ⟨rfl, ((HB.out.setCell (by simp) _).setCell (by simp) _).setCell (by simp) _⟩
end Go.Proofs.YtcmalglippmocaaDoor.G
end

section
namespace Go.Proofs.YtcmalglippmocaaDoor.G
open Go.RowKit Go.Proofs.YtcmalglippmocaaDoorW.PrintWords Go.Proofs.YtcmalglippmocaaDoorW.PrintLast Go.Proofs.YtcmalglippmocaaDoorW.PrintMore Go.Proofs.YtcmalglippmocaaDoor.Pal
def gue_right (n : Int) (src dst b : ByteArray) : Option Bool :=
  if n = 0 then some true else (sum_Pseudo.f src dst 17 b.size).bind fun ps => sum_Right.f [ps, b]
def gue_fin (sp q n : Int) (P : ByteArray) (right : Bool) : Int × Bool × ByteArray × Int :=
  if gueErr q right P = 0 then (sp, n != 0, (gueIn P).1, 0) else (0, false, ⟨#[]⟩, gueErr q right P)
def gue_Get.f (src dst b : ByteArray) : Option (Int × Bool × ByteArray × Int) :=
  (udp_Get.f b).bind fun d => if d.2.2.2.2 ≠ 0 then some (0, false, ⟨#[]⟩, d.2.2.2.2) else
  (gue_right d.2.2.2.1 src dst b).bind fun right => some (gue_fin d.1 d.2.1 d.2.2.2.1 d.2.2.1 right)
abbrev ueH0 : Array Value := #[.int .i64 0, .bool false]
abbrev ueD0 : Array Value := #[.int .i64 0, .int .i64 0, .string ⟨#[]⟩]
def GW (k g : Nat) (src dst b : ByteArray) (sp q : Int) (P : ByteArray) (nn : Int) (w w1 : World) (x : ByteArray) : Prop :=
  Hp w1 [(k, 9, #[.string src]), (k + 1, 9, #[.string dst]), (k + 2, 9, #[.string b]), (k + 3, 55, ueH0), (g, 81, #[.int .i64 sp, .int .i64 q, .string P]), (g + 1, 3, #[.int .i64 nn]), (g + 2, 9, #[.string x])] ∧ Below k w w1 ∧ w.heap.size = k ∧ k + 4 ≤ g
theorem GU.done {k g : Nat} {src dst b P : ByteArray} {sp q nn : Int} {w w1 w2 : World} {n : Nat} {x : ByteArray} (h : GU k g src dst b sp q P nn w w1 n x) (hw : w1.grownBy w2 (some (g + 3))) : GW k g src dst b sp q P nn w w2 x :=
  ⟨Hp.grown (R := g + 3) (fun y hy => h.2.1 y (by simp at hy ⊢; rcases hy with rfl | rfl | rfl | rfl | rfl | rfl | rfl <;> simp)) hw (by have := h.2.2.2.2; simp; omega), h.2.2.1.trans (below_of_grown hw (by have := h.1.1.lt; have := h.2.2.2.2; omega) (by have := h.2.2.2.2; omega)), h.2.2.2⟩
set_option maxRecDepth 100000 in
theorem gue_Get.reads (k g : Nat) (src dst b P : ByteArray) (sp q nn : Int) (right : Bool) (w W : World) (hV : GV w)
    (hR : nn = 0 ∧ right = true ∨ nn ≠ 0 ∧ ∃ ps, sum_Pseudo.f src dst 17 b.size = some ps ∧ sum_Right.f [ps, b] = some right) (hs : P.size ≤ 140737488351232)
    (h : GW k g src dst b sp q P nn w W ⟨#[]⟩) (hz : W.heap.size = g + 3) :
    Calls Tryd.prog 63 #[.string P, .func (.func 76) #[] #[.pointer (some ⟨g + 1, 0, none⟩), .pointer (some ⟨k, 0, none⟩), .pointer (some ⟨k + 1, 0, none⟩), .pointer (some ⟨k + 2, 0, none⟩), .pointer (some ⟨g, 0, none⟩), .pointer (some ⟨g + 2, 0, none⟩)]] W
      fun e w' => e = .returned (.int .i64 (gueErr q right P)) ∧ ∃ x, GW k g src dst b sp q P nn w w' x ∧ (gueErr q right P = 0 → x = (gueIn P).1) := by
  have hrd := readW_rd W P hs
  have hres := readW_res W P
  have hbl := readW_below W P
  rw [hz] at hrd hres hbl
  have hG : GU k g src dst b sp q P nn w (readW W P) 0 ⟨#[]⟩ :=
    ⟨hrd, .cons (h.1.head.below hbl (by have := h.2.2.2; omega)) (.cons (h.1.tail.head.below hbl (by have := h.2.2.2; omega)) (.cons (h.1.tail.tail.head.below hbl (by have := h.2.2.2; omega)) (.cons (h.1.tail.tail.tail.head.below hbl (by have := h.2.2.2; omega)) (.cons (h.1.tail.tail.tail.tail.head.below hbl (by omega)) (.cons (h.1.tail.tail.tail.tail.tail.head.below hbl (by omega)) (.cons (h.1.tail.tail.tail.tail.tail.tail.head.below hbl (by omega)) (.cons hres (.nil _)))))))), h.2.1.trans (hbl.mono (by have := h.2.2.2; omega)), h.2.2⟩
  have h1 := Read_calls 76 #[.pointer (some ⟨g + 1, 0, none⟩), .pointer (some ⟨k, 0, none⟩), .pointer (some ⟨k + 1, 0, none⟩), .pointer (some ⟨k + 2, 0, none⟩), .pointer (some ⟨g, 0, none⟩), .pointer (some ⟨g + 2, 0, none⟩)] P (gueErr q right P) W
    (fun w2 => ∃ n x, GU k g src dst b sp q P nn w w2 n x ∧ (gueErr q right P = 0 → x = (gueIn P).1)) (fun _ _ => rfl)
  rw [hz] at h1
  refine (h1 ?_).mono ?_
  · refine (gue_Get1 k g src dst b P sp q nn right w (readW W P) hV hR hG).mono ?_
    rintro e w2 ⟨rfl, n, x, hu, hx⟩
    exact ⟨rfl, hu.2.1.tail.tail.tail.tail.tail.tail.tail.head, n, x, hu, hx⟩
  · rintro e w' ⟨rfl, w2, ⟨n, x, hu, hx⟩, hg⟩
    exact ⟨rfl, x, hu.done hg, hx⟩
theorem gue_begin (w : World) (src dst b : ByteArray) : Hp ((((w.alloc (.cells #[.string src] 9)).alloc (.cells #[.string dst] 9)).alloc (.cells #[.string b] 9)).alloc (.cells ueH0 55))
    [(w.heap.size, 9, #[.string src]), (w.heap.size + 1, 9, #[.string dst]), (w.heap.size + 2, 9, #[.string b]), (w.heap.size + 3, 55, ueH0)] ∧ Below w.heap.size w ((((w.alloc (.cells #[.string src] 9)).alloc (.cells #[.string dst] 9)).alloc (.cells #[.string b] 9)).alloc (.cells ueH0 55)) := by
  have b1 := Blk.new (w.alloc (.cells #[.string src] 9)) 9 #[.string dst]
  have b2 := Blk.new ((w.alloc (.cells #[.string src] 9)).alloc (.cells #[.string dst] 9)) 9 #[.string b]
  have b3 := Blk.new (((w.alloc (.cells #[.string src] 9)).alloc (.cells #[.string dst] 9)).alloc (.cells #[.string b] 9)) 55 ueH0
  simp only [World.size_alloc] at b1 b2 b3
  exact ⟨.cons ((((Blk.new w _ _).alloc _).alloc _).alloc _) (.cons ((b1.alloc _).alloc _) (.cons (b2.alloc _) (.cons b3 (.nil _)))), ((((Below.refl _ _).alloc (Nat.le_refl _) _).alloc (by simp) _).alloc (by simp; omega) _).alloc (by simp; omega) _⟩
theorem GW.made {k g : Nat} {src dst b P : ByteArray} {sp q nn : Int} {w w2 : World} (hp : Hp w2 [(k, 9, #[.string src]), (k + 1, 9, #[.string dst]), (k + 2, 9, #[.string b]), (k + 3, 55, ueH0)]) (hb : Below k w w2) (hk : w.heap.size = k) (hg : w2.heap.size = g) (hkg : k + 4 ≤ g) :
    GW k g src dst b sp q P nn w (((w2.alloc (.cells #[.int .i64 sp, .int .i64 q, .string P] 81)).alloc (.cells #[.int .i64 nn] 3)).alloc (.cells #[.string ⟨#[]⟩] 9)) ⟨#[]⟩ ∧ (((w2.alloc (.cells #[.int .i64 sp, .int .i64 q, .string P] 81)).alloc (.cells #[.int .i64 nn] 3)).alloc (.cells #[.string ⟨#[]⟩] 9)).heap.size = g + 3 := by
  have d := Blk.new w2 81 #[.int .i64 sp, .int .i64 q, .string P]
  have e := Blk.new (w2.alloc (.cells #[.int .i64 sp, .int .i64 q, .string P] 81)) 3 #[.int .i64 nn]
  have f := Blk.new ((w2.alloc (.cells #[.int .i64 sp, .int .i64 q, .string P] 81)).alloc (.cells #[.int .i64 nn] 3)) 9 #[.string ⟨#[]⟩]
  simp only [World.size_alloc, hg] at d e f
  refine ⟨⟨.cons (((hp.head.alloc _).alloc _).alloc _) (.cons (((hp.tail.head.alloc _).alloc _).alloc _) (.cons (((hp.tail.tail.head.alloc _).alloc _).alloc _) (.cons (((hp.tail.tail.tail.head.alloc _).alloc _).alloc _) (.cons ((d.alloc _).alloc _) (.cons (e.alloc _) (.cons f (.nil _))))))), ?_, hk, hkg⟩, ?_⟩
  · exact ((hb.alloc (by omega) _).alloc (by simp; omega) _).alloc (by simp; omega) _
  · simp only [World.size_alloc, hg]
set_option maxHeartbeats 4000000 in
set_option maxRecDepth 100000 in
theorem gue_Get.calls (src dst b : ByteArray) (r1 : Int) (r2 : Bool) (r3 : ByteArray) (r4 : Int) (w : World) (h : gue_Get.f src dst b = some (r1, r2, r3, r4)) (hV : GV w) :
    Calls Tryd.prog 38 #[.string src, .string dst, .string b] w fun e w' => e = .returned (.tuple #[.agg #[.int .i64 r1, .bool r2], .string r3, .int .i64 r4]) ∧ Below w.heap.size w w' := by
  unfold gue_Get.f at h
  obtain ⟨⟨sp, q, P, nn, ue⟩, hudp, h⟩ := Option.bind_eq_some_iff.1 h
  have hmf : ∀ (fn : Fn) (first cap : Array Value) (w : World), (Instr.makeFunc fn first cap).run Tryd.prog w = .ok (.func fn first cap) w := fun _ _ _ _ => rfl
  have hu := Tryd.underlying55
  replace h : (if ue ≠ 0 then some (0, false, ⟨#[]⟩, ue) else (gue_right nn src dst b).bind fun right => some (gue_fin sp q nn P right)) = some (r1, r2, r3, r4) := h
  have HH := Aside0.mk h
  have HU := Aside0.mk hudp
  have HV := Aside0.mk hV
  have HS := Aside0.mk (gue_begin w src dst b)
  obtain ⟨k, hk⟩ : ∃ k, w.heap.size = k := ⟨_, rfl⟩
  have HK := Aside0.mk hk
  clear h hudp hV
  go_enter Tryd.func38, Tryd.ntmps38
  go_wp2_with fail
  refine (udp_Get.calls b sp q P nn ue _ HU.out).mono ?_
  rintro e w2 ⟨rfl, hb⟩
  simp only [World.size_alloc] at hb
  have HP := Aside0.mk (show Hp w2 _ from HS.out.1.below (hb.mono (B := w.heap.size + 1 + 1 + 1 + 1) (Nat.le_refl _)) (by simp; omega))
  have HB := Aside0.mk (show Below w.heap.size w w2 from HS.out.2.trans (hb.mono (by omega)))
  have HG := Aside0.mk (show w.heap.size + 4 ≤ w2.heap.size from by have := hb.size; simp only [World.size_alloc] at this; omega)
  clear HS hb
  rw [hk] at HP HB HG
  clear hk
  by_cases h0 : ue = 0
  · subst h0
    have hr : ((gue_right nn src dst b).bind fun right => some (gue_fin sp q nn P right)) = some (r1, r2, r3, r4) := by
      have := HH.out; rw [if_neg (by decide)] at this; exact this
    obtain ⟨right, hright, hr⟩ := Option.bind_eq_some_iff.1 hr
    have HF := Aside0.mk (Option.some.inj hr)
    have HR := Aside0.mk (show nn = 0 ∧ right = true ∨ nn ≠ 0 ∧ ∃ ps, sum_Pseudo.f src dst 17 b.size = some ps ∧ sum_Right.f [ps, b] = some right by
      unfold gue_right at hright
      by_cases hn : nn = 0
      · left; rw [if_pos hn] at hright; exact ⟨hn, (Option.some.inj hright).symm⟩
      · right; rw [if_neg hn] at hright; obtain ⟨ps, h1, h2⟩ := Option.bind_eq_some_iff.1 hright; exact ⟨hn, ps, h1, h2⟩)
    have HZ := Aside0.mk (show P.size ≤ 140737488351232 by
      have := HU.out; unfold udp_Get.f at this
      split at this
      · rename_i hb
        have := Option.some.inj this
        split at this
        · simp only [Prod.mk.injEq] at this; rw [← this.2.2.1, ByteArray.size_extract]; omega
        · simp only [Prod.mk.injEq] at this; rw [← this.2.2.1]; exact Nat.zero_le _
      · exact absurd this (by simp))
    clear hr hright HH
    obtain ⟨g, hg⟩ : ∃ g, w2.heap.size = g := ⟨_, rfl⟩
    have HD := Aside0.mk (GW.made (sp := sp) (q := q) (nn := nn) (P := P) HP.out HB.out HK.out hg (hg ▸ HG.out))
    go_wp2_with fail
    try simp only [hg]
    refine (gue_Get.reads k g src dst b P sp q nn right w _ HV.out HR.out HZ.out HD.out.1 HD.out.2).mono ?_
    rintro e w3 ⟨rfl, x, hw, hx⟩
    have HW := Aside0.mk hw
    have HX := Aside0.mk hx
    clear hw hx HD hg
    by_cases h1 : gueErr q right P = 0
    · have d1 : (gueErr q right P != 0) = false := bne_eq_false_iff_eq.mpr h1
      have hf := HF.out
      unfold gue_fin at hf
      rw [if_pos h1] at hf
      simp only [Prod.mk.injEq] at hf
      obtain ⟨rfl, rfl, rfl, rfl⟩ := hf
      obtain rfl := HX.out h1
      clear h1 HF HX
      have c1 := HW.out.1.tail.tail.tail.head.cells
      have c2 := HW.out.1.tail.tail.tail.head.frees
      have c3 := HW.out.1.tail.tail.tail.tail.head.cells
      have c4 := HW.out.1.tail.tail.tail.tail.tail.head.cell 0 _ rfl
      have c5 := HW.out.1.tail.tail.tail.tail.tail.tail.head.cell 0 _ rfl
      have a1 : (k + 1 = g) = False := eq_false (by have := HW.out.2.2.2; omega)
      have a2 : (k + 1 + 1 = g) = False := eq_false (by have := HW.out.2.2.2; omega)
      have a3 : (k + 1 + 1 + 1 = g) = False := eq_false (by have := HW.out.2.2.2; omega)
      have a4 : (g = k + 1) = False := eq_false (by have := HW.out.2.2.2; omega)
      have a5 : (g = k + 1 + 1) = False := eq_false (by have := HW.out.2.2.2; omega)
      have a6 : (g = k + 1 + 1 + 1) = False := eq_false (by have := HW.out.2.2.2; omega)
      go_wp2_with fail
      go_region
      all_goals
        have c6 := Aside0.mk ((HW.out.1.tail.tail.tail.head.set 0 (.int .i64 sp)).set 1 (.bool (nn != 0))).drew
        simp only [List.setIfInBounds_toArray, List.set_cons_zero, List.set_cons_succ] at c6
        clear c1 c2 c3 c4 c5 a1 a2 a3 a4 a5 a6
        go_wp2
        refine bodyPost_ret (results_cell_tmp2 rfl _ _ _ _ _ rfl c6.out hu rfl (by kernel_rfl)) rfl ?_
        exact ⟨rfl, by rw [HK.out]; exact ((HW.out.2.1.setCell (by simp; omega) _).setCell (by simp; omega) _).drew⟩
    · have d1 : (gueErr q right P != 0) = true := bne_iff_ne.mpr h1
      have hf := HF.out
      unfold gue_fin at hf
      rw [if_neg h1] at hf
      simp only [Prod.mk.injEq] at hf
      obtain ⟨rfl, rfl, rfl, rfl⟩ := hf
      clear h1 HF HX
      have c1 := HW.out.1.tail.tail.tail.head.cells
      have c2 := HW.out.1.tail.tail.tail.head.frees
      go_wp2
      have c6 := Aside0.mk ((HW.out.1.tail.tail.tail.head.set 0 (.int .i64 0)).set 1 (.bool false))
      simp only [List.setIfInBounds_toArray, List.set_cons_zero, List.set_cons_succ] at c6
      clear c1 c2
      refine bodyPost_ret (results_cell_tmp2 rfl _ _ _ _ _ rfl c6.out hu rfl (by kernel_rfl)) rfl ?_
      exact ⟨rfl, by rw [HK.out]; exact (HW.out.2.1.setCell (by simp; omega) _).setCell (by simp; omega) _⟩
  · have d1 : (ue == 0) = false := beq_eq_false_iff_ne.mpr h0
    have d2 : (ue != 0) = true := bne_iff_ne.mpr h0
    have hf := HH.out
    rw [if_pos h0] at hf
    have hf := Option.some.inj hf
    simp only [Prod.mk.injEq] at hf
    obtain ⟨rfl, rfl, rfl, rfl⟩ := hf
    clear h0 HH
    obtain ⟨g, hg⟩ : ∃ g, w2.heap.size = g := ⟨_, rfl⟩
    have HD := Aside0.mk (GW.made (src := src) (dst := dst) (b := b) (sp := sp) (q := q) (nn := nn) (P := P) HP.out HB.out HK.out hg (hg ▸ HG.out))
    have c1 := HD.out.1.1.tail.tail.tail.head.cells
    have c2 := HD.out.1.1.tail.tail.tail.head.frees
    go_wp2
    have c6 := Aside0.mk ((HD.out.1.1.tail.tail.tail.head.set 0 (.int .i64 0)).set 1 (.bool false))
    simp only [List.setIfInBounds_toArray, List.set_cons_zero, List.set_cons_succ] at c6
    clear c1 c2
    refine bodyPost_ret (results_cell_tmp2 rfl _ _ _ _ _ rfl c6.out hu rfl (by kernel_rfl)) rfl ?_
    exact ⟨rfl, by rw [HK.out]; exact (HD.out.1.2.1.setCell (by simp; omega) _).setCell (by simp; omega) _⟩
end Go.Proofs.YtcmalglippmocaaDoor.G
end

section
namespace Go.Proofs.YtcmalglippmocaaDoor.G
open Go.RowKit Go.Proofs.YtcmalglippmocaaDoorW.PrintWords Go.Proofs.YtcmalglippmocaaDoorW.PrintLast Go.Proofs.YtcmalglippmocaaDoorW.PrintMore
attribute [local go_sem] max2_int min2_int max_two min_two max_three min_three max_four min_four

def gue_Put.f (a0_0 : Int) (a0_1 : Bool) (a1 : ByteArray) (a2 : ByteArray) (a3 : ByteArray) : Option (ByteArray × Int) := (ipip_Proto.f a3).bind fun bt266 => (if bt266.2 = 0 then ((gue_header.f bt266.1).bind fun t268 => (if t268.size + a3.size ≤ 9223372036854775807 then ((udp_Put.f a0_0 6080 (t268 ++ a3) 0).bind fun bt269 => (if bt269.2 = 0 then (if a0_1 = true then ((flow_Seal.f 17 a1 a2 bt269.1).bind fun t271 => (some (t271, bt269.2))) else (some (bt269.1, bt269.2))) else (some (bt269.1, bt269.2)))) else (none))) else (some ((⟨#[]⟩ : ByteArray), bt266.2)))
def gue_Put.T4 : Bool × List (List Nat × List Nat) := (true, [([], []), ([0], [0]), ([], []), ([2], [2]), ([], []), ([3, 4], [3, 4]), ([1, 5], [1, 5]), ([6, 3], [6]), ([7], [7]), ([8], [8]), ([8], [8]), ([9, 7, 0, 1, 2, 3, 4, 5, 6, 7, 8, 9], [9]), ([10, 11, 0, 1, 2, 3, 4, 5, 6, 7, 8, 9, 10, 11], [10])])
def gue_Put.B4 : List Nat := [0, 1, 0, 4, 0, 28, 63, 127, 255, 511, 511, 1023, 4095]
theorem gue_Put.tab4 : rtab .any (opsOf Tryd.f36 4) = gue_Put.T4 := by kernel_rfl
theorem gue_Put.bits4 : waitsOk gue_Put.T4.2 gue_Put.B4 = true := by kernel_rfl
set_option maxHeartbeats 8000000 in
set_option maxRecDepth 100000 in
theorem gue_Put.calls (a0_0 : Int) (a0_1 : Bool) (a1 : ByteArray) (a2 : ByteArray) (a3 : ByteArray) (r1 : ByteArray) (r2 : Int) (w : World) (h : gue_Put.f a0_0 a0_1 a1 a2 a3 = some (r1, r2)) (hgV_ : GV w) (hgP_ : GP w) :
  Calls Tryd.prog 36 #[.agg #[.int .i64 a0_0, .bool a0_1], .string a1, .string a2, .string a3] w fun e w' => e = .returned (.tuple #[.string r1, .int .i64 r2]) ∧ Below w.heap.size w w' := by
 have HgV_ := mA hgV_
 clear hgV_
 have HgP_ := mA hgP_
 clear hgP_
 have hu55 := Tryd.underlying55
 have hu81 := Tryd.underlying81
 have HB := mA (Below.refl w.heap.size w)
 have H : ((ipip_Proto.f a3).bind fun bt266 => (if bt266.2 = 0 then ((gue_header.f bt266.1).bind fun t268 => (if t268.size + a3.size ≤ 9223372036854775807 then ((udp_Put.f a0_0 6080 (t268 ++ a3) 0).bind fun bt269 => (if bt269.2 = 0 then (if a0_1 = true then ((flow_Seal.f 17 a1 a2 bt269.1).bind fun t271 => (some (t271, bt269.2))) else (some (bt269.1, bt269.2))) else (some (bt269.1, bt269.2)))) else (none))) else (some ((⟨#[]⟩ : ByteArray), bt266.2)))) = some (r1, r2) := h
 clear h
 replace H := Option.bind_eq_some_iff.mp H
 obtain ⟨⟨t266, t267⟩, A50, H⟩ := H
 try dsimp +instances only at H
 have A5 := mA A50
 clear A50
 by_cases c6 : t267 = 0
 ·rw [if_pos c6] at H
  have c6b0 : (t267 == 0) = true := beq_iff_eq.mpr c6
  have c6b1 : (t267 != 0) = false := bne_eq_false_iff_eq.mpr c6
  clear c6
  replace H := Option.bind_eq_some_iff.mp H
  obtain ⟨t268, A70, H⟩ := H
  try dsimp +instances only at H
  have A7 := mA A70
  clear A70
  by_cases c8 : t268.size + a3.size ≤ 9223372036854775807
  ·rw [if_pos c8] at H
   have c8b0 := eq_true c8
   have c8b1 : decide (t268.size + a3.size ≤ 9223372036854775807) = true := decide_eq_true c8
   try have c8b2 : (9223372036854775807 < t268.size + a3.size) = False := eq_false (Nat.not_lt.2 c8)
   replace H := Option.bind_eq_some_iff.mp H
   obtain ⟨⟨t269, t270⟩, A90, H⟩ := H
   try dsimp +instances only at H
   have A9 := mA A90
   clear A90
   by_cases c10 : t270 = 0
   ·rw [if_pos c10] at H
    have c10b0 : (t270 == 0) = true := beq_iff_eq.mpr c10
    have c10b1 : (t270 != 0) = false := bne_eq_false_iff_eq.mpr c10
    clear c10
    by_cases c11 : a0_1 = true
    ·subst c11
     rw [if_pos rfl] at H
     replace H := Option.bind_eq_some_iff.mp H
     obtain ⟨t271, A120, H⟩ := H
     try dsimp +instances only at H
     have A12 := mA A120
     clear A120
     simp only [Option.some.injEq, Prod.mk.injEq] at H
     obtain ⟨rfl, rfl⟩ := H
     go_enter Tryd.func36, Tryd.ntmps36
     try go_wp2_with (first | ((with_reducible refine gate_dst (N := 4) rfl ?_); refine box_event ?hg (N := 4) ?hd (cs := #[.int .i64 a0_0, .bool true]) (t := 55) ?hr ?_; (case hd => rfl); (case hg => rfl); (case hr => first | (go_simp; done) | (go_simp; rfl)); intro gb265 hg w13 hbox hb; obtain ⟨n0_, nq_⟩ := bpr (by repeat (first | (with_reducible first | exact HB.out | apply bA | apply bN | apply bD) | exact HB.out)) hb; have n1_ := mA (hbox); have n2_ := mA ((by rw [hg]; exact nq_ : w.heap.size ≤ gb265)); have n3_ := mA ((by rw [hg]; exact nq_ : w.heap.size ≤ gb265)); clear HB; have HB := n0_; have BK265 := n1_; have GW265 := n2_; have GE265 := n3_; clear nq_; clear n0_ n1_ n2_ n3_; clear hb hbox hg) | ((with_reducible refine gate_callee (f := 21) rfl ?_); refine goesL_ (some 15) rfl rfl Tryd.func21 (by kernel_rfl) rfl #[.string a3] rfl (by (try simp only [List.map_toArray, List.map_cons, List.map_nil]); first | done | rfl | (simp only [List.length_drop, List.length_take]; rfl)) ?_; (with_reducible refine (ipip_Proto.calls a3 t266 t267 _ A5.out (GV.below HgV_.out (by repeat (first | (with_reducible first | exact HB.out | apply bA | apply bN | apply bD | refine bS ?_ GE265.out) | exact HB.out)))).mono ?_); rintro e w14 ⟨rfl, hb⟩; refine ⟨_, rfl, ?_⟩; have n0_ := mA (blk_below (g := gb265) (o := .cells #[.int .i64 a0_0, .bool true] 55 (0, 0)) (by (with_reducible repeat (first | apply kN | apply kD | apply kA)); exact BK265.out) hb); have n1_ := mA (bP (by repeat (first | (with_reducible first | exact HB.out | apply bA | apply bN | apply bD | refine bS ?_ GE265.out) | exact HB.out)) hb); clear BK265; clear HB; have BK265 := n0_; have HB := n1_; clear n0_ n1_; (try clear hb); (try clear hb2); (try clear hk); (try clear hi)))
     have n0_ := mA (kD BK265.out)
     have n1_ := mA (bD HB.out)
     clear BK265
     clear HB
     have BK265 := n0_
     have HB := n1_
     clear n0_ n1_
     refine start_ (n := 13) (S := fun w' => w'.cell? ⟨gb265, 0, none⟩ = some (.int .i64 a0_0) ∧ w'.cell? ⟨gb265, 1, none⟩ = some (.bool true)) (ds := []) (bv 13 0) (by kernel_rfl) rfl rfl ⟨(zC BK265.out 0).trans rfl, (zC BK265.out 1).trans rfl⟩ (fun hHeld => ?_); refine with_tabW gue_Put.tab4 gue_Put.bits4 (fun HT_ HW_ => ?_)
     generalize w14.drew = w15 at BK265 HB hHeld ⊢
     refine pure_ (i := 0) (N := some 22) (v := ?_) (a' := ?_) (bv 13 1) rfl rfl (any_of HT_.out (by kernel_rfl)) (fun _ _ _ h => h) (Or.inl ⟨by rfl, ?_⟩) ?_ ?_; rotate_left; (intro w'; go_simp; with_reducible rfl); rotate_left; (simp only [Act.put, List.setIfInBounds_toArray, List.set_cons_zero, List.set_cons_succ, i64_w, i32_w]; rfl)
     refine pure_ (i := 2) (N := some 24) (v := ?_) (a' := ?_) (bv 13 5) rfl rfl (any_of HT_.out (by kernel_rfl)) (fun _ _ _ h => h) (Or.inl ⟨by rfl, ?_⟩) ?_ ?_; rotate_left; (intro w'; go_simp; with_reducible rfl); rotate_left; (simp only [Act.put, List.setIfInBounds_toArray, List.set_cons_zero, List.set_cons_succ, i64_w, i32_w]; rfl)
     refine pure_ (i := 4) (N := some 26) (v := ?_) (a' := ?_) (bv 13 21) rfl rfl (any_of HT_.out (by kernel_rfl)) (fun _ _ _ h => h) (Or.inl ⟨by rfl, ?_⟩) ?_ ?_; rotate_left; (intro w'; go_simp; with_reducible rfl); rotate_left; (simp only [Act.put, List.setIfInBounds_toArray, List.set_cons_zero, List.set_cons_succ, i64_w, i32_w]; rfl)
     refine take_ (i := 1) (N := some 23) (v := ?_) (a' := ?_) (bv 13 23) rfl rfl (take_ofW HT_.out HW_.out (by kernel_rfl)) (fun _ _ _ h => h) (Or.inl ⟨by rfl, ?_⟩) hHeld ?_ ?_; rotate_left; (rintro w' ⟨s0, s1⟩; go_simp; with_reducible rfl); rotate_left; (simp only [Act.put, List.setIfInBounds_toArray, List.set_cons_zero, List.set_cons_succ, i64_w, i32_w]; rfl)
     refine one_ (i := 3) (N := some 25) (bv 13 31) rfl rfl (one_of HT_.out (by kernel_rfl)) (by decide) (fun K hK => ?_)
     refine goes_ Tryd.func74 (by kernel_rfl) rfl #[.int .i64 t266] (by rfl) rfl rfl (by (try simp only [List.map_toArray, List.map_cons, List.map_nil]); first | done | rfl | (simp only [List.length_drop, List.length_take]; rfl)) ?_
     with_reducible refine (gue_header.calls t266 t268 _ A7.out).mono ?_
     rintro e w16 ⟨rfl, hb⟩
     refine ⟨_, rfl, ?_⟩
     have n0_ := mA (blk_below (g := gb265) (o := .cells #[.int .i64 a0_0, .bool true] 55 (0, 0)) (by (with_reducible repeat (first | apply kN | apply kD | apply kA)); exact BK265.out) hb)
     have n1_ := mA (bP (by repeat (first | (with_reducible first | exact HB.out | apply bA | apply bN | apply bD | refine bS ?_ GE265.out) | exact HB.out)) hb)
     clear BK265
     clear HB
     have BK265 := n0_
     have HB := n1_
     clear n0_ n1_
     (try clear hb)
     (try clear hb2)
     (try clear hk)
     (try clear hi)
     refine hK.out _ _ ⟨(zC BK265.out 0).trans rfl, (zC BK265.out 1).trans rfl⟩ (fun hHeld => ?_)
     clear hK K
     refine norm_ (a' := ?_) ?_ ?_
     rotate_left
     ·show Act.put _ (some 25) _ = _
      simp only [Act.put, List.setIfInBounds_toArray, List.set_cons_zero, List.set_cons_succ, i64_w, i32_w]
      rfl
     refine pure_ (i := 5) (N := some 27) (v := ?_) (a' := ?_) (bv 13 63) rfl rfl (any_of HT_.out (by kernel_rfl)) (fun _ _ _ h => h) (Or.inl ⟨by rfl, ?_⟩) ?_ ?_; rotate_left; (intro w'; go_simp; with_reducible rfl); rotate_left; (simp only [Act.put, List.setIfInBounds_toArray, List.set_cons_zero, List.set_cons_succ, i64_w, i32_w]; rfl)
     refine pure_ (i := 6) (N := some 28) (v := ?_) (a' := ?_) (bv 13 127) rfl rfl (any_of HT_.out (by kernel_rfl)) (fun _ _ _ h => h) (Or.inl ⟨by rfl, ?_⟩) ?_ ?_; rotate_left; (intro w'; go_simp; with_reducible rfl); rotate_left; (simp only [Act.put, List.setIfInBounds_toArray, List.set_cons_zero, List.set_cons_succ, i64_w, i32_w]; rfl)
     refine one_ (i := 7) (N := some 29) (bv 13 255) rfl rfl (one_of HT_.out (by kernel_rfl)) (by decide) (fun K hK => ?_)
     refine goes_ Tryd.func73 (by kernel_rfl) rfl #[.agg #[.int .i64 a0_0, .int .i64 6080, .string (t268 ++ a3)], .int .i64 0] (by rfl) rfl rfl (by (try simp only [List.map_toArray, List.map_cons, List.map_nil]); first | done | rfl | (simp only [List.length_drop, List.length_take]; rfl)) ?_
     with_reducible refine (udp_Put.calls a0_0 6080 (t268 ++ a3) 0 t269 t270 _ A9.out).mono ?_
     rintro e w17 ⟨rfl, hb⟩
     refine ⟨_, rfl, ?_⟩
     have n0_ := mA (blk_below (g := gb265) (o := .cells #[.int .i64 a0_0, .bool true] 55 (0, 0)) (by (with_reducible repeat (first | apply kN | apply kD | apply kA)); exact BK265.out) hb)
     have n1_ := mA (bP (by repeat (first | (with_reducible first | exact HB.out | apply bA | apply bN | apply bD | refine bS ?_ GE265.out) | exact HB.out)) hb)
     clear BK265
     clear HB
     have BK265 := n0_
     have HB := n1_
     clear n0_ n1_
     (try clear hb)
     (try clear hb2)
     (try clear hk)
     (try clear hi)
     refine hK.out _ _ ⟨(zC BK265.out 0).trans rfl, (zC BK265.out 1).trans rfl⟩ (fun hHeld => ?_)
     clear hK K
     refine norm_ (a' := ?_) ?_ ?_
     rotate_left
     ·show Act.put _ (some 29) _ = _
      simp only [Act.put, List.setIfInBounds_toArray, List.set_cons_zero, List.set_cons_succ, i64_w, i32_w]
      rfl
     refine pure_ (i := 8) (N := some 21) (v := ?_) (a' := ?_) (bv 13 511) rfl rfl (any_of HT_.out (by kernel_rfl)) (fun _ _ _ h => h) (Or.inl ⟨by rfl, ?_⟩) ?_ ?_; rotate_left; (intro w'; go_simp; with_reducible rfl); rotate_left; (simp only [Act.put, List.setIfInBounds_toArray, List.set_cons_zero, List.set_cons_succ, i64_w, i32_w]; rfl)
     refine pure_ (i := 9) (N := some 30) (v := ?_) (a' := ?_) (bv 13 1023) rfl rfl (any_of HT_.out (by kernel_rfl)) (fun _ _ _ h => h) (Or.inl ⟨by rfl, ?_⟩) ?_ ?_; rotate_left; (intro w'; go_simp; with_reducible rfl); rotate_left; (simp only [Act.put, List.setIfInBounds_toArray, List.set_cons_zero, List.set_cons_succ, i64_w, i32_w]; rfl)
     refine pure_ (i := 10) (N := some 31) (v := ?_) (a' := ?_) (bv 13 2047) rfl rfl (any_of HT_.out (by kernel_rfl)) (fun _ _ _ h => h) (Or.inl ⟨by rfl, ?_⟩) ?_ ?_; rotate_left; (intro w'; go_simp; with_reducible rfl); rotate_left; (simp only [Act.put, List.setIfInBounds_toArray, List.set_cons_zero, List.set_cons_succ, i64_w, i32_w]; rfl)
     refine pure_ (i := 11) (N := some 12) (v := ?_) (a' := ?_) (bv 13 4095) rfl rfl (any_of HT_.out (by kernel_rfl)) (fun _ _ _ h => h) (Or.inl ⟨by rfl, ?_⟩) ?_ ?_; rotate_left; (intro w'; go_simp; with_reducible rfl); rotate_left; (simp only [Act.put, List.setIfInBounds_toArray, List.set_cons_zero, List.set_cons_succ, i64_w, i32_w]; rfl)
     refine pure_ (i := 12) (N := some 11) (v := ?_) (a' := ?_) (bv 13 8191) rfl rfl (any_of HT_.out (by kernel_rfl)) (fun _ _ _ h => h) (Or.inl ⟨by rfl, ?_⟩) ?_ ?_; rotate_left; (intro w'; go_simp; with_reducible rfl); rotate_left; (simp only [Act.put, List.setIfInBounds_toArray, List.set_cons_zero, List.set_cons_succ, i64_w, i32_w]; rfl)
     refine done_ (done_of HT_.out (by kernel_rfl)) ?_
     obtain ⟨hcz18_0, hcz18_1⟩ := bc2 BK265.out
     obtain ⟨hfz18_0, hfz18_1⟩ := bf2 BK265.out
     try go_wp2_with (first | ((with_reducible refine gate_callee (f := 41) rfl ?_); refine goesL_ (some 41) rfl rfl Tryd.func41 (by kernel_rfl) rfl #[.int .i64 17, .string a1, .string a2, .string t269] rfl (by (try simp only [List.map_toArray, List.map_cons, List.map_nil]); first | done | rfl | (simp only [List.length_drop, List.length_take]; rfl)) ?_; (with_reducible refine (flow_Seal.calls 17 a1 a2 t269 t271 _ A12.out (GP.below HgP_.out (by repeat (first | (with_reducible first | exact HB.out | apply bA | apply bN | apply bD | refine bS ?_ GE265.out) | exact HB.out)))).mono ?_); rintro e w19 ⟨rfl, hb⟩; refine ⟨_, rfl, ?_⟩; have n0_ := mA (blk_below (g := gb265) (o := .cells #[.int .i64 a0_0, .bool true] 55 (0, 0)) (by (with_reducible repeat (first | apply kN | apply kD | apply kA)); exact BK265.out) hb); have n1_ := mA (bP (by repeat (first | (with_reducible first | exact HB.out | apply bA | apply bN | apply bD | refine bS ?_ GE265.out) | exact HB.out)) hb); clear BK265; clear HB; have BK265 := n0_; have HB := n1_; clear n0_ n1_; (try clear hb); (try clear hb2); (try clear hk); (try clear hi)))
     go_ret2
     exact ⟨by first | rfl | (simp [errW_none, errW_some] <;> rfl) | (simp [*, errW_none, errW_some] <;> rfl), by repeat (first | (with_reducible first | exact HB.out | apply bA | apply bN | apply bD | refine bS ?_ GE265.out) | exact HB.out)⟩
    ·replace c11 := Bool.eq_false_iff.mpr c11
     subst c11
     rw [if_neg (show ¬ (false = true) by decide)] at H
     simp only [Option.some.injEq, Prod.mk.injEq] at H
     obtain ⟨rfl, rfl⟩ := H
     go_enter Tryd.func36, Tryd.ntmps36
     try go_wp2_with (first | ((with_reducible refine gate_dst (N := 4) rfl ?_); refine box_event ?hg (N := 4) ?hd (cs := #[.int .i64 a0_0, .bool false]) (t := 55) ?hr ?_; (case hd => rfl); (case hg => rfl); (case hr => first | (go_simp; done) | (go_simp; rfl)); intro gb265 hg w20 hbox hb; obtain ⟨n0_, nq_⟩ := bpr (by repeat (first | (with_reducible first | exact HB.out | apply bA | apply bN | apply bD) | exact HB.out)) hb; have n1_ := mA (hbox); have n2_ := mA ((by rw [hg]; exact nq_ : w.heap.size ≤ gb265)); have n3_ := mA ((by rw [hg]; exact nq_ : w.heap.size ≤ gb265)); clear HB; have HB := n0_; have BK265 := n1_; have GW265 := n2_; have GE265 := n3_; clear nq_; clear n0_ n1_ n2_ n3_; clear hb hbox hg) | ((with_reducible refine gate_callee (f := 21) rfl ?_); refine goesL_ (some 15) rfl rfl Tryd.func21 (by kernel_rfl) rfl #[.string a3] rfl (by (try simp only [List.map_toArray, List.map_cons, List.map_nil]); first | done | rfl | (simp only [List.length_drop, List.length_take]; rfl)) ?_; (with_reducible refine (ipip_Proto.calls a3 t266 t267 _ A5.out (GV.below HgV_.out (by repeat (first | (with_reducible first | exact HB.out | apply bA | apply bN | apply bD | refine bS ?_ GE265.out) | exact HB.out)))).mono ?_); rintro e w21 ⟨rfl, hb⟩; refine ⟨_, rfl, ?_⟩; have n0_ := mA (blk_below (g := gb265) (o := .cells #[.int .i64 a0_0, .bool false] 55 (0, 0)) (by (with_reducible repeat (first | apply kN | apply kD | apply kA)); exact BK265.out) hb); have n1_ := mA (bP (by repeat (first | (with_reducible first | exact HB.out | apply bA | apply bN | apply bD | refine bS ?_ GE265.out) | exact HB.out)) hb); clear BK265; clear HB; have BK265 := n0_; have HB := n1_; clear n0_ n1_; (try clear hb); (try clear hb2); (try clear hk); (try clear hi)))
     have n0_ := mA (kD BK265.out)
     have n1_ := mA (bD HB.out)
     clear BK265
     clear HB
     have BK265 := n0_
     have HB := n1_
     clear n0_ n1_
     refine start_ (n := 13) (S := fun w' => w'.cell? ⟨gb265, 0, none⟩ = some (.int .i64 a0_0) ∧ w'.cell? ⟨gb265, 1, none⟩ = some (.bool false)) (ds := []) (bv 13 0) (by kernel_rfl) rfl rfl ⟨(zC BK265.out 0).trans rfl, (zC BK265.out 1).trans rfl⟩ (fun hHeld => ?_); refine with_tabW gue_Put.tab4 gue_Put.bits4 (fun HT_ HW_ => ?_)
     generalize w21.drew = w22 at BK265 HB hHeld ⊢
     refine pure_ (i := 0) (N := some 22) (v := ?_) (a' := ?_) (bv 13 1) rfl rfl (any_of HT_.out (by kernel_rfl)) (fun _ _ _ h => h) (Or.inl ⟨by rfl, ?_⟩) ?_ ?_; rotate_left; (intro w'; go_simp; with_reducible rfl); rotate_left; (simp only [Act.put, List.setIfInBounds_toArray, List.set_cons_zero, List.set_cons_succ, i64_w, i32_w]; rfl)
     refine pure_ (i := 2) (N := some 24) (v := ?_) (a' := ?_) (bv 13 5) rfl rfl (any_of HT_.out (by kernel_rfl)) (fun _ _ _ h => h) (Or.inl ⟨by rfl, ?_⟩) ?_ ?_; rotate_left; (intro w'; go_simp; with_reducible rfl); rotate_left; (simp only [Act.put, List.setIfInBounds_toArray, List.set_cons_zero, List.set_cons_succ, i64_w, i32_w]; rfl)
     refine pure_ (i := 4) (N := some 26) (v := ?_) (a' := ?_) (bv 13 21) rfl rfl (any_of HT_.out (by kernel_rfl)) (fun _ _ _ h => h) (Or.inl ⟨by rfl, ?_⟩) ?_ ?_; rotate_left; (intro w'; go_simp; with_reducible rfl); rotate_left; (simp only [Act.put, List.setIfInBounds_toArray, List.set_cons_zero, List.set_cons_succ, i64_w, i32_w]; rfl)
     refine take_ (i := 1) (N := some 23) (v := ?_) (a' := ?_) (bv 13 23) rfl rfl (take_ofW HT_.out HW_.out (by kernel_rfl)) (fun _ _ _ h => h) (Or.inl ⟨by rfl, ?_⟩) hHeld ?_ ?_; rotate_left; (rintro w' ⟨s0, s1⟩; go_simp; with_reducible rfl); rotate_left; (simp only [Act.put, List.setIfInBounds_toArray, List.set_cons_zero, List.set_cons_succ, i64_w, i32_w]; rfl)
     refine one_ (i := 3) (N := some 25) (bv 13 31) rfl rfl (one_of HT_.out (by kernel_rfl)) (by decide) (fun K hK => ?_)
     refine goes_ Tryd.func74 (by kernel_rfl) rfl #[.int .i64 t266] (by rfl) rfl rfl (by (try simp only [List.map_toArray, List.map_cons, List.map_nil]); first | done | rfl | (simp only [List.length_drop, List.length_take]; rfl)) ?_
     with_reducible refine (gue_header.calls t266 t268 _ A7.out).mono ?_
     rintro e w23 ⟨rfl, hb⟩
     refine ⟨_, rfl, ?_⟩
     have n0_ := mA (blk_below (g := gb265) (o := .cells #[.int .i64 a0_0, .bool false] 55 (0, 0)) (by (with_reducible repeat (first | apply kN | apply kD | apply kA)); exact BK265.out) hb)
     have n1_ := mA (bP (by repeat (first | (with_reducible first | exact HB.out | apply bA | apply bN | apply bD | refine bS ?_ GE265.out) | exact HB.out)) hb)
     clear BK265
     clear HB
     have BK265 := n0_
     have HB := n1_
     clear n0_ n1_
     (try clear hb)
     (try clear hb2)
     (try clear hk)
     (try clear hi)
     refine hK.out _ _ ⟨(zC BK265.out 0).trans rfl, (zC BK265.out 1).trans rfl⟩ (fun hHeld => ?_)
     clear hK K
     refine norm_ (a' := ?_) ?_ ?_
     rotate_left
     ·show Act.put _ (some 25) _ = _
      simp only [Act.put, List.setIfInBounds_toArray, List.set_cons_zero, List.set_cons_succ, i64_w, i32_w]
      rfl
     refine pure_ (i := 5) (N := some 27) (v := ?_) (a' := ?_) (bv 13 63) rfl rfl (any_of HT_.out (by kernel_rfl)) (fun _ _ _ h => h) (Or.inl ⟨by rfl, ?_⟩) ?_ ?_; rotate_left; (intro w'; go_simp; with_reducible rfl); rotate_left; (simp only [Act.put, List.setIfInBounds_toArray, List.set_cons_zero, List.set_cons_succ, i64_w, i32_w]; rfl)
     refine pure_ (i := 6) (N := some 28) (v := ?_) (a' := ?_) (bv 13 127) rfl rfl (any_of HT_.out (by kernel_rfl)) (fun _ _ _ h => h) (Or.inl ⟨by rfl, ?_⟩) ?_ ?_; rotate_left; (intro w'; go_simp; with_reducible rfl); rotate_left; (simp only [Act.put, List.setIfInBounds_toArray, List.set_cons_zero, List.set_cons_succ, i64_w, i32_w]; rfl)
     refine one_ (i := 7) (N := some 29) (bv 13 255) rfl rfl (one_of HT_.out (by kernel_rfl)) (by decide) (fun K hK => ?_)
     refine goes_ Tryd.func73 (by kernel_rfl) rfl #[.agg #[.int .i64 a0_0, .int .i64 6080, .string (t268 ++ a3)], .int .i64 0] (by rfl) rfl rfl (by (try simp only [List.map_toArray, List.map_cons, List.map_nil]); first | done | rfl | (simp only [List.length_drop, List.length_take]; rfl)) ?_
     with_reducible refine (udp_Put.calls a0_0 6080 (t268 ++ a3) 0 t269 t270 _ A9.out).mono ?_
     rintro e w24 ⟨rfl, hb⟩
     refine ⟨_, rfl, ?_⟩
     have n0_ := mA (blk_below (g := gb265) (o := .cells #[.int .i64 a0_0, .bool false] 55 (0, 0)) (by (with_reducible repeat (first | apply kN | apply kD | apply kA)); exact BK265.out) hb)
     have n1_ := mA (bP (by repeat (first | (with_reducible first | exact HB.out | apply bA | apply bN | apply bD | refine bS ?_ GE265.out) | exact HB.out)) hb)
     clear BK265
     clear HB
     have BK265 := n0_
     have HB := n1_
     clear n0_ n1_
     (try clear hb)
     (try clear hb2)
     (try clear hk)
     (try clear hi)
     refine hK.out _ _ ⟨(zC BK265.out 0).trans rfl, (zC BK265.out 1).trans rfl⟩ (fun hHeld => ?_)
     clear hK K
     refine norm_ (a' := ?_) ?_ ?_
     rotate_left
     ·show Act.put _ (some 29) _ = _
      simp only [Act.put, List.setIfInBounds_toArray, List.set_cons_zero, List.set_cons_succ, i64_w, i32_w]
      rfl
     refine pure_ (i := 8) (N := some 21) (v := ?_) (a' := ?_) (bv 13 511) rfl rfl (any_of HT_.out (by kernel_rfl)) (fun _ _ _ h => h) (Or.inl ⟨by rfl, ?_⟩) ?_ ?_; rotate_left; (intro w'; go_simp; with_reducible rfl); rotate_left; (simp only [Act.put, List.setIfInBounds_toArray, List.set_cons_zero, List.set_cons_succ, i64_w, i32_w]; rfl)
     refine pure_ (i := 9) (N := some 30) (v := ?_) (a' := ?_) (bv 13 1023) rfl rfl (any_of HT_.out (by kernel_rfl)) (fun _ _ _ h => h) (Or.inl ⟨by rfl, ?_⟩) ?_ ?_; rotate_left; (intro w'; go_simp; with_reducible rfl); rotate_left; (simp only [Act.put, List.setIfInBounds_toArray, List.set_cons_zero, List.set_cons_succ, i64_w, i32_w]; rfl)
     refine pure_ (i := 10) (N := some 31) (v := ?_) (a' := ?_) (bv 13 2047) rfl rfl (any_of HT_.out (by kernel_rfl)) (fun _ _ _ h => h) (Or.inl ⟨by rfl, ?_⟩) ?_ ?_; rotate_left; (intro w'; go_simp; with_reducible rfl); rotate_left; (simp only [Act.put, List.setIfInBounds_toArray, List.set_cons_zero, List.set_cons_succ, i64_w, i32_w]; rfl)
     refine pure_ (i := 11) (N := some 12) (v := ?_) (a' := ?_) (bv 13 4095) rfl rfl (any_of HT_.out (by kernel_rfl)) (fun _ _ _ h => h) (Or.inl ⟨by rfl, ?_⟩) ?_ ?_; rotate_left; (intro w'; go_simp; with_reducible rfl); rotate_left; (simp only [Act.put, List.setIfInBounds_toArray, List.set_cons_zero, List.set_cons_succ, i64_w, i32_w]; rfl)
     refine pure_ (i := 12) (N := some 11) (v := ?_) (a' := ?_) (bv 13 8191) rfl rfl (any_of HT_.out (by kernel_rfl)) (fun _ _ _ h => h) (Or.inl ⟨by rfl, ?_⟩) ?_ ?_; rotate_left; (intro w'; go_simp; with_reducible rfl); rotate_left; (simp only [Act.put, List.setIfInBounds_toArray, List.set_cons_zero, List.set_cons_succ, i64_w, i32_w]; rfl)
     refine done_ (done_of HT_.out (by kernel_rfl)) ?_
     obtain ⟨hcz25_0, hcz25_1⟩ := bc2 BK265.out
     obtain ⟨hfz25_0, hfz25_1⟩ := bf2 BK265.out
     try go_wp2
     go_ret2
     exact ⟨by first | rfl | (simp [errW_none, errW_some] <;> rfl) | (simp [*, errW_none, errW_some] <;> rfl), by repeat (first | (with_reducible first | exact HB.out | apply bA | apply bN | apply bD | refine bS ?_ GE265.out) | exact HB.out)⟩
   ·rw [if_neg c10] at H
    have c10b0 : (t270 == 0) = false := beq_eq_false_iff_ne.mpr c10
    have c10b1 : (t270 != 0) = true := bne_iff_ne.mpr c10
    simp only [Option.some.injEq, Prod.mk.injEq] at H
    obtain ⟨rfl, rfl⟩ := H
    go_enter Tryd.func36, Tryd.ntmps36
    try go_wp2_with (first | ((with_reducible refine gate_dst (N := 4) rfl ?_); refine box_event ?hg (N := 4) ?hd (cs := #[.int .i64 a0_0, .bool a0_1]) (t := 55) ?hr ?_; (case hd => rfl); (case hg => rfl); (case hr => first | (go_simp; done) | (go_simp; rfl)); intro gb265 hg w26 hbox hb; obtain ⟨n0_, nq_⟩ := bpr (by repeat (first | (with_reducible first | exact HB.out | apply bA | apply bN | apply bD) | exact HB.out)) hb; have n1_ := mA (hbox); have n2_ := mA ((by rw [hg]; exact nq_ : w.heap.size ≤ gb265)); have n3_ := mA ((by rw [hg]; exact nq_ : w.heap.size ≤ gb265)); clear HB; have HB := n0_; have BK265 := n1_; have GW265 := n2_; have GE265 := n3_; clear nq_; clear n0_ n1_ n2_ n3_; clear hb hbox hg) | ((with_reducible refine gate_callee (f := 21) rfl ?_); refine goesL_ (some 15) rfl rfl Tryd.func21 (by kernel_rfl) rfl #[.string a3] rfl (by (try simp only [List.map_toArray, List.map_cons, List.map_nil]); first | done | rfl | (simp only [List.length_drop, List.length_take]; rfl)) ?_; (with_reducible refine (ipip_Proto.calls a3 t266 t267 _ A5.out (GV.below HgV_.out (by repeat (first | (with_reducible first | exact HB.out | apply bA | apply bN | apply bD | refine bS ?_ GE265.out) | exact HB.out)))).mono ?_); rintro e w27 ⟨rfl, hb⟩; refine ⟨_, rfl, ?_⟩; have n0_ := mA (blk_below (g := gb265) (o := .cells #[.int .i64 a0_0, .bool a0_1] 55 (0, 0)) (by (with_reducible repeat (first | apply kN | apply kD | apply kA)); exact BK265.out) hb); have n1_ := mA (bP (by repeat (first | (with_reducible first | exact HB.out | apply bA | apply bN | apply bD | refine bS ?_ GE265.out) | exact HB.out)) hb); clear BK265; clear HB; have BK265 := n0_; have HB := n1_; clear n0_ n1_; (try clear hb); (try clear hb2); (try clear hk); (try clear hi)))
    have n0_ := mA (kD BK265.out)
    have n1_ := mA (bD HB.out)
    clear BK265
    clear HB
    have BK265 := n0_
    have HB := n1_
    clear n0_ n1_
    refine start_ (n := 13) (S := fun w' => w'.cell? ⟨gb265, 0, none⟩ = some (.int .i64 a0_0) ∧ w'.cell? ⟨gb265, 1, none⟩ = some (.bool a0_1)) (ds := []) (bv 13 0) (by kernel_rfl) rfl rfl ⟨(zC BK265.out 0).trans rfl, (zC BK265.out 1).trans rfl⟩ (fun hHeld => ?_); refine with_tabW gue_Put.tab4 gue_Put.bits4 (fun HT_ HW_ => ?_)
    generalize w27.drew = w28 at BK265 HB hHeld ⊢
    refine pure_ (i := 0) (N := some 22) (v := ?_) (a' := ?_) (bv 13 1) rfl rfl (any_of HT_.out (by kernel_rfl)) (fun _ _ _ h => h) (Or.inl ⟨by rfl, ?_⟩) ?_ ?_; rotate_left; (intro w'; go_simp; with_reducible rfl); rotate_left; (simp only [Act.put, List.setIfInBounds_toArray, List.set_cons_zero, List.set_cons_succ, i64_w, i32_w]; rfl)
    refine pure_ (i := 2) (N := some 24) (v := ?_) (a' := ?_) (bv 13 5) rfl rfl (any_of HT_.out (by kernel_rfl)) (fun _ _ _ h => h) (Or.inl ⟨by rfl, ?_⟩) ?_ ?_; rotate_left; (intro w'; go_simp; with_reducible rfl); rotate_left; (simp only [Act.put, List.setIfInBounds_toArray, List.set_cons_zero, List.set_cons_succ, i64_w, i32_w]; rfl)
    refine pure_ (i := 4) (N := some 26) (v := ?_) (a' := ?_) (bv 13 21) rfl rfl (any_of HT_.out (by kernel_rfl)) (fun _ _ _ h => h) (Or.inl ⟨by rfl, ?_⟩) ?_ ?_; rotate_left; (intro w'; go_simp; with_reducible rfl); rotate_left; (simp only [Act.put, List.setIfInBounds_toArray, List.set_cons_zero, List.set_cons_succ, i64_w, i32_w]; rfl)
    refine take_ (i := 1) (N := some 23) (v := ?_) (a' := ?_) (bv 13 23) rfl rfl (take_ofW HT_.out HW_.out (by kernel_rfl)) (fun _ _ _ h => h) (Or.inl ⟨by rfl, ?_⟩) hHeld ?_ ?_; rotate_left; (rintro w' ⟨s0, s1⟩; go_simp; with_reducible rfl); rotate_left; (simp only [Act.put, List.setIfInBounds_toArray, List.set_cons_zero, List.set_cons_succ, i64_w, i32_w]; rfl)
    refine one_ (i := 3) (N := some 25) (bv 13 31) rfl rfl (one_of HT_.out (by kernel_rfl)) (by decide) (fun K hK => ?_)
    refine goes_ Tryd.func74 (by kernel_rfl) rfl #[.int .i64 t266] (by rfl) rfl rfl (by (try simp only [List.map_toArray, List.map_cons, List.map_nil]); first | done | rfl | (simp only [List.length_drop, List.length_take]; rfl)) ?_
    with_reducible refine (gue_header.calls t266 t268 _ A7.out).mono ?_
    rintro e w29 ⟨rfl, hb⟩
    refine ⟨_, rfl, ?_⟩
    have n0_ := mA (blk_below (g := gb265) (o := .cells #[.int .i64 a0_0, .bool a0_1] 55 (0, 0)) (by (with_reducible repeat (first | apply kN | apply kD | apply kA)); exact BK265.out) hb)
    have n1_ := mA (bP (by repeat (first | (with_reducible first | exact HB.out | apply bA | apply bN | apply bD | refine bS ?_ GE265.out) | exact HB.out)) hb)
    clear BK265
    clear HB
    have BK265 := n0_
    have HB := n1_
    clear n0_ n1_
    (try clear hb)
    (try clear hb2)
    (try clear hk)
    (try clear hi)
    refine hK.out _ _ ⟨(zC BK265.out 0).trans rfl, (zC BK265.out 1).trans rfl⟩ (fun hHeld => ?_)
    clear hK K
    refine norm_ (a' := ?_) ?_ ?_
    rotate_left
    ·show Act.put _ (some 25) _ = _
     simp only [Act.put, List.setIfInBounds_toArray, List.set_cons_zero, List.set_cons_succ, i64_w, i32_w]
     rfl
    refine pure_ (i := 5) (N := some 27) (v := ?_) (a' := ?_) (bv 13 63) rfl rfl (any_of HT_.out (by kernel_rfl)) (fun _ _ _ h => h) (Or.inl ⟨by rfl, ?_⟩) ?_ ?_; rotate_left; (intro w'; go_simp; with_reducible rfl); rotate_left; (simp only [Act.put, List.setIfInBounds_toArray, List.set_cons_zero, List.set_cons_succ, i64_w, i32_w]; rfl)
    refine pure_ (i := 6) (N := some 28) (v := ?_) (a' := ?_) (bv 13 127) rfl rfl (any_of HT_.out (by kernel_rfl)) (fun _ _ _ h => h) (Or.inl ⟨by rfl, ?_⟩) ?_ ?_; rotate_left; (intro w'; go_simp; with_reducible rfl); rotate_left; (simp only [Act.put, List.setIfInBounds_toArray, List.set_cons_zero, List.set_cons_succ, i64_w, i32_w]; rfl)
    refine one_ (i := 7) (N := some 29) (bv 13 255) rfl rfl (one_of HT_.out (by kernel_rfl)) (by decide) (fun K hK => ?_)
    refine goes_ Tryd.func73 (by kernel_rfl) rfl #[.agg #[.int .i64 a0_0, .int .i64 6080, .string (t268 ++ a3)], .int .i64 0] (by rfl) rfl rfl (by (try simp only [List.map_toArray, List.map_cons, List.map_nil]); first | done | rfl | (simp only [List.length_drop, List.length_take]; rfl)) ?_
    with_reducible refine (udp_Put.calls a0_0 6080 (t268 ++ a3) 0 t269 t270 _ A9.out).mono ?_
    rintro e w30 ⟨rfl, hb⟩
    refine ⟨_, rfl, ?_⟩
    have n0_ := mA (blk_below (g := gb265) (o := .cells #[.int .i64 a0_0, .bool a0_1] 55 (0, 0)) (by (with_reducible repeat (first | apply kN | apply kD | apply kA)); exact BK265.out) hb)
    have n1_ := mA (bP (by repeat (first | (with_reducible first | exact HB.out | apply bA | apply bN | apply bD | refine bS ?_ GE265.out) | exact HB.out)) hb)
    clear BK265
    clear HB
    have BK265 := n0_
    have HB := n1_
    clear n0_ n1_
    (try clear hb)
    (try clear hb2)
    (try clear hk)
    (try clear hi)
    refine hK.out _ _ ⟨(zC BK265.out 0).trans rfl, (zC BK265.out 1).trans rfl⟩ (fun hHeld => ?_)
    clear hK K
    refine norm_ (a' := ?_) ?_ ?_
    rotate_left
    ·show Act.put _ (some 29) _ = _
     simp only [Act.put, List.setIfInBounds_toArray, List.set_cons_zero, List.set_cons_succ, i64_w, i32_w]
     rfl
    refine pure_ (i := 8) (N := some 21) (v := ?_) (a' := ?_) (bv 13 511) rfl rfl (any_of HT_.out (by kernel_rfl)) (fun _ _ _ h => h) (Or.inl ⟨by rfl, ?_⟩) ?_ ?_; rotate_left; (intro w'; go_simp; with_reducible rfl); rotate_left; (simp only [Act.put, List.setIfInBounds_toArray, List.set_cons_zero, List.set_cons_succ, i64_w, i32_w]; rfl)
    refine pure_ (i := 9) (N := some 30) (v := ?_) (a' := ?_) (bv 13 1023) rfl rfl (any_of HT_.out (by kernel_rfl)) (fun _ _ _ h => h) (Or.inl ⟨by rfl, ?_⟩) ?_ ?_; rotate_left; (intro w'; go_simp; with_reducible rfl); rotate_left; (simp only [Act.put, List.setIfInBounds_toArray, List.set_cons_zero, List.set_cons_succ, i64_w, i32_w]; rfl)
    refine pure_ (i := 10) (N := some 31) (v := ?_) (a' := ?_) (bv 13 2047) rfl rfl (any_of HT_.out (by kernel_rfl)) (fun _ _ _ h => h) (Or.inl ⟨by rfl, ?_⟩) ?_ ?_; rotate_left; (intro w'; go_simp; with_reducible rfl); rotate_left; (simp only [Act.put, List.setIfInBounds_toArray, List.set_cons_zero, List.set_cons_succ, i64_w, i32_w]; rfl)
    refine pure_ (i := 11) (N := some 12) (v := ?_) (a' := ?_) (bv 13 4095) rfl rfl (any_of HT_.out (by kernel_rfl)) (fun _ _ _ h => h) (Or.inl ⟨by rfl, ?_⟩) ?_ ?_; rotate_left; (intro w'; go_simp; with_reducible rfl); rotate_left; (simp only [Act.put, List.setIfInBounds_toArray, List.set_cons_zero, List.set_cons_succ, i64_w, i32_w]; rfl)
    refine pure_ (i := 12) (N := some 11) (v := ?_) (a' := ?_) (bv 13 8191) rfl rfl (any_of HT_.out (by kernel_rfl)) (fun _ _ _ h => h) (Or.inl ⟨by rfl, ?_⟩) ?_ ?_; rotate_left; (intro w'; go_simp; with_reducible rfl); rotate_left; (simp only [Act.put, List.setIfInBounds_toArray, List.set_cons_zero, List.set_cons_succ, i64_w, i32_w]; rfl)
    refine done_ (done_of HT_.out (by kernel_rfl)) ?_
    try go_wp2
    go_ret2
    exact ⟨by first | rfl | (simp [errW_none, errW_some] <;> rfl) | (simp [*, errW_none, errW_some] <;> rfl), by repeat (first | (with_reducible first | exact HB.out | apply bA | apply bN | apply bD | refine bS ?_ GE265.out) | exact HB.out)⟩
  ·rw [if_neg c8] at H
   exact absurd H (by simp)
 ·rw [if_neg c6] at H
  have c6b0 : (t267 == 0) = false := beq_eq_false_iff_ne.mpr c6
  have c6b1 : (t267 != 0) = true := bne_iff_ne.mpr c6
  simp only [Option.some.injEq, Prod.mk.injEq] at H
  obtain ⟨rfl, rfl⟩ := H
  go_enter Tryd.func36, Tryd.ntmps36
  go_wp2_with (first | ((with_reducible refine gate_dst (N := 4) rfl ?_); refine box_event ?hg (N := 4) ?hd (cs := #[.int .i64 a0_0, .bool a0_1]) (t := 55) ?hr ?_; (case hd => rfl); (case hg => rfl); (case hr => first | (go_simp; done) | (go_simp; rfl)); intro gb265 hg w31 hbox hb; obtain ⟨n0_, nq_⟩ := bpr (by repeat (first | (with_reducible first | exact HB.out | apply bA | apply bN | apply bD) | exact HB.out)) hb; have n1_ := mA (hbox); have n2_ := mA ((by rw [hg]; exact nq_ : w.heap.size ≤ gb265)); have n3_ := mA ((by rw [hg]; exact nq_ : w.heap.size ≤ gb265)); clear HB; have HB := n0_; have BK265 := n1_; have GW265 := n2_; have GE265 := n3_; clear nq_; clear n0_ n1_ n2_ n3_; clear hb hbox hg) | ((with_reducible refine gate_callee (f := 21) rfl ?_); refine goesL_ (some 15) rfl rfl Tryd.func21 (by kernel_rfl) rfl #[.string a3] rfl (by (try simp only [List.map_toArray, List.map_cons, List.map_nil]); first | done | rfl | (simp only [List.length_drop, List.length_take]; rfl)) ?_; (with_reducible refine (ipip_Proto.calls a3 t266 t267 _ A5.out (GV.below HgV_.out (by repeat (first | (with_reducible first | exact HB.out | apply bA | apply bN | apply bD | refine bS ?_ GE265.out) | exact HB.out)))).mono ?_); rintro e w32 ⟨rfl, hb⟩; refine ⟨_, rfl, ?_⟩; have n0_ := mA (blk_below (g := gb265) (o := .cells #[.int .i64 a0_0, .bool a0_1] 55 (0, 0)) (by (with_reducible repeat (first | apply kN | apply kD | apply kA)); exact BK265.out) hb); have n1_ := mA (bP (by repeat (first | (with_reducible first | exact HB.out | apply bA | apply bN | apply bD | refine bS ?_ GE265.out) | exact HB.out)) hb); clear BK265; clear HB; have BK265 := n0_; have HB := n1_; clear n0_ n1_; (try clear hb); (try clear hb2); (try clear hk); (try clear hi)))
  go_ret2
  exact ⟨by first | rfl | (simp [errW_none, errW_some] <;> rfl) | (simp [*, errW_none, errW_some] <;> rfl), by repeat (first | (with_reducible first | exact HB.out | apply bA | apply bN | apply bD | refine bS ?_ GE265.out) | exact HB.out)⟩

end Go.Proofs.YtcmalglippmocaaDoor.G
end
