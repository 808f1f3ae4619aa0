/- Texts of this session, joined: each is a section. -/
import Derived.Test.YtcmalglippmocaaDoorMFtun2
import Derived.Test.YtcmalglippmocaaDoorMFtun1
import Derived.RegionTactic
import Derived.WalkLawsBesides
import Derived.Maps.OwnOps
import Derived.Test.YtcmalglippmocaaDoorMFtun6
import Derived.Test.YtcmalglippmocaaDoorMFtun8
set_option linter.unusedVariables false
set_option linter.unusedSimpArgs false
section
namespace Go.Proofs.YtcmalglippmocaaDoor.Pal
open Go.ChangeMaps Go.MapKept Go.RowKit
section
variable {P : Program} {w : World} {t k e : TypeId} {b : Nat} {es : Array MapEntry} {clock : Nat}
theorem run_put_new (ht : P.underlying t = some (.map k e)) (hk : P.underlying k = some (.int .i64)) (hb : w.heap[b]? = some (.map es clock)) (x : Int) (v : Value) (h1 : Instr.findNow (.int .i64) (.int .i64 x) es.toList 0 = some none) :
    (Instr.mapUpdate t (.map (some b)) (.int .i64 x) v).run P w = .ok () (setBlock w b (.map (es.push ⟨.int .i64 x, v, clock⟩) (clock + 1))) := by
  simp [Instr.mapUpdate, run_underlying ht, MapKept.run_getObj_map hb, run_checkKey hk (show IsKey (.int .i64) (.int .i64 x) from rfl), run_findKey hk h1, MapKept.run_setObj_map _ hb, Result.andThen, setBlock]
theorem run_look_hit (ht : P.underlying t = some (.map k e)) (hk : P.underlying k = some (.int .i64)) (hb : w.heap[b]? = some (.map es clock)) (x : Int) (i : Nat) (v : Value) (h1 : Instr.findNow (.int .i64) (.int .i64 x) es.toList 0 = some (some (i, v))) (ok : Bool) :
    (Instr.lookup t (.map (some b)) (.int .i64 x) ok).run P w = .ok (if ok then .tuple #[v, .bool true] else v) w := by
  cases ok <;> simp [Instr.lookup, run_underlying ht, MapKept.run_getObj_map hb, run_checkKey hk (show IsKey (.int .i64) (.int .i64 x) from rfl), run_findKey hk h1, Result.andThen]
theorem run_look_miss (ht : P.underlying t = some (.map k e)) (hk : P.underlying k = some (.int .i64)) (hb : w.heap[b]? = some (.map es clock)) (x : Int) (z : Value) (hz : (zeroValue e).run P w = .ok z w) (h1 : Instr.findNow (.int .i64) (.int .i64 x) es.toList 0 = some none) (ok : Bool) :
    (Instr.lookup t (.map (some b)) (.int .i64 x) ok).run P w = .ok (if ok then .tuple #[z, .bool false] else z) w := by
  cases ok <;> simp [Instr.lookup, run_underlying ht, MapKept.run_getObj_map hb, run_checkKey hk (show IsKey (.int .i64) (.int .i64 x) from rfl), run_findKey hk h1, hz, Result.andThen]
theorem wpList_insert_new {ops : Array Oper} {rest : List Oper} {o : Oper} {a : Act} {Q : Exit → Act → World → Prop} (hg : o.guard = none) (m x v : Operand) (hop : o.op = Op.insert t m x v)
    (ht : P.underlying t = some (.map k e)) (hk : P.underlying k = some (.int .i64)) (hm : a.eval m = .map (some b)) (hb : w.heap[b]? = some (.map es clock)) (n : Int) (val : Value) (hx : a.eval x = .int .i64 n) (hv : a.eval v = val) (h1 : Instr.findNow (.int .i64) (.int .i64 n) es.toList 0 = some none)
    (hK : ∀ w', w'.heap[b]? = some (.map (es.push ⟨.int .i64 n, val, clock⟩) (clock + 1)) → w.grownBy w' (some b) → wpList P ops Q rest (a.put o.dst undef) w') : wpList P ops Q (o :: rest) a w := by
  refine wpList_plain hg fun K' hK' => ?_
  unfold Oper.wp
  simp [execOp, hop, hm, hx, hv, run_put_new ht hk hb n val h1, Result.andThen]
  refine hK' _ _ (hK _ (heap_setBlock_same hb _) ⟨rfl, rfl, rfl, by simp [setBlock], fun i _ hi => heap_setBlock_other hb _ (fun e => hi (by rw [e]))⟩)
end
theorem Blk.belowD {W W2 w : World} {b : Nat} {T : TypeId} {cs : Array Value} (hb : Below W2.heap.size W2 w) (h : Blk W b T cs) (e : W2.heap = W.heap) : Blk w b T cs :=
  Blk.below (show Blk W2 b T cs by unfold Blk; rw [e]; exact h) hb (by rw [e]; exact h.lt)
theorem map_below {w w' : World} {b B : Nat} {o : Obj} (h : w.heap[b]? = some o) (hg : Below B w w') (hb : b < B) : w'.heap[b]? = some o := (hg.block b hb).trans h
theorem map_alloc {w : World} {b : Nat} {o : Obj} (h : w.heap[b]? = some o) (x : Obj) : (w.alloc x).heap[b]? = some o :=
  ((World.grownBy_alloc w x none).block b (Array.getElem?_eq_some_iff.1 h).1 (by simp)).trans h
end Go.Proofs.YtcmalglippmocaaDoor.Pal
namespace Go.Proofs.YtcmalglippmocaaDoor.G
open Go.RowKit Go.Proofs.YtcmalglippmocaaDoorW.PrintWords Go.Proofs.YtcmalglippmocaaDoorW.PrintLast Go.Proofs.YtcmalglippmocaaDoorW.PrintMore Go.Proofs.YtcmalglippmocaaDoor.Pal
abbrev fnv (n : Nat) : Value := .func (.func n) #[] #[]
abbrev modeV (a b c : Nat) (s n : Nat) (d : Nat) : Value := .agg #[fnv a, fnv b, fnv c, .slice (some ⟨s, 0, none⟩) n n, fnv d]
abbrev M1 (s : Nat) : Value := modeV 121 122 123 s 2 124
abbrev M2 (s : Nat) : Value := modeV 125 126 128 s 1 129
abbrev M3 (s : Nat) : Value := modeV 130 131 132 s 1 133
def MD (w : World) (b s1 s2 s3 : Nat) : Prop :=
  w.heap[b]? = some (.map #[⟨.int .i64 1, M1 s1, 0⟩, ⟨.int .i64 2, M2 s2, 1⟩, ⟨.int .i64 3, M3 s3, 2⟩] 3) ∧ Hp w [(s1, 3, #[.int .i64 4, .int .i64 41]), (s2, 3, #[.int .i64 47]), (s3, 3, #[.int .i64 17])]
theorem MD.below {w w' : World} {b s1 s2 s3 : Nat} (h : MD w b s1 s2 s3) (hb : Below w.heap.size w w') : MD w' b s1 s2 s3 :=
  ⟨map_below h.1 hb (Array.getElem?_eq_some_iff.1 h.1).1, h.2.below hb (fun x hx => (h.2 x hx).lt)⟩
theorem MD.alloc {w : World} {b s1 s2 s3 : Nat} (h : MD w b s1 s2 s3) (o : Obj) : MD (w.alloc o) b s1 s2 s3 := ⟨map_alloc h.1 o, h.2.alloc o⟩
abbrev modeNo : Value := .agg #[.nilFunc, .nilFunc, .nilFunc, .slice none 0 0, .nilFunc]
theorem mode_zero (w : World) : (zeroValue 161).run Tryd.prog w = .ok modeNo w := by kernel_rfl
set_option maxHeartbeats 2000000 in
set_option maxRecDepth 100000 in
theorem tunnel_modes.calls (w : World) :
    Calls Tryd.prog 98 #[] w fun e w' => ∃ b s1 s2 s3, e = .returned (.map (some b)) ∧ MD w' b s1 s2 s3 ∧ Below w.heap.size w w' := by
  have hmm := @run_makeMap Tryd.prog
  go_enter Tryd.func98, Tryd.ntmps98
  go_wp2_with (refine wpList_insert_new rfl _ _ _ rfl Tryd.underlying162 Tryd.underlying3 rfl (map_alloc (heap_alloc_new _ _) _) _ _ rfl rfl rfl ?_)
  intro w1 h1 g1
  have HN := Aside0.mk (show w.heap.size + 2 ≤ w1.heap.size by have := g1.size; simpa using this)
  have HB := Aside0.mk ((((Below.refl w.heap.size w).alloc (Nat.le_refl _) (.map #[] 0)).alloc (by simp) (.cells #[.int .i64 4, .int .i64 41] 3)).trans (below_of_grown g1 (by simp; omega) (Nat.le_refl _)))
  have HS1 := Aside0.mk (show Blk w1 (w.heap.size + 1) 3 #[.int .i64 4, .int .i64 41] by have h := (Blk.new (w.alloc (.map #[] 0)) 3 #[.int .i64 4, .int .i64 41]).grown g1 (by simp); simpa using h)
  have H1 := Aside0.mk h1
  clear h1 g1
  go_wp2_with (refine wpList_insert_new rfl _ _ _ rfl Tryd.underlying162 Tryd.underlying3 rfl (map_alloc H1.out _) _ _ rfl rfl rfl ?_)
  intro w2 h2 g2
  have HN2 := Aside0.mk (show w1.heap.size + 1 ≤ w2.heap.size by have := g2.size; simpa using this)
  replace HB := Aside0.mk ((HB.out.alloc HB.out.size (.cells #[.int .i64 47] 3)).trans (below_of_grown g2 (by have := HB.out.size; simp; omega) (Nat.le_refl _)))
  have HS2 := Aside0.mk ((Blk.new w1 3 #[.int .i64 47]).grown g2 (by have := HN.out; omega))
  replace HS1 := Aside0.mk ((HS1.out.alloc (.cells #[.int .i64 47] 3)).grown g2 (by omega))
  have H2 := Aside0.mk h2
  clear h2 g2 H1
  go_wp2_with (refine wpList_insert_new rfl _ _ _ rfl Tryd.underlying162 Tryd.underlying3 rfl (map_alloc H2.out _) _ _ rfl rfl rfl ?_)
  intro w3 h3 g3
  replace HB := Aside0.mk ((HB.out.alloc HB.out.size (.cells #[.int .i64 17] 3)).trans (below_of_grown g3 (by have := HB.out.size; simp; omega) (Nat.le_refl _)))
  have HS3 := Aside0.mk ((Blk.new w2 3 #[.int .i64 17]).grown g3 (by have := HN.out; have := HN2.out; omega))
  replace HS2 := Aside0.mk ((HS2.out.alloc (.cells #[.int .i64 17] 3)).grown g3 (by have := HN.out; omega))
  replace HS1 := Aside0.mk ((HS1.out.alloc (.cells #[.int .i64 17] 3)).grown g3 (by omega))
  have H3 := Aside0.mk h3
  clear h3 g3 H2
  go_wp2
  go_ret
  exact ⟨_, _, _, _, rfl, ⟨H3.out, .cons HS1.out (.cons HS2.out (.cons HS3.out (.nil _)))⟩, HB.out⟩
theorem MD.look {w : World} {b s1 s2 s3 : Nat} (h : MD w b s1 s2 s3) (ok : Bool) :
    (Instr.lookup 162 (.map (some b)) (.int .i64 1) ok).run Tryd.prog w = .ok (if ok then .tuple #[M1 s1, .bool true] else M1 s1) w ∧
    (Instr.lookup 162 (.map (some b)) (.int .i64 2) ok).run Tryd.prog w = .ok (if ok then .tuple #[M2 s2, .bool true] else M2 s2) w ∧
    (Instr.lookup 162 (.map (some b)) (.int .i64 3) ok).run Tryd.prog w = .ok (if ok then .tuple #[M3 s3, .bool true] else M3 s3) w :=
  ⟨run_look_hit Tryd.underlying162 Tryd.underlying3 h.1 1 0 _ rfl ok, run_look_hit Tryd.underlying162 Tryd.underlying3 h.1 2 1 _ rfl ok, run_look_hit Tryd.underlying162 Tryd.underlying3 h.1 3 2 _ rfl ok⟩
theorem MD.miss {w : World} {b s1 s2 s3 : Nat} (h : MD w b s1 s2 s3) (ok : Bool) (n : Int) (hn : ¬ (n = 1 ∨ n = 2 ∨ n = 3)) :
    (Instr.lookup 162 (.map (some b)) (.int .i64 n) ok).run Tryd.prog w = .ok (if ok then .tuple #[modeNo, .bool false] else modeNo) w := by
  refine run_look_miss Tryd.underlying162 Tryd.underlying3 h.1 n _ (mode_zero w) ?_ ok
  have e1 : (n == 1) = false := beq_eq_false_iff_ne.mpr (by omega)
  have e2 : (n == 2) = false := beq_eq_false_iff_ne.mpr (by omega)
  have e3 : (n == 3) = false := beq_eq_false_iff_ne.mpr (by omega)
  simp [Instr.findNow, Instr.sameNow, e1, e2, e3]
end Go.Proofs.YtcmalglippmocaaDoor.G
end

section
namespace Go.Proofs.YtcmalglippmocaaDoor.G
open Go.RowKit Go.Proofs.YtcmalglippmocaaDoorW.PrintWords Go.Proofs.YtcmalglippmocaaDoorW.PrintLast Go.Proofs.YtcmalglippmocaaDoorW.PrintMore Go.Proofs.YtcmalglippmocaaDoor.Pal
theorem results_one {P : Program} {fn : Func} {p : Tmp} {ty : TypeId} (h : fn.results = #[.cell p ty]) (tmps : Array Value) (w : World) (k : Nat) (cs : Array Value) (d : TypeDesc)
    (hp : tmps.getD p undef = .pointer (some ⟨k, 0, none⟩)) (hb : Blk w k ty cs) (hu : P.underlying ty = some d) (hd : (match d with | .struct _ | .array _ _ => true | _ => false) = true) (hi : (P.info? ty).map (·.size) = some cs.size) :
    (results fn tmps).run P w = .ok (.agg cs) w := by
  have hp' : tmps[p]?.getD undef = .pointer (some ⟨k, 0, none⟩) := by simpa using hp
  simp [results, h, hp', asAddr, run_loadVar_row w k ty ty cs (0, 0) d hb hu hd hi]
abbrev tunV (m : Int) (s k : Bool) (v : Int) (df : Bool) (ttl tos : Int) : Array Value := #[.int .i64 m, .bool s, .bool k, .int .u32 v, .bool df, .int .i64 ttl, .int .i64 tos]
abbrev wayV (src dst : ByteArray) (id port : Int) : Array Value := #[.string src, .string dst, .int .i64 id, .int .i64 port]
section
variable (m : Int) (s k : Bool) (v : Int) (df : Bool) (ttl tos : Int) (w : World)
set_option maxHeartbeats 2000000
set_option maxRecDepth 100000
theorem bare1.calls : Calls Tryd.prog 121 #[.agg (tunV m s k v df ttl tos)] w fun e w' => e = .returned (.agg (tunV m false false 0 df ttl tos)) ∧ Below w.heap.size w w' := by
  have hu := Tryd.underlying93
  go_enter Tryd.func121, Tryd.ntmps121
  go_wp2
  exact bodyPost_ret (results_one rfl _ _ (w.heap.size + 1) _ _ rfl (by have h := Blk.new (w.alloc (.cells (tunV m false false 0 df ttl tos) 93)) 93 (tunV m false false 0 df ttl tos); simpa using h) hu rfl (by kernel_rfl)) rfl ⟨rfl, ((Below.refl _ _).alloc (Nat.le_refl _) _).alloc (by simp) _⟩
theorem bare5.calls : Calls Tryd.prog 125 #[.agg (tunV m s k v df ttl tos)] w fun e w' => e = .returned (.agg (tunV m s k (if k then v else 0) df ttl tos)) ∧ Below w.heap.size w w' := by
  have hu := Tryd.underlying93
  cases k with
  | true =>
    rw [if_pos rfl]
    go_enter Tryd.func125, Tryd.ntmps125
    go_wp2
    exact bodyPost_ret (results_one rfl _ _ (w.heap.size + 1) _ _ rfl (by have h := Blk.new (w.alloc (.cells (tunV m s true v df ttl tos) 93)) 93 (tunV m s true v df ttl tos); simpa using h) hu rfl (by kernel_rfl)) rfl ⟨rfl, ((Below.refl _ _).alloc (Nat.le_refl _) _).alloc (by simp) _⟩
  | false =>
    rw [if_neg (by decide)]
    go_enter Tryd.func125, Tryd.ntmps125
    go_wp2
    exact bodyPost_ret (results_one rfl _ _ (w.heap.size + 1) _ _ rfl (by have h := Blk.new (w.alloc (.cells (tunV m s false 0 df ttl tos) 93)) 93 (tunV m s false 0 df ttl tos); simpa using h) hu rfl (by kernel_rfl)) rfl ⟨rfl, ((Below.refl _ _).alloc (Nat.le_refl _) _).alloc (by simp) _⟩
theorem bare9.calls : Calls Tryd.prog 130 #[.agg (tunV m s k v df ttl tos)] w fun e w' => e = .returned (.agg (tunV m s false 0 df ttl tos)) ∧ Below w.heap.size w w' := by
  have hu := Tryd.underlying93
  go_enter Tryd.func130, Tryd.ntmps130
  go_wp2
  exact bodyPost_ret (results_one rfl _ _ (w.heap.size + 1) _ _ rfl (by have h := Blk.new (w.alloc (.cells (tunV m s false 0 df ttl tos) 93)) 93 (tunV m s false 0 df ttl tos); simpa using h) hu rfl (by kernel_rfl)) rfl ⟨rfl, ((Below.refl _ _).alloc (Nat.le_refl _) _).alloc (by simp) _⟩
theorem tunnel_head.calls : Calls Tryd.prog 127 #[.agg (tunV m s k v df ttl tos)] w fun e w' => e = .returned (.agg #[.bool s, .bool k, .int .u32 v]) ∧ Below w.heap.size w w' := by
  have hu := Tryd.underlying40
  go_enter Tryd.func127, Tryd.ntmps127
  go_wp2
  exact bodyPost_ret (results_one rfl _ _ (w.heap.size + 1) _ _ rfl (by have h := Blk.new (w.alloc (.cells (tunV m s k v df ttl tos) 93)) 40 #[.bool s, .bool k, .int .u32 v]; simpa using h) hu rfl (by kernel_rfl)) rfl ⟨rfl, ((Below.refl _ _).alloc (Nat.le_refl _) _).alloc (by simp) _⟩
theorem more2.calls : Calls Tryd.prog 122 #[.agg (tunV m s k v df ttl tos)] w fun e w' => e = .returned (.int .i64 0) ∧ Below w.heap.size w w' := by
  go_enter Tryd.func122, Tryd.ntmps122
  go_wp2
  go_ret
  exact ⟨rfl, (Below.refl _ _).alloc (Nat.le_refl _) _⟩
theorem more10.calls : Calls Tryd.prog 131 #[.agg (tunV m s k v df ttl tos)] w fun e w' => e = .returned (.int .i64 12) ∧ Below w.heap.size w w' := by
  go_enter Tryd.func131, Tryd.ntmps131
  go_wp2
  go_ret
  exact ⟨rfl, (Below.refl _ _).alloc (Nat.le_refl _) _⟩
theorem more6.calls (n : Int) (hn : gre_Size.f s k v = some n) : Calls Tryd.prog 126 #[.agg (tunV m s k v df ttl tos)] w fun e w' => e = .returned (.int .i64 n) ∧ Below w.heap.size w w' := by
  have HB := Aside0.mk ((Below.refl w.heap.size w).alloc (Nat.le_refl _) (.cells (tunV m s k v df ttl tos) 93))
  have HN := Aside0.mk hn
  clear hn
  go_enter Tryd.func126, Tryd.ntmps126
  go_wp2_with fail
  refine (tunnel_head.calls m s k v df ttl tos _).mono ?_
  rintro e w2 ⟨rfl, g1⟩
  replace HB := Aside0.mk (HB.out.trans (g1.mono HB.out.size))
  clear g1
  go_wp2_with fail
  refine (gre_Size.calls s k v n _ HN.out).mono ?_
  rintro e w3 ⟨rfl, g1⟩
  replace HB := Aside0.mk (HB.out.trans (g1.mono HB.out.size))
  clear g1
  go_wp2
  go_ret
  exact ⟨rfl, HB.out⟩
variable (src dst : ByteArray) (id port : Int) (inner : ByteArray)
theorem twoBoxes (w : World) (a b : Obj) : Below w.heap.size w ((w.alloc a).alloc b) := ((Below.refl _ _).alloc (Nat.le_refl _) _).alloc (by simp) _
theorem put3.calls (r1 : Int) (r2 : ByteArray) (r3 : Int) (h : ipip_Put.f inner = some (r1, r2, r3)) (hV : GV w) :
    Calls Tryd.prog 123 #[.agg (tunV m s k v df ttl tos), .agg (wayV src dst id port), .string inner] w fun e w' => e = .returned (.tuple #[.int .i64 r1, .string r2, .int .i64 r3]) ∧ Below w.heap.size w w' := by
  have HB := Aside0.mk (twoBoxes w (.cells (tunV m s k v df ttl tos) 93) (.cells (wayV src dst id port) 98))
  have H := Aside0.mk h
  have HV := Aside0.mk hV
  clear h hV
  go_enter Tryd.func123, Tryd.ntmps123
  go_wp2_with fail
  refine (ipip_Put.calls inner r1 r2 r3 _ H.out (HV.out.below HB.out)).mono ?_
  rintro e w2 ⟨rfl, g1⟩
  replace HB := Aside0.mk (HB.out.trans (g1.mono HB.out.size))
  clear g1
  go_wp2
  go_ret3
  exact ⟨rfl, HB.out⟩
theorem put7.calls (r2 : ByteArray) (r3 : Int) (h : gre_Put.f s k v inner = some (r2, r3)) (hV : GV w) :
    Calls Tryd.prog 128 #[.agg (tunV m s k v df ttl tos), .agg (wayV src dst id port), .string inner] w fun e w' => e = .returned (.tuple #[.int .i64 47, .string r2, .int .i64 r3]) ∧ Below w.heap.size w w' := by
  have HB := Aside0.mk (twoBoxes w (.cells (tunV m s k v df ttl tos) 93) (.cells (wayV src dst id port) 98))
  have H := Aside0.mk h
  have HV := Aside0.mk hV
  clear h hV
  go_enter Tryd.func128, Tryd.ntmps128
  go_wp2_with fail
  refine (tunnel_head.calls m s k v df ttl tos _).mono ?_
  rintro e w2 ⟨rfl, g1⟩
  replace HB := Aside0.mk (HB.out.trans (g1.mono HB.out.size))
  clear g1
  go_wp2_with fail
  refine (gre_Put.calls s k v inner r2 r3 _ H.out (HV.out.below HB.out)).mono ?_
  rintro e w3 ⟨rfl, g1⟩
  replace HB := Aside0.mk (HB.out.trans (g1.mono HB.out.size))
  clear g1
  go_wp2
  go_ret3
  exact ⟨rfl, HB.out⟩
theorem put11.calls (r2 : ByteArray) (r3 : Int) (h : gue_Put.f port s src dst inner = some (r2, r3)) (hV : GV w) (hP : GP w) :
    Calls Tryd.prog 132 #[.agg (tunV m s k v df ttl tos), .agg (wayV src dst id port), .string inner] w fun e w' => e = .returned (.tuple #[.int .i64 17, .string r2, .int .i64 r3]) ∧ Below w.heap.size w w' := by
  have HB := Aside0.mk (twoBoxes w (.cells (tunV m s k v df ttl tos) 93) (.cells (wayV src dst id port) 98))
  have H := Aside0.mk h
  have HV := Aside0.mk hV
  have HP := Aside0.mk hP
  clear h hV hP
  go_enter Tryd.func132, Tryd.ntmps132
  go_wp2_with fail
  refine (gue_Put.calls port s src dst inner r2 r3 _ H.out (HV.out.below HB.out) (HP.out.below HB.out)).mono ?_
  rintro e w3 ⟨rfl, g1⟩
  replace HB := Aside0.mk (HB.out.trans (g1.mono HB.out.size))
  clear g1
  go_wp2
  go_ret3
  exact ⟨rfl, HB.out⟩
end
abbrev hd4 (tos id off ttl proto : Int) (df mf : Bool) (src dst opt : ByteArray) : Array Value := #[.int .i64 tos, .int .i64 id, .int .i64 off, .int .i64 ttl, .int .i64 proto, .bool df, .bool mf, .string src, .string dst, .string opt]
section
variable (tos id off ttl proto : Int) (df mf : Bool) (src dst opt pay : ByteArray) (w : World) (kt kw : Nat)
set_option maxHeartbeats 4000000
set_option maxRecDepth 100000
theorem get4.calls (r1 : ByteArray) (r2 : Int) (h : ipip_Get.f proto pay = some (r1, r2)) (hV : GV w) :
    Calls Tryd.prog 124 #[.agg (hd4 tos id off ttl proto df mf src dst opt), .string pay, .pointer (some ⟨kt, 0, none⟩), .pointer (some ⟨kw, 0, none⟩)] w fun e w' => e = .returned (.tuple #[.string r1, .int .i64 r2]) ∧ Below w.heap.size w w' := by
  have HB := Aside0.mk ((Below.refl w.heap.size w).alloc (Nat.le_refl _) (.cells (hd4 tos id off ttl proto df mf src dst opt) 69))
  have H := Aside0.mk h
  have HV := Aside0.mk hV
  clear h hV
  go_enter Tryd.func124, Tryd.ntmps124
  go_wp2_with fail
  refine (ipip_Get.calls proto pay r1 r2 _ H.out (HV.out.below HB.out)).mono ?_
  rintro e w2 ⟨rfl, g1⟩
  replace HB := Aside0.mk (HB.out.trans (g1.mono HB.out.size))
  clear g1
  go_wp2
  go_ret2
  exact ⟨rfl, HB.out⟩
theorem get8.calls (S K : Bool) (V : Int) (r1 : ByteArray) (r2 : Int) (h : gre_Get.f pay = some (S, K, V, r1, r2)) (hV : GV w) (cs : Array Value) (hk : kt < kw) (hs : cs.size = 7) (hT : Blk w kt 93 cs) (ws : Array Value) (hW : Blk w kw 98 ws) :
    Calls Tryd.prog 129 #[.agg (hd4 tos id off ttl proto df mf src dst opt), .string pay, .pointer (some ⟨kt, 0, none⟩), .pointer (some ⟨kw, 0, none⟩)] w fun e w' => e = .returned (.tuple #[.string r1, .int .i64 r2]) ∧ Below kt w w' ∧
      Blk w' kt 93 (((cs.setIfInBounds 1 (.bool S)).setIfInBounds 2 (.bool K)).setIfInBounds 3 (.int .u32 V)) ∧ Blk w' kw 98 ws := by
  have HB := Aside0.mk ((Below.refl w.heap.size w).alloc (Nat.le_refl _) (.cells (hd4 tos id off ttl proto df mf src dst opt) 69))
  have H := Aside0.mk h
  have HV := Aside0.mk hV
  have HT := Aside0.mk hT
  have HW := Aside0.mk hW
  have HK := Aside0.mk (And.intro hk hs)
  have HL := Aside0.mk hT.lt
  clear h hV hT hW hk hs
  go_enter Tryd.func129, Tryd.ntmps129
  go_wp2_with fail
  refine (gre_Get.calls pay S K V r1 r2 _ H.out (HV.out.below HB.out)).mono ?_
  rintro e w2 ⟨rfl, g1⟩
  replace HB := Aside0.mk (HB.out.trans (g1.mono HB.out.size))
  replace HT := Aside0.mk (HT.out.below HB.out HL.out)
  replace HW := Aside0.mk (HW.out.below HB.out HW.out.lt)
  clear g1
  have HG := Aside0.mk (Blk.new w2 40 #[.bool S, .bool K, .int .u32 V])
  have HB2 := Aside0.mk (((HB.out.mono (Nat.le_of_lt HL.out)).alloc (by have := HB.out.size; have := HL.out; omega) (.cells #[.bool S, .bool K, .int .u32 V] 40)))
  replace HT := Aside0.mk (HT.out.alloc (.cells #[.bool S, .bool K, .int .u32 V] 40))
  replace HW := Aside0.mk (HW.out.alloc (.cells #[.bool S, .bool K, .int .u32 V] 40))
  have HN := Aside0.mk (show kt ≠ w2.heap.size by have := HB.out.size; have := HL.out; omega)
  have c0 := HG.out.cell 0 _ rfl
  have c1 := HG.out.cell 1 _ rfl
  have c2 := HG.out.cell 2 _ rfl
  have f1 := HT.out.free 1
  have f2 := HT.out.free 2
  have f3 := HT.out.free 3
  obtain ⟨x1, e1⟩ : ∃ x, cs[1]? = some x := ⟨cs[1]'(by have := HK.out.2; omega), by simp [HK.out.2]⟩
  obtain ⟨x2, e2⟩ : ∃ x, cs[2]? = some x := ⟨cs[2]'(by have := HK.out.2; omega), by simp [HK.out.2]⟩
  obtain ⟨x3, e3⟩ : ∃ x, cs[3]? = some x := ⟨cs[3]'(by have := HK.out.2; omega), by simp [HK.out.2]⟩
  have d1 := HT.out.cell 1 _ e1
  have d2 := HT.out.cell 2 _ e2
  have d3 := HT.out.cell 3 _ e3
  have n1 := HN.out
  clear e1 e2 e3
  go_upto_region 2 with (fail)
  generalize w2.alloc (.cells #[.bool S, .bool K, .int .u32 V] 40) = W at *
  generalize w2.heap.size = g at *
  go_region
  have HT2 := Aside0.mk (((HT.out.set 1 (.bool S)).set 2 (.bool K)).set 3 (.int .u32 V)).drew
  have HW2 := Aside0.mk (((HW.out.other ⟨kt, 1, none⟩ (by have := HK.out.1; simp; omega) (.bool S)).other ⟨kt, 2, none⟩ (by have := HK.out.1; simp; omega) (.bool K)).other ⟨kt, 3, none⟩ (by have := HK.out.1; simp; omega) (.int .u32 V)).drew
  have HB3 := Aside0.mk (((HB2.out.setCell (p := ⟨kt, 1, none⟩) (Nat.le_refl _) (.bool S)).setCell (p := ⟨kt, 2, none⟩) (Nat.le_refl _) (.bool K)).setCell (p := ⟨kt, 3, none⟩) (Nat.le_refl _) (.int .u32 V)).drew
  clear c0 c1 c2 f1 f2 f3 d1 d2 d3 n1
  go_wp2
  go_ret2
  exact ⟨rfl, HB3.out, HT2.out, HW2.out⟩
theorem get12.calls (P : Int) (S : Bool) (r1 : ByteArray) (r2 : Int) (h : gue_Get.f src dst pay = some (P, S, r1, r2)) (hV : GV w) (cs : Array Value) (hk : kt < kw) (hs : cs.size = 7) (hT : Blk w kt 93 cs) (ws : Array Value) (hs2 : ws.size = 4) (hW : Blk w kw 98 ws) :
    Calls Tryd.prog 133 #[.agg (hd4 tos id off ttl proto df mf src dst opt), .string pay, .pointer (some ⟨kt, 0, none⟩), .pointer (some ⟨kw, 0, none⟩)] w fun e w' => e = .returned (.tuple #[.string r1, .int .i64 r2]) ∧ Below kt w w' ∧
      Blk w' kt 93 (cs.setIfInBounds 1 (.bool S)) ∧ Blk w' kw 98 (ws.setIfInBounds 3 (.int .i64 P)) := by
  have HB := Aside0.mk ((Below.refl w.heap.size w).alloc (Nat.le_refl _) (.cells (hd4 tos id off ttl proto df mf src dst opt) 69))
  have H := Aside0.mk h
  have HV := Aside0.mk hV
  have HT := Aside0.mk hT
  have HW := Aside0.mk hW
  have HK := Aside0.mk (And.intro hk (And.intro hs hs2))
  have HL := Aside0.mk (And.intro hT.lt hW.lt)
  clear h hV hT hW hk hs hs2
  go_enter Tryd.func133, Tryd.ntmps133
  go_wp2_with fail
  refine (gue_Get.calls src dst pay P S r1 r2 _ H.out (HV.out.below HB.out)).mono ?_
  rintro e w2 ⟨rfl, g1⟩
  replace HB := Aside0.mk (HB.out.trans (g1.mono HB.out.size))
  replace HT := Aside0.mk (HT.out.below HB.out HL.out.1)
  replace HW := Aside0.mk (HW.out.below HB.out HL.out.2)
  clear g1
  have HG := Aside0.mk (Blk.new w2 55 #[.int .i64 P, .bool S])
  have HB2 := Aside0.mk (((HB.out.mono (Nat.le_of_lt HL.out.1)).alloc (by have := HB.out.size; have := HL.out.1; omega) (.cells #[.int .i64 P, .bool S] 55)))
  replace HT := Aside0.mk (HT.out.alloc (.cells #[.int .i64 P, .bool S] 55))
  replace HW := Aside0.mk (HW.out.alloc (.cells #[.int .i64 P, .bool S] 55))
  have n1 : kt ≠ w2.heap.size := by have := HB.out.size; have := HL.out.1; omega
  have n2 : kw ≠ w2.heap.size := by have := HB.out.size; have := HL.out.2; omega
  have n3 : kt ≠ kw := by have := HK.out.1; omega
  have c0 := HG.out.cell 0 _ rfl
  have c1 := HG.out.cell 1 _ rfl
  have f1 := HT.out.free 1
  have f2 := HW.out.free 3
  obtain ⟨x1, e1⟩ : ∃ x, cs[1]? = some x := ⟨cs[1]'(by have := HK.out.2.1; omega), by simp [HK.out.2.1]⟩
  obtain ⟨x2, e2⟩ : ∃ x, ws[3]? = some x := ⟨ws[3]'(by have := HK.out.2.2; omega), by simp [HK.out.2.2]⟩
  have d1 := HT.out.cell 1 _ e1
  have d2 := HW.out.cell 3 _ e2
  clear e1 e2
  go_upto_region 2 with (fail)
  generalize w2.alloc (.cells #[.int .i64 P, .bool S] 55) = W at *
  generalize w2.heap.size = g at *
  go_region
  have HT2 := Aside0.mk ((HT.out.set 1 (.bool S)).other ⟨kw, 3, none⟩ n3 (.int .i64 P)).drew
  have HW2 := Aside0.mk ((HW.out.other ⟨kt, 1, none⟩ (fun h => n3 h.symm) (.bool S)).set 3 (.int .i64 P)).drew
  have HB3 := Aside0.mk ((HB2.out.setCell (p := ⟨kt, 1, none⟩) (Nat.le_refl _) (.bool S)).setCell (p := ⟨kw, 3, none⟩) (Nat.le_of_lt HK.out.1) (.int .i64 P)).drew
  clear c0 c1 f1 f2 d1 d2 n1 n2 n3
  go_wp2
  go_ret2
  exact ⟨rfl, HB3.out, HT2.out, HW2.out⟩
end
end Go.Proofs.YtcmalglippmocaaDoor.G
end

section
namespace Go.Proofs.YtcmalglippmocaaDoor.G
open Go.RowKit Go.Proofs.YtcmalglippmocaaDoorW.PrintWords Go.Proofs.YtcmalglippmocaaDoorW.PrintLast Go.Proofs.YtcmalglippmocaaDoorW.PrintMore
attribute [local go_sem] max2_int min2_int max_two min_two max_three min_three max_four min_four

end Go.Proofs.YtcmalglippmocaaDoor.G
end
