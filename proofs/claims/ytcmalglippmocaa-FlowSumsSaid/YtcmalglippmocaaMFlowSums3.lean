/- Texts of this session, joined: each is a section. -/
import Derived.Test.YtcmalglippmocaaMFlowSums1
import Derived.OneCell
import Derived.Test.YtcmalglippmocaaWWords
import Derived.Laws.BitsLemmas
import Derived.Laws.Bits64
import Derived.Laws.BitsAllLaws
import Derived.Lib.ConvBytes
import Derived.WalkLawsBesides
import Derived.Recover
import Derived.Defers
import Derived.WideLaws
import Derived.Lib.Hide
set_option linter.unusedVariables false
set_option linter.unusedSimpArgs false
section
namespace Go.Proofs.Ytcmalglippmocaa.G
open Go.RowKit Go.Proofs.YtcmalglippmocaaW.PrintWords Go.Proofs.YtcmalglippmocaaW.PrintLast Go.Proofs.YtcmalglippmocaaW.PrintMore
attribute [local go_sem] max2_int min2_int max_two min_two max_three min_three max_four min_four   -- for this text's walks alone
set_option linter.unusedVariables false
set_option linter.unusedSimpArgs false

def palanquinref06_in.f (a0 : Int) (a1 : Int) (a2 : Int) : Option (Bool) := if a0 ≥ a1 then (some (decide (a0 ≤ a2))) else (some false)
set_option maxHeartbeats 8000000 in
set_option maxRecDepth 100000 in
theorem palanquinref06_in.calls (a0 : Int) (a1 : Int) (a2 : Int) (r : Bool) (w : World) (h : palanquinref06_in.f a0 a1 a2 = some r) :
  Calls Try.prog 64 #[.int .i64 a0, .int .i64 a1, .int .i64 a2] w fun e w' => e = .returned (.bool r) ∧ Drawn0 w w' := by
 have H : (if a0 ≥ a1 then (some (decide (a0 ≤ a2))) else (some false)) = some r := h
 clear h
 by_cases c4 : a0 ≥ a1
 ·rw [if_pos c4] at H
  have c4b0 : decide (a1 ≤ a0) = true := decide_eq_true c4
  clear c4
  obtain rfl := Option.some.inj H
  go_enter Try.func64, Try.ntmps64
  go_wp2
  go_ret
  exact ⟨by first | rfl | (simp; done) | (simp [*]; done), by repeat (first | exact Drawn0.refl _ | apply Drawn0.step)⟩
 ·rw [if_neg c4] at H
  have c4b0 : decide (a1 ≤ a0) = false := decide_eq_false c4
  clear c4
  obtain rfl := Option.some.inj H
  go_enter Try.func64, Try.ntmps64
  go_wp2
  go_ret
  exact ⟨by first | rfl | (simp; done) | (simp [*]; done), by repeat (first | exact Drawn0.refl _ | apply Drawn0.step)⟩

def palanquinref06_Right.f (a0_0 : Int) (a0_1 : Int) (a0_2 : Int) (a0_3 : Int) (a0_4 : ByteArray) (a0_5 : ByteArray) : Option (Bool) := (palanquinref06_in.f a0_0 0 255).bind fun t152 => (if t152 = true then ((palanquinref06_in.f a0_2 0 255).bind fun t153 => (if t153 = true then ((palanquinref06_in.f a0_3 0 255).bind fun t154 => (if t154 = true then ((palanquinref06_in.f a0_1 0 1048575).bind fun t155 => (if t155 = true then (if (a0_4.size : Int) = 16 then (some ((a0_5.size : Int) == 16)) else (some false)) else (some false))) else (some false))) else (some false))) else (some false))
set_option maxHeartbeats 8000000 in
set_option maxRecDepth 100000 in
theorem palanquinref06_Right.calls (a0_0 : Int) (a0_1 : Int) (a0_2 : Int) (a0_3 : Int) (a0_4 : ByteArray) (a0_5 : ByteArray) (r : Bool) (w : World) (h : palanquinref06_Right.f a0_0 a0_1 a0_2 a0_3 a0_4 a0_5 = some r) :
  Calls Try.prog 46 #[.agg #[.int .i64 a0_0, .int .i64 a0_1, .int .i64 a0_2, .int .i64 a0_3, .string a0_4, .string a0_5]] w fun e w' => e = .returned (.bool r) ∧ Below w.heap.size w w' := by
 have hu53 := Try.underlying53
 have HB := mA (Below.refl w.heap.size w)
 have H : ((palanquinref06_in.f a0_0 0 255).bind fun t152 => (if t152 = true then ((palanquinref06_in.f a0_2 0 255).bind fun t153 => (if t153 = true then ((palanquinref06_in.f a0_3 0 255).bind fun t154 => (if t154 = true then ((palanquinref06_in.f a0_1 0 1048575).bind fun t155 => (if t155 = true then (if (a0_4.size : Int) = 16 then (some ((a0_5.size : Int) == 16)) else (some false)) else (some false))) else (some false))) else (some false))) else (some false))) = some r := h
 clear h
 replace H := Option.bind_eq_some_iff.mp H
 obtain ⟨t152, A20, H⟩ := H
 replace H : (if t152 = true then ((palanquinref06_in.f a0_2 0 255).bind fun t153 => (if t153 = true then ((palanquinref06_in.f a0_3 0 255).bind fun t154 => (if t154 = true then ((palanquinref06_in.f a0_1 0 1048575).bind fun t155 => (if t155 = true then (if (a0_4.size : Int) = 16 then (some ((a0_5.size : Int) == 16)) else (some false)) else (some false))) else (some false))) else (some false))) else (some false)) = some r := H
 have A2 := mA A20
 clear A20
 by_cases c3 : t152 = true
 ·subst c3
  have H1 : ((palanquinref06_in.f a0_2 0 255).bind fun t153 => (if t153 = true then ((palanquinref06_in.f a0_3 0 255).bind fun t154 => (if t154 = true then ((palanquinref06_in.f a0_1 0 1048575).bind fun t155 => (if t155 = true then (if (a0_4.size : Int) = 16 then (some ((a0_5.size : Int) == 16)) else (some false)) else (some false))) else (some false))) else (some false))) = some r := by rw [if_pos rfl] at H; exact H
  clear H
  have H := H1
  clear H1
  replace H := Option.bind_eq_some_iff.mp H
  obtain ⟨t153, A40, H⟩ := H
  replace H : (if t153 = true then ((palanquinref06_in.f a0_3 0 255).bind fun t154 => (if t154 = true then ((palanquinref06_in.f a0_1 0 1048575).bind fun t155 => (if t155 = true then (if (a0_4.size : Int) = 16 then (some ((a0_5.size : Int) == 16)) else (some false)) else (some false))) else (some false))) else (some false)) = some r := H
  have A4 := mA A40
  clear A40
  by_cases c5 : t153 = true
  ·subst c5
   have H1 : ((palanquinref06_in.f a0_3 0 255).bind fun t154 => (if t154 = true then ((palanquinref06_in.f a0_1 0 1048575).bind fun t155 => (if t155 = true then (if (a0_4.size : Int) = 16 then (some ((a0_5.size : Int) == 16)) else (some false)) else (some false))) else (some false))) = some r := by rw [if_pos rfl] at H; exact H
   clear H
   have H := H1
   clear H1
   replace H := Option.bind_eq_some_iff.mp H
   obtain ⟨t154, A60, H⟩ := H
   replace H : (if t154 = true then ((palanquinref06_in.f a0_1 0 1048575).bind fun t155 => (if t155 = true then (if (a0_4.size : Int) = 16 then (some ((a0_5.size : Int) == 16)) else (some false)) else (some false))) else (some false)) = some r := H
   have A6 := mA A60
   clear A60
   by_cases c7 : t154 = true
   ·subst c7
    have H1 : ((palanquinref06_in.f a0_1 0 1048575).bind fun t155 => (if t155 = true then (if (a0_4.size : Int) = 16 then (some ((a0_5.size : Int) == 16)) else (some false)) else (some false))) = some r := by rw [if_pos rfl] at H; exact H
    clear H
    have H := H1
    clear H1
    replace H := Option.bind_eq_some_iff.mp H
    obtain ⟨t155, A80, H⟩ := H
    replace H : (if t155 = true then (if (a0_4.size : Int) = 16 then (some ((a0_5.size : Int) == 16)) else (some false)) else (some false)) = some r := H
    have A8 := mA A80
    clear A80
    by_cases c9 : t155 = true
    ·subst c9
     have H1 : (if (a0_4.size : Int) = 16 then (some ((a0_5.size : Int) == 16)) else (some false)) = some r := by rw [if_pos rfl] at H; exact H
     clear H
     have H := H1
     clear H1
     by_cases c10 : (a0_4.size : Int) = 16
     ·rw [if_pos c10] at H
      have c10b0 : ((a0_4.size : Int) == 16) = true := beq_iff_eq.mpr c10
      have c10b1 : ((a0_4.size : Int) != 16) = false := bne_eq_false_iff_eq.mpr c10
      clear c10
      obtain rfl := Option.some.inj H
      go_enter Try.func46, Try.ntmps46
      go_wp2_with (first | ((with_reducible refine gate_dst (N := 1) rfl ?_); (try (refine gate_guard (by rfl) ?_; dsimp only)); refine box_event ?hg (N := 1) ?hd (cs := #[.int .i64 a0_0, .int .i64 a0_1, .int .i64 a0_2, .int .i64 a0_3, .string a0_4, .string a0_5]) (t := 53) ?hr ?_; (case hd => rfl); (case hg => rfl); (case hr => first | (go_simp; done) | (go_simp; rfl)); intro gb151 hg w11 hbox hb; obtain ⟨n0_, nq_⟩ := bpr (by repeat (first | (with_reducible first | exact HB.out | apply bA | apply bN | apply bD) | exact HB.out)) hb; have n1_ := mA (hbox); have n2_ := mA ((by rw [hg]; exact nq_ : w.heap.size ≤ gb151)); have n3_ := mA ((by rw [hg]; exact nq_ : w.heap.size ≤ gb151)); clear HB; have HB := n0_; have BK151 := n1_; have GW151 := n2_; have GE151 := n3_; clear nq_; clear n0_ n1_ n2_ n3_; clear hb hbox hg; obtain ⟨hcz12_0, hcz12_1, hcz12_2, hcz12_3, hcz12_4, hcz12_5⟩ := bc6 BK151.out; obtain ⟨hfz12_0, hfz12_1, hfz12_2, hfz12_3, hfz12_4, hfz12_5⟩ := bf6 BK151.out) | ((with_reducible refine gate_callee (f := 64) rfl ?_); refine goesL_ (some 5) rfl rfl Try.func64 (by kernel_rfl) rfl #[.int .i64 a0_0, .int .i64 0, .int .i64 255] rfl (by (try simp only [List.map_toArray, List.map_cons, List.map_nil]); first | done | rfl | (simp only [List.length_drop, List.length_take]; rfl)) ?_; (with_reducible refine (palanquinref06_in.calls a0_0 0 255 true _ A2.out).mono ?_); rintro e w' ⟨rfl, ⟨nd, rfl⟩⟩; refine ⟨_, rfl, ?_⟩) | (go_at_call 64; (with_reducible refine (palanquinref06_in.calls a0_2 0 255 true _ A4.out).mono ?_); rintro e w' ⟨rfl, ⟨nd, rfl⟩⟩) | (go_at_call 64; (with_reducible refine (palanquinref06_in.calls a0_3 0 255 true _ A6.out).mono ?_); rintro e w' ⟨rfl, ⟨nd, rfl⟩⟩) | (go_at_call 64; (with_reducible refine (palanquinref06_in.calls a0_1 0 1048575 true _ A8.out).mono ?_); rintro e w' ⟨rfl, ⟨nd, rfl⟩⟩))
      go_ret
      exact ⟨by first | rfl | (simp [errW_none, errW_some] <;> rfl) | (simp [*, errW_none, errW_some] <;> rfl), by repeat (first | (with_reducible first | exact HB.out | apply bA | apply bN | apply bD | refine bS ?_ GE151.out) | exact HB.out)⟩
     ·rw [if_neg c10] at H
      have c10b0 : ((a0_4.size : Int) == 16) = false := beq_eq_false_iff_ne.mpr c10
      have c10b1 : ((a0_4.size : Int) != 16) = true := bne_iff_ne.mpr c10
      obtain rfl := Option.some.inj H
      go_enter Try.func46, Try.ntmps46
      go_wp2_with (first | ((with_reducible refine gate_dst (N := 1) rfl ?_); (try (refine gate_guard (by rfl) ?_; dsimp only)); refine box_event ?hg (N := 1) ?hd (cs := #[.int .i64 a0_0, .int .i64 a0_1, .int .i64 a0_2, .int .i64 a0_3, .string a0_4, .string a0_5]) (t := 53) ?hr ?_; (case hd => rfl); (case hg => rfl); (case hr => first | (go_simp; done) | (go_simp; rfl)); intro gb151 hg w13 hbox hb; obtain ⟨n0_, nq_⟩ := bpr (by repeat (first | (with_reducible first | exact HB.out | apply bA | apply bN | apply bD) | exact HB.out)) hb; have n1_ := mA (hbox); have n2_ := mA ((by rw [hg]; exact nq_ : w.heap.size ≤ gb151)); have n3_ := mA ((by rw [hg]; exact nq_ : w.heap.size ≤ gb151)); clear HB; have HB := n0_; have BK151 := n1_; have GW151 := n2_; have GE151 := n3_; clear nq_; clear n0_ n1_ n2_ n3_; clear hb hbox hg; obtain ⟨hcz14_0, hcz14_1, hcz14_2, hcz14_3, hcz14_4, hcz14_5⟩ := bc6 BK151.out; obtain ⟨hfz14_0, hfz14_1, hfz14_2, hfz14_3, hfz14_4, hfz14_5⟩ := bf6 BK151.out) | ((with_reducible refine gate_callee (f := 64) rfl ?_); refine goesL_ (some 5) rfl rfl Try.func64 (by kernel_rfl) rfl #[.int .i64 a0_0, .int .i64 0, .int .i64 255] rfl (by (try simp only [List.map_toArray, List.map_cons, List.map_nil]); first | done | rfl | (simp only [List.length_drop, List.length_take]; rfl)) ?_; (with_reducible refine (palanquinref06_in.calls a0_0 0 255 true _ A2.out).mono ?_); rintro e w' ⟨rfl, ⟨nd, rfl⟩⟩; refine ⟨_, rfl, ?_⟩) | (go_at_call 64; (with_reducible refine (palanquinref06_in.calls a0_2 0 255 true _ A4.out).mono ?_); rintro e w' ⟨rfl, ⟨nd, rfl⟩⟩) | (go_at_call 64; (with_reducible refine (palanquinref06_in.calls a0_3 0 255 true _ A6.out).mono ?_); rintro e w' ⟨rfl, ⟨nd, rfl⟩⟩) | (go_at_call 64; (with_reducible refine (palanquinref06_in.calls a0_1 0 1048575 true _ A8.out).mono ?_); rintro e w' ⟨rfl, ⟨nd, rfl⟩⟩))
      go_ret
      exact ⟨by first | rfl | (simp [errW_none, errW_some] <;> rfl) | (simp [*, errW_none, errW_some] <;> rfl), by repeat (first | (with_reducible first | exact HB.out | apply bA | apply bN | apply bD | refine bS ?_ GE151.out) | exact HB.out)⟩
    ·replace c9 := Bool.eq_false_iff.mpr c9
     subst c9
     have H1 : (some false) = some r := by rw [if_neg (show ¬ (false = true) by decide)] at H; exact H
     clear H
     have H := H1
     clear H1
     obtain rfl := Option.some.inj H
     go_enter Try.func46, Try.ntmps46
     go_wp2_with (first | ((with_reducible refine gate_dst (N := 1) rfl ?_); (try (refine gate_guard (by rfl) ?_; dsimp only)); refine box_event ?hg (N := 1) ?hd (cs := #[.int .i64 a0_0, .int .i64 a0_1, .int .i64 a0_2, .int .i64 a0_3, .string a0_4, .string a0_5]) (t := 53) ?hr ?_; (case hd => rfl); (case hg => rfl); (case hr => first | (go_simp; done) | (go_simp; rfl)); intro gb151 hg w15 hbox hb; obtain ⟨n0_, nq_⟩ := bpr (by repeat (first | (with_reducible first | exact HB.out | apply bA | apply bN | apply bD) | exact HB.out)) hb; have n1_ := mA (hbox); have n2_ := mA ((by rw [hg]; exact nq_ : w.heap.size ≤ gb151)); have n3_ := mA ((by rw [hg]; exact nq_ : w.heap.size ≤ gb151)); clear HB; have HB := n0_; have BK151 := n1_; have GW151 := n2_; have GE151 := n3_; clear nq_; clear n0_ n1_ n2_ n3_; clear hb hbox hg; obtain ⟨hcz16_0, hcz16_1, hcz16_2, hcz16_3, hcz16_4, hcz16_5⟩ := bc6 BK151.out; obtain ⟨hfz16_0, hfz16_1, hfz16_2, hfz16_3, hfz16_4, hfz16_5⟩ := bf6 BK151.out) | ((with_reducible refine gate_callee (f := 64) rfl ?_); refine goesL_ (some 5) rfl rfl Try.func64 (by kernel_rfl) rfl #[.int .i64 a0_0, .int .i64 0, .int .i64 255] rfl (by (try simp only [List.map_toArray, List.map_cons, List.map_nil]); first | done | rfl | (simp only [List.length_drop, List.length_take]; rfl)) ?_; (with_reducible refine (palanquinref06_in.calls a0_0 0 255 true _ A2.out).mono ?_); rintro e w' ⟨rfl, ⟨nd, rfl⟩⟩; refine ⟨_, rfl, ?_⟩) | (go_at_call 64; (with_reducible refine (palanquinref06_in.calls a0_2 0 255 true _ A4.out).mono ?_); rintro e w' ⟨rfl, ⟨nd, rfl⟩⟩) | (go_at_call 64; (with_reducible refine (palanquinref06_in.calls a0_3 0 255 true _ A6.out).mono ?_); rintro e w' ⟨rfl, ⟨nd, rfl⟩⟩) | (go_at_call 64; (with_reducible refine (palanquinref06_in.calls a0_1 0 1048575 false _ A8.out).mono ?_); rintro e w' ⟨rfl, ⟨nd, rfl⟩⟩))
     go_ret
     exact ⟨by first | rfl | (simp [errW_none, errW_some] <;> rfl) | (simp [*, errW_none, errW_some] <;> rfl), by repeat (first | (with_reducible first | exact HB.out | apply bA | apply bN | apply bD | refine bS ?_ GE151.out) | exact HB.out)⟩
   ·replace c7 := Bool.eq_false_iff.mpr c7
    subst c7
    have H1 : (some false) = some r := by rw [if_neg (show ¬ (false = true) by decide)] at H; exact H
    clear H
    have H := H1
    clear H1
    obtain rfl := Option.some.inj H
    go_enter Try.func46, Try.ntmps46
    go_wp2_with (first | ((with_reducible refine gate_dst (N := 1) rfl ?_); (try (refine gate_guard (by rfl) ?_; dsimp only)); refine box_event ?hg (N := 1) ?hd (cs := #[.int .i64 a0_0, .int .i64 a0_1, .int .i64 a0_2, .int .i64 a0_3, .string a0_4, .string a0_5]) (t := 53) ?hr ?_; (case hd => rfl); (case hg => rfl); (case hr => first | (go_simp; done) | (go_simp; rfl)); intro gb151 hg w17 hbox hb; obtain ⟨n0_, nq_⟩ := bpr (by repeat (first | (with_reducible first | exact HB.out | apply bA | apply bN | apply bD) | exact HB.out)) hb; have n1_ := mA (hbox); have n2_ := mA ((by rw [hg]; exact nq_ : w.heap.size ≤ gb151)); have n3_ := mA ((by rw [hg]; exact nq_ : w.heap.size ≤ gb151)); clear HB; have HB := n0_; have BK151 := n1_; have GW151 := n2_; have GE151 := n3_; clear nq_; clear n0_ n1_ n2_ n3_; clear hb hbox hg; obtain ⟨hcz18_0, hcz18_1, hcz18_2, hcz18_3, hcz18_4, hcz18_5⟩ := bc6 BK151.out; obtain ⟨hfz18_0, hfz18_1, hfz18_2, hfz18_3, hfz18_4, hfz18_5⟩ := bf6 BK151.out) | ((with_reducible refine gate_callee (f := 64) rfl ?_); refine goesL_ (some 5) rfl rfl Try.func64 (by kernel_rfl) rfl #[.int .i64 a0_0, .int .i64 0, .int .i64 255] rfl (by (try simp only [List.map_toArray, List.map_cons, List.map_nil]); first | done | rfl | (simp only [List.length_drop, List.length_take]; rfl)) ?_; (with_reducible refine (palanquinref06_in.calls a0_0 0 255 true _ A2.out).mono ?_); rintro e w' ⟨rfl, ⟨nd, rfl⟩⟩; refine ⟨_, rfl, ?_⟩) | (go_at_call 64; (with_reducible refine (palanquinref06_in.calls a0_2 0 255 true _ A4.out).mono ?_); rintro e w' ⟨rfl, ⟨nd, rfl⟩⟩) | (go_at_call 64; (with_reducible refine (palanquinref06_in.calls a0_3 0 255 false _ A6.out).mono ?_); rintro e w' ⟨rfl, ⟨nd, rfl⟩⟩))
    go_ret
    exact ⟨by first | rfl | (simp [errW_none, errW_some] <;> rfl) | (simp [*, errW_none, errW_some] <;> rfl), by repeat (first | (with_reducible first | exact HB.out | apply bA | apply bN | apply bD | refine bS ?_ GE151.out) | exact HB.out)⟩
  ·replace c5 := Bool.eq_false_iff.mpr c5
   subst c5
   have H1 : (some false) = some r := by rw [if_neg (show ¬ (false = true) by decide)] at H; exact H
   clear H
   have H := H1
   clear H1
   obtain rfl := Option.some.inj H
   go_enter Try.func46, Try.ntmps46
   go_wp2_with (first | ((with_reducible refine gate_dst (N := 1) rfl ?_); (try (refine gate_guard (by rfl) ?_; dsimp only)); refine box_event ?hg (N := 1) ?hd (cs := #[.int .i64 a0_0, .int .i64 a0_1, .int .i64 a0_2, .int .i64 a0_3, .string a0_4, .string a0_5]) (t := 53) ?hr ?_; (case hd => rfl); (case hg => rfl); (case hr => first | (go_simp; done) | (go_simp; rfl)); intro gb151 hg w19 hbox hb; obtain ⟨n0_, nq_⟩ := bpr (by repeat (first | (with_reducible first | exact HB.out | apply bA | apply bN | apply bD) | exact HB.out)) hb; have n1_ := mA (hbox); have n2_ := mA ((by rw [hg]; exact nq_ : w.heap.size ≤ gb151)); have n3_ := mA ((by rw [hg]; exact nq_ : w.heap.size ≤ gb151)); clear HB; have HB := n0_; have BK151 := n1_; have GW151 := n2_; have GE151 := n3_; clear nq_; clear n0_ n1_ n2_ n3_; clear hb hbox hg; obtain ⟨hcz20_0, hcz20_1, hcz20_2, hcz20_3, hcz20_4, hcz20_5⟩ := bc6 BK151.out; obtain ⟨hfz20_0, hfz20_1, hfz20_2, hfz20_3, hfz20_4, hfz20_5⟩ := bf6 BK151.out) | ((with_reducible refine gate_callee (f := 64) rfl ?_); refine goesL_ (some 5) rfl rfl Try.func64 (by kernel_rfl) rfl #[.int .i64 a0_0, .int .i64 0, .int .i64 255] rfl (by (try simp only [List.map_toArray, List.map_cons, List.map_nil]); first | done | rfl | (simp only [List.length_drop, List.length_take]; rfl)) ?_; (with_reducible refine (palanquinref06_in.calls a0_0 0 255 true _ A2.out).mono ?_); rintro e w' ⟨rfl, ⟨nd, rfl⟩⟩; refine ⟨_, rfl, ?_⟩) | (go_at_call 64; (with_reducible refine (palanquinref06_in.calls a0_2 0 255 false _ A4.out).mono ?_); rintro e w' ⟨rfl, ⟨nd, rfl⟩⟩))
   go_ret
   exact ⟨by first | rfl | (simp [errW_none, errW_some] <;> rfl) | (simp [*, errW_none, errW_some] <;> rfl), by repeat (first | (with_reducible first | exact HB.out | apply bA | apply bN | apply bD | refine bS ?_ GE151.out) | exact HB.out)⟩
 ·replace c3 := Bool.eq_false_iff.mpr c3
  subst c3
  have H1 : (some false) = some r := by rw [if_neg (show ¬ (false = true) by decide)] at H; exact H
  clear H
  have H := H1
  clear H1
  obtain rfl := Option.some.inj H
  go_enter Try.func46, Try.ntmps46
  go_wp2_with (first | ((with_reducible refine gate_dst (N := 1) rfl ?_); (try (refine gate_guard (by rfl) ?_; dsimp only)); refine box_event ?hg (N := 1) ?hd (cs := #[.int .i64 a0_0, .int .i64 a0_1, .int .i64 a0_2, .int .i64 a0_3, .string a0_4, .string a0_5]) (t := 53) ?hr ?_; (case hd => rfl); (case hg => rfl); (case hr => first | (go_simp; done) | (go_simp; rfl)); intro gb151 hg w21 hbox hb; obtain ⟨n0_, nq_⟩ := bpr (by repeat (first | (with_reducible first | exact HB.out | apply bA | apply bN | apply bD) | exact HB.out)) hb; have n1_ := mA (hbox); have n2_ := mA ((by rw [hg]; exact nq_ : w.heap.size ≤ gb151)); have n3_ := mA ((by rw [hg]; exact nq_ : w.heap.size ≤ gb151)); clear HB; have HB := n0_; have BK151 := n1_; have GW151 := n2_; have GE151 := n3_; clear nq_; clear n0_ n1_ n2_ n3_; clear hb hbox hg; obtain ⟨hcz22_0, hcz22_1, hcz22_2, hcz22_3, hcz22_4, hcz22_5⟩ := bc6 BK151.out; obtain ⟨hfz22_0, hfz22_1, hfz22_2, hfz22_3, hfz22_4, hfz22_5⟩ := bf6 BK151.out) | ((with_reducible refine gate_callee (f := 64) rfl ?_); refine goesL_ (some 5) rfl rfl Try.func64 (by kernel_rfl) rfl #[.int .i64 a0_0, .int .i64 0, .int .i64 255] rfl (by (try simp only [List.map_toArray, List.map_cons, List.map_nil]); first | done | rfl | (simp only [List.length_drop, List.length_take]; rfl)) ?_; (with_reducible refine (palanquinref06_in.calls a0_0 0 255 false _ A2.out).mono ?_); rintro e w' ⟨rfl, ⟨nd, rfl⟩⟩; refine ⟨_, rfl, ?_⟩))
  go_ret
  exact ⟨by first | rfl | (simp [errW_none, errW_some] <;> rfl) | (simp [*, errW_none, errW_some] <;> rfl), by repeat (first | (with_reducible first | exact HB.out | apply bA | apply bN | apply bD | refine bS ?_ GE151.out) | exact HB.out)⟩

def palanquinref06_Put.f (k : Nat) (a0_0 : Int) (a0_1 : Int) (a0_2 : Int) (a0_3 : Int) (a0_4 : ByteArray) (a0_5 : ByteArray) (a1 : ByteArray) : Option (ByteArray × Int) := (palanquinref06_Right.f a0_0 a0_1 a0_2 a0_3 a0_4 a0_5).bind fun t157 => (if t157 = true then (if (a1.size : Int) > 65535 then (some ((⟨#[]⟩ : ByteArray), 4)) else ((palanquinref01_Bytes.f k (IntKind.u64.wrap (wrap64 ((wrap64 ((wrap64 (1536 + a0_0)) * 1048576)) + a0_1))) 4).bind fun t158 => ((palanquinref01_Bytes.f k (IntKind.u64.wrap ((a1.size : Int))) 2).bind fun t159 => (if t158.size + t159.size ≤ 9223372036854775807 then ((palanquinref01_Bytes.f k (IntKind.u64.wrap (a0_2)) 1).bind fun t160 => (if (t158 ++ t159).size + t160.size ≤ 9223372036854775807 then ((palanquinref01_Bytes.f k (IntKind.u64.wrap (a0_3)) 1).bind fun t161 => (if ((t158 ++ t159) ++ t160).size + t161.size ≤ 9223372036854775807 then (if (((t158 ++ t159) ++ t160) ++ t161).size + a0_4.size ≤ 9223372036854775807 then (if ((((t158 ++ t159) ++ t160) ++ t161) ++ a0_4).size + a0_5.size ≤ 9223372036854775807 then (if (((((t158 ++ t159) ++ t160) ++ t161) ++ a0_4) ++ a0_5).size + a1.size ≤ 9223372036854775807 then (some ((((((t158 ++ t159) ++ t160) ++ t161) ++ a0_4) ++ a0_5) ++ a1, 0)) else (none)) else (none)) else (none)) else (none))) else (none))) else (none))))) else (some ((⟨#[]⟩ : ByteArray), 1)))
def palanquinref06_Put.T6 : Bool × List (List Nat × List Nat) := (true, [([], []), ([0], [0]), ([1], [1]), ([], []), ([3], [3]), ([4], [4]), ([5, 2], [5]), ([2, 6], [2, 6]), ([], []), ([8], [8]), ([9], [9]), ([10, 6], [10]), ([7, 11], [7, 11]), ([], []), ([13], [13]), ([14], [14]), ([15, 11], [15]), ([12, 16], [12, 16]), ([], []), ([18], [18]), ([17, 19], [17, 19]), ([], []), ([21], [21]), ([20, 22], [20, 22]), ([], []), ([23, 24], [23, 24]), ([25, 16, 0, 1, 2, 3, 4, 5, 6, 7, 8, 9, 10, 11, 12, 13, 14, 15, 16, 17, 18, 19, 20, 21, 22, 23, 24, 25], [25]), ([26, 0, 1, 2, 3, 4, 5, 6, 7, 8, 9, 10, 11, 12, 13, 14, 15, 16, 17, 18, 19, 20, 21, 22, 23, 24, 25, 26], [])])
def palanquinref06_Put.B6 : List Nat := [0, 1, 3, 0, 8, 24, 63, 127, 0, 256, 768, 1919, 4095, 0, 8192, 24576, 61311, 131071, 0, 262144, 1048575, 0, 2097152, 8388607, 0, 33554431, 67108863, 134217727]
theorem palanquinref06_Put.tab6 : rtab .any (opsOf Try.f24 6) = palanquinref06_Put.T6 := by kernel_rfl
theorem palanquinref06_Put.bits6 : waitsOk palanquinref06_Put.T6.2 palanquinref06_Put.B6 = true := by kernel_rfl
set_option maxHeartbeats 8000000 in
set_option maxRecDepth 100000 in
theorem palanquinref06_Put.calls (k : Nat) (a0_0 : Int) (a0_1 : Int) (a0_2 : Int) (a0_3 : Int) (a0_4 : ByteArray) (a0_5 : ByteArray) (a1 : ByteArray) (r1 : ByteArray) (r2 : Int) (w : World) (h : palanquinref06_Put.f k a0_0 a0_1 a0_2 a0_3 a0_4 a0_5 a1 = some (r1, r2)) :
  Calls Try.prog 24 #[.agg #[.int .i64 a0_0, .int .i64 a0_1, .int .i64 a0_2, .int .i64 a0_3, .string a0_4, .string a0_5], .string a1] w fun e w' => e = .returned (.tuple #[.string r1, .int .i64 r2]) ∧ Below w.heap.size w w' := by
 have hu53 := Try.underlying53
 have HB := mA (Below.refl w.heap.size w)
 have H : ((palanquinref06_Right.f a0_0 a0_1 a0_2 a0_3 a0_4 a0_5).bind fun t157 => (if t157 = true then (if (a1.size : Int) > 65535 then (some ((⟨#[]⟩ : ByteArray), 4)) else ((palanquinref01_Bytes.f k (IntKind.u64.wrap (wrap64 ((wrap64 ((wrap64 (1536 + a0_0)) * 1048576)) + a0_1))) 4).bind fun t158 => ((palanquinref01_Bytes.f k (IntKind.u64.wrap ((a1.size : Int))) 2).bind fun t159 => (if t158.size + t159.size ≤ 9223372036854775807 then ((palanquinref01_Bytes.f k (IntKind.u64.wrap (a0_2)) 1).bind fun t160 => (if (t158 ++ t159).size + t160.size ≤ 9223372036854775807 then ((palanquinref01_Bytes.f k (IntKind.u64.wrap (a0_3)) 1).bind fun t161 => (if ((t158 ++ t159) ++ t160).size + t161.size ≤ 9223372036854775807 then (if (((t158 ++ t159) ++ t160) ++ t161).size + a0_4.size ≤ 9223372036854775807 then (if ((((t158 ++ t159) ++ t160) ++ t161) ++ a0_4).size + a0_5.size ≤ 9223372036854775807 then (if (((((t158 ++ t159) ++ t160) ++ t161) ++ a0_4) ++ a0_5).size + a1.size ≤ 9223372036854775807 then (some ((((((t158 ++ t159) ++ t160) ++ t161) ++ a0_4) ++ a0_5) ++ a1, 0)) else (none)) else (none)) else (none)) else (none))) else (none))) else (none))))) else (some ((⟨#[]⟩ : ByteArray), 1)))) = some (r1, r2) := h
 clear h
 replace H := Option.bind_eq_some_iff.mp H
 obtain ⟨t157, A30, H⟩ := H
 replace H : (if t157 = true then (if (a1.size : Int) > 65535 then (some ((⟨#[]⟩ : ByteArray), 4)) else ((palanquinref01_Bytes.f k (IntKind.u64.wrap (wrap64 ((wrap64 ((wrap64 (1536 + a0_0)) * 1048576)) + a0_1))) 4).bind fun t158 => ((palanquinref01_Bytes.f k (IntKind.u64.wrap ((a1.size : Int))) 2).bind fun t159 => (if t158.size + t159.size ≤ 9223372036854775807 then ((palanquinref01_Bytes.f k (IntKind.u64.wrap (a0_2)) 1).bind fun t160 => (if (t158 ++ t159).size + t160.size ≤ 9223372036854775807 then ((palanquinref01_Bytes.f k (IntKind.u64.wrap (a0_3)) 1).bind fun t161 => (if ((t158 ++ t159) ++ t160).size + t161.size ≤ 9223372036854775807 then (if (((t158 ++ t159) ++ t160) ++ t161).size + a0_4.size ≤ 9223372036854775807 then (if ((((t158 ++ t159) ++ t160) ++ t161) ++ a0_4).size + a0_5.size ≤ 9223372036854775807 then (if (((((t158 ++ t159) ++ t160) ++ t161) ++ a0_4) ++ a0_5).size + a1.size ≤ 9223372036854775807 then (some ((((((t158 ++ t159) ++ t160) ++ t161) ++ a0_4) ++ a0_5) ++ a1, 0)) else (none)) else (none)) else (none)) else (none))) else (none))) else (none))))) else (some ((⟨#[]⟩ : ByteArray), 1))) = some (r1, r2) := H
 have A3 := mA A30
 clear A30
 by_cases c4 : t157 = true
 ·subst c4
  have H1 : (if (a1.size : Int) > 65535 then (some ((⟨#[]⟩ : ByteArray), 4)) else ((palanquinref01_Bytes.f k (IntKind.u64.wrap (wrap64 ((wrap64 ((wrap64 (1536 + a0_0)) * 1048576)) + a0_1))) 4).bind fun t158 => ((palanquinref01_Bytes.f k (IntKind.u64.wrap ((a1.size : Int))) 2).bind fun t159 => (if t158.size + t159.size ≤ 9223372036854775807 then ((palanquinref01_Bytes.f k (IntKind.u64.wrap (a0_2)) 1).bind fun t160 => (if (t158 ++ t159).size + t160.size ≤ 9223372036854775807 then ((palanquinref01_Bytes.f k (IntKind.u64.wrap (a0_3)) 1).bind fun t161 => (if ((t158 ++ t159) ++ t160).size + t161.size ≤ 9223372036854775807 then (if (((t158 ++ t159) ++ t160) ++ t161).size + a0_4.size ≤ 9223372036854775807 then (if ((((t158 ++ t159) ++ t160) ++ t161) ++ a0_4).size + a0_5.size ≤ 9223372036854775807 then (if (((((t158 ++ t159) ++ t160) ++ t161) ++ a0_4) ++ a0_5).size + a1.size ≤ 9223372036854775807 then (some ((((((t158 ++ t159) ++ t160) ++ t161) ++ a0_4) ++ a0_5) ++ a1, 0)) else (none)) else (none)) else (none)) else (none))) else (none))) else (none))))) = some (r1, r2) := by rw [if_pos rfl] at H; exact H
  clear H
  have H := H1
  clear H1
  by_cases c5 : (a1.size : Int) > 65535
  ·rw [if_pos c5] at H
   have c5b0 : decide (65535 < (a1.size : Int)) = true := decide_eq_true c5
   have c5b1 : decide (65535 < a1.size) = true := decide_eq_true (by omega)
   clear c5
   simp only [Option.some.injEq, Prod.mk.injEq] at H
   obtain ⟨rfl, rfl⟩ := H
   go_enter Try.func24, Try.ntmps24
   go_wp2_with (first | ((with_reducible refine gate_dst (N := 2) rfl ?_); refine box_event ?hg (N := 2) ?hd (cs := #[.int .i64 a0_0, .int .i64 a0_1, .int .i64 a0_2, .int .i64 a0_3, .string a0_4, .string a0_5]) (t := 53) ?hr ?_; (case hd => rfl); (case hg => rfl); (case hr => first | (go_simp; done) | (go_simp; rfl)); intro gb156 hg w6 hbox hb; obtain ⟨n0_, nq_⟩ := bpr (by repeat (first | (with_reducible first | exact HB.out | apply bA | apply bN | apply bD) | exact HB.out)) hb; have n1_ := mA (hbox); have n2_ := mA ((by rw [hg]; exact nq_ : w.heap.size ≤ gb156)); have n3_ := mA ((by rw [hg]; exact nq_ : w.heap.size ≤ gb156)); clear HB; have HB := n0_; have BK156 := n1_; have GW156 := n2_; have GE156 := n3_; clear nq_; clear n0_ n1_ n2_ n3_; clear hb hbox hg; obtain ⟨hcz7_0, hcz7_1, hcz7_2, hcz7_3, hcz7_4, hcz7_5⟩ := bc6 BK156.out; obtain ⟨hfz7_0, hfz7_1, hfz7_2, hfz7_3, hfz7_4, hfz7_5⟩ := bf6 BK156.out) | ((with_reducible refine gate_callee (f := 46) rfl ?_); refine goesL_ (some 8) rfl rfl Try.func46 (by kernel_rfl) rfl #[.agg #[.int .i64 a0_0, .int .i64 a0_1, .int .i64 a0_2, .int .i64 a0_3, .string a0_4, .string a0_5]] rfl (by (try simp only [List.map_toArray, List.map_cons, List.map_nil]); first | done | rfl | (simp only [List.length_drop, List.length_take]; rfl)) ?_; (with_reducible refine (palanquinref06_Right.calls a0_0 a0_1 a0_2 a0_3 a0_4 a0_5 true _ A3.out).mono ?_); rintro e w8 ⟨rfl, hb⟩; refine ⟨_, rfl, ?_⟩; have n0_ := mA (blk_below (g := gb156) (o := .cells #[.int .i64 a0_0, .int .i64 a0_1, .int .i64 a0_2, .int .i64 a0_3, .string a0_4, .string a0_5] 53 (0, 0)) (by (with_reducible repeat (first | apply kN | apply kD | apply kA)); exact BK156.out) hb); have n1_ := mA (bP (by repeat (first | (with_reducible first | exact HB.out | apply bA | apply bN | apply bD | refine bS ?_ GE156.out) | exact HB.out)) hb); clear BK156; clear HB; have BK156 := n0_; have HB := n1_; clear n0_ n1_; (try clear hb); (try clear hb2); (try clear hk); (try clear hi)))
   go_ret2
   exact ⟨by first | rfl | (simp [errW_none, errW_some] <;> rfl) | (simp [*, errW_none, errW_some] <;> rfl), by repeat (first | (with_reducible first | exact HB.out | apply bA | apply bN | apply bD | refine bS ?_ GE156.out) | exact HB.out)⟩
  ·rw [if_neg c5] at H
   have c5b0 : decide (65535 < (a1.size : Int)) = false := decide_eq_false c5
   have c5b1 : decide (65535 < a1.size) = false := decide_eq_false (by omega)
   clear c5
   replace H := Option.bind_eq_some_iff.mp H
   obtain ⟨t158, A90, H⟩ := H
   replace H : ((palanquinref01_Bytes.f k (IntKind.u64.wrap ((a1.size : Int))) 2).bind fun t159 => (if t158.size + t159.size ≤ 9223372036854775807 then ((palanquinref01_Bytes.f k (IntKind.u64.wrap (a0_2)) 1).bind fun t160 => (if (t158 ++ t159).size + t160.size ≤ 9223372036854775807 then ((palanquinref01_Bytes.f k (IntKind.u64.wrap (a0_3)) 1).bind fun t161 => (if ((t158 ++ t159) ++ t160).size + t161.size ≤ 9223372036854775807 then (if (((t158 ++ t159) ++ t160) ++ t161).size + a0_4.size ≤ 9223372036854775807 then (if ((((t158 ++ t159) ++ t160) ++ t161) ++ a0_4).size + a0_5.size ≤ 9223372036854775807 then (if (((((t158 ++ t159) ++ t160) ++ t161) ++ a0_4) ++ a0_5).size + a1.size ≤ 9223372036854775807 then (some ((((((t158 ++ t159) ++ t160) ++ t161) ++ a0_4) ++ a0_5) ++ a1, 0)) else (none)) else (none)) else (none)) else (none))) else (none))) else (none))) = some (r1, r2) := H
   have A9 := mA A90
   clear A90
   replace H := Option.bind_eq_some_iff.mp H
   obtain ⟨t159, A100, H⟩ := H
   replace H : (if t158.size + t159.size ≤ 9223372036854775807 then ((palanquinref01_Bytes.f k (IntKind.u64.wrap (a0_2)) 1).bind fun t160 => (if (t158 ++ t159).size + t160.size ≤ 9223372036854775807 then ((palanquinref01_Bytes.f k (IntKind.u64.wrap (a0_3)) 1).bind fun t161 => (if ((t158 ++ t159) ++ t160).size + t161.size ≤ 9223372036854775807 then (if (((t158 ++ t159) ++ t160) ++ t161).size + a0_4.size ≤ 9223372036854775807 then (if ((((t158 ++ t159) ++ t160) ++ t161) ++ a0_4).size + a0_5.size ≤ 9223372036854775807 then (if (((((t158 ++ t159) ++ t160) ++ t161) ++ a0_4) ++ a0_5).size + a1.size ≤ 9223372036854775807 then (some ((((((t158 ++ t159) ++ t160) ++ t161) ++ a0_4) ++ a0_5) ++ a1, 0)) else (none)) else (none)) else (none)) else (none))) else (none))) else (none)) = some (r1, r2) := H
   have A10 := mA A100
   clear A100
   by_cases c11 : t158.size + t159.size ≤ 9223372036854775807
   ·rw [if_pos c11] at H
    have c11b0 := eq_true c11
    have c11b1 : decide (t158.size + t159.size ≤ 9223372036854775807) = true := decide_eq_true c11
    try have c11b2 : (9223372036854775807 < t158.size + t159.size) = False := eq_false (Nat.not_lt.2 c11)
    replace H := Option.bind_eq_some_iff.mp H
    obtain ⟨t160, A120, H⟩ := H
    replace H : (if (t158 ++ t159).size + t160.size ≤ 9223372036854775807 then ((palanquinref01_Bytes.f k (IntKind.u64.wrap (a0_3)) 1).bind fun t161 => (if ((t158 ++ t159) ++ t160).size + t161.size ≤ 9223372036854775807 then (if (((t158 ++ t159) ++ t160) ++ t161).size + a0_4.size ≤ 9223372036854775807 then (if ((((t158 ++ t159) ++ t160) ++ t161) ++ a0_4).size + a0_5.size ≤ 9223372036854775807 then (if (((((t158 ++ t159) ++ t160) ++ t161) ++ a0_4) ++ a0_5).size + a1.size ≤ 9223372036854775807 then (some ((((((t158 ++ t159) ++ t160) ++ t161) ++ a0_4) ++ a0_5) ++ a1, 0)) else (none)) else (none)) else (none)) else (none))) else (none)) = some (r1, r2) := H
    have A12 := mA A120
    clear A120
    by_cases c13 : (t158 ++ t159).size + t160.size ≤ 9223372036854775807
    ·rw [if_pos c13] at H
     have c13b0 := eq_true c13
     have c13b1 : decide ((t158 ++ t159).size + t160.size ≤ 9223372036854775807) = true := decide_eq_true c13
     try have c13b2 : (9223372036854775807 < (t158 ++ t159).size + t160.size) = False := eq_false (Nat.not_lt.2 c13)
     try have c13b3 : (9223372036854775807 < (t158.size) + (t159.size) + t160.size) = False := eq_false (by have h_ := c13; simp only [ByteArray.size_append] at h_; omega)
     try have c13b4 : ((t158.size) + (t159.size) + t160.size ≤ 9223372036854775807) = True := eq_true (by have h_ := c13; simp only [ByteArray.size_append] at h_; omega)
     replace H := Option.bind_eq_some_iff.mp H
     obtain ⟨t161, A140, H⟩ := H
     replace H : (if ((t158 ++ t159) ++ t160).size + t161.size ≤ 9223372036854775807 then (if (((t158 ++ t159) ++ t160) ++ t161).size + a0_4.size ≤ 9223372036854775807 then (if ((((t158 ++ t159) ++ t160) ++ t161) ++ a0_4).size + a0_5.size ≤ 9223372036854775807 then (if (((((t158 ++ t159) ++ t160) ++ t161) ++ a0_4) ++ a0_5).size + a1.size ≤ 9223372036854775807 then (some ((((((t158 ++ t159) ++ t160) ++ t161) ++ a0_4) ++ a0_5) ++ a1, 0)) else (none)) else (none)) else (none)) else (none)) = some (r1, r2) := H
     have A14 := mA A140
     clear A140
     by_cases c15 : ((t158 ++ t159) ++ t160).size + t161.size ≤ 9223372036854775807
     ·rw [if_pos c15] at H
      have c15b0 := eq_true c15
      have c15b1 : decide (((t158 ++ t159) ++ t160).size + t161.size ≤ 9223372036854775807) = true := decide_eq_true c15
      try have c15b2 : (9223372036854775807 < ((t158 ++ t159) ++ t160).size + t161.size) = False := eq_false (Nat.not_lt.2 c15)
      try have c15b3 : (9223372036854775807 < (t158.size) + (t159.size) + (t160.size) + t161.size) = False := eq_false (by have h_ := c15; simp only [ByteArray.size_append] at h_; omega)
      try have c15b4 : ((t158.size) + (t159.size) + (t160.size) + t161.size ≤ 9223372036854775807) = True := eq_true (by have h_ := c15; simp only [ByteArray.size_append] at h_; omega)
      by_cases c16 : (((t158 ++ t159) ++ t160) ++ t161).size + a0_4.size ≤ 9223372036854775807
      ·rw [if_pos c16] at H
       have c16b0 := eq_true c16
       have c16b1 : decide ((((t158 ++ t159) ++ t160) ++ t161).size + a0_4.size ≤ 9223372036854775807) = true := decide_eq_true c16
       try have c16b2 : (9223372036854775807 < (((t158 ++ t159) ++ t160) ++ t161).size + a0_4.size) = False := eq_false (Nat.not_lt.2 c16)
       try have c16b3 : (9223372036854775807 < (t158.size) + (t159.size) + (t160.size) + (t161.size) + a0_4.size) = False := eq_false (by have h_ := c16; simp only [ByteArray.size_append] at h_; omega)
       try have c16b4 : ((t158.size) + (t159.size) + (t160.size) + (t161.size) + a0_4.size ≤ 9223372036854775807) = True := eq_true (by have h_ := c16; simp only [ByteArray.size_append] at h_; omega)
       by_cases c17 : ((((t158 ++ t159) ++ t160) ++ t161) ++ a0_4).size + a0_5.size ≤ 9223372036854775807
       ·rw [if_pos c17] at H
        have c17b0 := eq_true c17
        have c17b1 : decide (((((t158 ++ t159) ++ t160) ++ t161) ++ a0_4).size + a0_5.size ≤ 9223372036854775807) = true := decide_eq_true c17
        try have c17b2 : (9223372036854775807 < ((((t158 ++ t159) ++ t160) ++ t161) ++ a0_4).size + a0_5.size) = False := eq_false (Nat.not_lt.2 c17)
        try have c17b3 : (9223372036854775807 < (t158.size) + (t159.size) + (t160.size) + (t161.size) + (a0_4.size) + a0_5.size) = False := eq_false (by have h_ := c17; simp only [ByteArray.size_append] at h_; omega)
        try have c17b4 : ((t158.size) + (t159.size) + (t160.size) + (t161.size) + (a0_4.size) + a0_5.size ≤ 9223372036854775807) = True := eq_true (by have h_ := c17; simp only [ByteArray.size_append] at h_; omega)
        by_cases c18 : (((((t158 ++ t159) ++ t160) ++ t161) ++ a0_4) ++ a0_5).size + a1.size ≤ 9223372036854775807
        ·rw [if_pos c18] at H
         have c18b0 := eq_true c18
         have c18b1 : decide ((((((t158 ++ t159) ++ t160) ++ t161) ++ a0_4) ++ a0_5).size + a1.size ≤ 9223372036854775807) = true := decide_eq_true c18
         try have c18b2 : (9223372036854775807 < (((((t158 ++ t159) ++ t160) ++ t161) ++ a0_4) ++ a0_5).size + a1.size) = False := eq_false (Nat.not_lt.2 c18)
         try have c18b3 : (9223372036854775807 < (t158.size) + (t159.size) + (t160.size) + (t161.size) + (a0_4.size) + (a0_5.size) + a1.size) = False := eq_false (by have h_ := c18; simp only [ByteArray.size_append] at h_; omega)
         try have c18b4 : ((t158.size) + (t159.size) + (t160.size) + (t161.size) + (a0_4.size) + (a0_5.size) + a1.size ≤ 9223372036854775807) = True := eq_true (by have h_ := c18; simp only [ByteArray.size_append] at h_; omega)
         simp only [Option.some.injEq, Prod.mk.injEq] at H
         obtain ⟨rfl, rfl⟩ := H
         go_enter Try.func24, Try.ntmps24
         try go_wp2_with (first | ((with_reducible refine gate_dst (N := 2) rfl ?_); refine box_event ?hg (N := 2) ?hd (cs := #[.int .i64 a0_0, .int .i64 a0_1, .int .i64 a0_2, .int .i64 a0_3, .string a0_4, .string a0_5]) (t := 53) ?hr ?_; (case hd => rfl); (case hg => rfl); (case hr => first | (go_simp; done) | (go_simp; rfl)); intro gb156 hg w19 hbox hb; obtain ⟨n0_, nq_⟩ := bpr (by repeat (first | (with_reducible first | exact HB.out | apply bA | apply bN | apply bD) | exact HB.out)) hb; have n1_ := mA (hbox); have n2_ := mA ((by rw [hg]; exact nq_ : w.heap.size ≤ gb156)); have n3_ := mA ((by rw [hg]; exact nq_ : w.heap.size ≤ gb156)); clear HB; have HB := n0_; have BK156 := n1_; have GW156 := n2_; have GE156 := n3_; clear nq_; clear n0_ n1_ n2_ n3_; clear hb hbox hg; obtain ⟨hcz20_0, hcz20_1, hcz20_2, hcz20_3, hcz20_4, hcz20_5⟩ := bc6 BK156.out; obtain ⟨hfz20_0, hfz20_1, hfz20_2, hfz20_3, hfz20_4, hfz20_5⟩ := bf6 BK156.out) | ((with_reducible refine gate_callee (f := 46) rfl ?_); refine goesL_ (some 8) rfl rfl Try.func46 (by kernel_rfl) rfl #[.agg #[.int .i64 a0_0, .int .i64 a0_1, .int .i64 a0_2, .int .i64 a0_3, .string a0_4, .string a0_5]] rfl (by (try simp only [List.map_toArray, List.map_cons, List.map_nil]); first | done | rfl | (simp only [List.length_drop, List.length_take]; rfl)) ?_; (with_reducible refine (palanquinref06_Right.calls a0_0 a0_1 a0_2 a0_3 a0_4 a0_5 true _ A3.out).mono ?_); rintro e w21 ⟨rfl, hb⟩; refine ⟨_, rfl, ?_⟩; have n0_ := mA (blk_below (g := gb156) (o := .cells #[.int .i64 a0_0, .int .i64 a0_1, .int .i64 a0_2, .int .i64 a0_3, .string a0_4, .string a0_5] 53 (0, 0)) (by (with_reducible repeat (first | apply kN | apply kD | apply kA)); exact BK156.out) hb); have n1_ := mA (bP (by repeat (first | (with_reducible first | exact HB.out | apply bA | apply bN | apply bD | refine bS ?_ GE156.out) | exact HB.out)) hb); clear BK156; clear HB; have BK156 := n0_; have HB := n1_; clear n0_ n1_; (try clear hb); (try clear hb2); (try clear hk); (try clear hi); obtain ⟨hcz22_0, hcz22_1, hcz22_2, hcz22_3, hcz22_4, hcz22_5⟩ := bc6 BK156.out; obtain ⟨hfz22_0, hfz22_1, hfz22_2, hfz22_3, hfz22_4, hfz22_5⟩ := bf6 BK156.out))
         have n0_ := mA (kD BK156.out)
         have n1_ := mA (bD HB.out)
         clear BK156
         clear HB
         have BK156 := n0_
         have HB := n1_
         clear n0_ n1_
         refine start_ (n := 28) (S := fun w' => w'.cell? ⟨gb156, 0, none⟩ = some (.int .i64 a0_0) ∧ w'.cell? ⟨gb156, 1, none⟩ = some (.int .i64 a0_1) ∧ w'.cell? ⟨gb156, 2, none⟩ = some (.int .i64 a0_2) ∧ w'.cell? ⟨gb156, 3, none⟩ = some (.int .i64 a0_3) ∧ w'.cell? ⟨gb156, 4, none⟩ = some (.string a0_4) ∧ w'.cell? ⟨gb156, 5, none⟩ = some (.string a0_5)) (ds := []) (bv 28 0) (by kernel_rfl) rfl rfl ⟨(zC BK156.out 0).trans rfl, (zC BK156.out 1).trans rfl, (zC BK156.out 2).trans rfl, (zC BK156.out 3).trans rfl, (zC BK156.out 4).trans rfl, (zC BK156.out 5).trans rfl⟩ (fun hHeld => ?_); refine with_tabW palanquinref06_Put.tab6 palanquinref06_Put.bits6 (fun HT_ HW_ => ?_)
         generalize w21.drew = w23 at BK156 HB hHeld ⊢
         refine pure_ (i := 0) (N := some 20) (v := ?_) (a' := ?_) (bv 28 1) rfl rfl (any_of HT_.out (by kernel_rfl)) (fun _ _ _ h => h) (Or.inl ⟨by rfl, ?_⟩) ?_ ?_; rotate_left; (intro w'; go_simp; with_reducible rfl); rotate_left; (simp only [Act.put, List.setIfInBounds_toArray, List.set_cons_zero, List.set_cons_succ, i64_w, i32_w]; rfl)
         refine pure_ (i := 1) (N := some 21) (v := ?_) (a' := ?_) (bv 28 3) rfl rfl (any_of HT_.out (by kernel_rfl)) (fun _ _ _ h => h) (Or.inl ⟨by rfl, ?_⟩) ?_ ?_; rotate_left; (intro w'; go_simp; with_reducible rfl); rotate_left; (simp only [Act.put, List.setIfInBounds_toArray, List.set_cons_zero, List.set_cons_succ, i64_w, i32_w]; rfl)
         refine pure_ (i := 3) (N := some 23) (v := ?_) (a' := ?_) (bv 28 11) rfl rfl (any_of HT_.out (by kernel_rfl)) (fun _ _ _ h => h) (Or.inl ⟨by rfl, ?_⟩) ?_ ?_; rotate_left; (intro w'; go_simp; with_reducible rfl); rotate_left; (simp only [Act.put, List.setIfInBounds_toArray, List.set_cons_zero, List.set_cons_succ, i64_w, i32_w]; rfl)
         refine pure_ (i := 4) (N := some 24) (v := ?_) (a' := ?_) (bv 28 27) rfl rfl (any_of HT_.out (by kernel_rfl)) (fun _ _ _ h => h) (Or.inl ⟨by rfl, ?_⟩) ?_ ?_; rotate_left; (intro w'; go_simp; with_reducible rfl); rotate_left; (simp only [Act.put, List.setIfInBounds_toArray, List.set_cons_zero, List.set_cons_succ, i64_w, i32_w]; rfl)
         refine pure_ (i := 5) (N := some 25) (v := ?_) (a' := ?_) (bv 28 59) rfl rfl (any_of HT_.out (by kernel_rfl)) (fun _ _ _ h => h) (Or.inl ⟨by rfl, ?_⟩) ?_ ?_; rotate_left; (intro w'; go_simp; with_reducible rfl); rotate_left; (simp only [Act.put, List.setIfInBounds_toArray, List.set_cons_zero, List.set_cons_succ, i64_w, i32_w]; rfl)
         refine pure_ (i := 8) (N := some 28) (v := ?_) (a' := ?_) (bv 28 315) rfl rfl (any_of HT_.out (by kernel_rfl)) (fun _ _ _ h => h) (Or.inl ⟨by rfl, ?_⟩) ?_ ?_; rotate_left; (intro w'; go_simp; with_reducible rfl); rotate_left; (simp only [Act.put, List.setIfInBounds_toArray, List.set_cons_zero, List.set_cons_succ, i64_w, i32_w]; rfl)
         refine pure_ (i := 13) (N := some 33) (v := ?_) (a' := ?_) (bv 28 8507) rfl rfl (any_of HT_.out (by kernel_rfl)) (fun _ _ _ h => h) (Or.inl ⟨by rfl, ?_⟩) ?_ ?_; rotate_left; (intro w'; go_simp; with_reducible rfl); rotate_left; (simp only [Act.put, List.setIfInBounds_toArray, List.set_cons_zero, List.set_cons_succ, i64_w, i32_w]; rfl)
         refine pure_ (i := 18) (N := some 38) (v := ?_) (a' := ?_) (bv 28 270651) rfl rfl (any_of HT_.out (by kernel_rfl)) (fun _ _ _ h => h) (Or.inl ⟨by rfl, ?_⟩) ?_ ?_; rotate_left; (intro w'; go_simp; with_reducible rfl); rotate_left; (simp only [Act.put, List.setIfInBounds_toArray, List.set_cons_zero, List.set_cons_succ, i64_w, i32_w]; rfl)
         refine pure_ (i := 21) (N := some 41) (v := ?_) (a' := ?_) (bv 28 2367803) rfl rfl (any_of HT_.out (by kernel_rfl)) (fun _ _ _ h => h) (Or.inl ⟨by rfl, ?_⟩) ?_ ?_; rotate_left; (intro w'; go_simp; with_reducible rfl); rotate_left; (simp only [Act.put, List.setIfInBounds_toArray, List.set_cons_zero, List.set_cons_succ, i64_w, i32_w]; rfl)
         refine pure_ (i := 24) (N := some 44) (v := ?_) (a' := ?_) (bv 28 19145019) rfl rfl (any_of HT_.out (by kernel_rfl)) (fun _ _ _ h => h) (Or.inl ⟨by rfl, ?_⟩) ?_ ?_; rotate_left; (intro w'; go_simp; with_reducible rfl); rotate_left; (simp only [Act.put, List.setIfInBounds_toArray, List.set_cons_zero, List.set_cons_succ, i64_w, i32_w]; rfl)
         refine take_ (i := 9) (N := some 29) (v := ?_) (a' := ?_) (bv 28 19145531) rfl rfl (take_ofW HT_.out HW_.out (by kernel_rfl)) (fun _ _ _ h => h) (Or.inl ⟨by rfl, ?_⟩) hHeld ?_ ?_; rotate_left; (rintro w' ⟨s0, s1, s2, s3, s4, s5⟩; go_simp; with_reducible rfl); rotate_left; (simp only [Act.put, List.setIfInBounds_toArray, List.set_cons_zero, List.set_cons_succ, i64_w, i32_w]; rfl)
         refine pure_ (i := 10) (N := some 30) (v := ?_) (a' := ?_) (bv 28 19146555) rfl rfl (any_of HT_.out (by kernel_rfl)) (fun _ _ _ h => h) (Or.inl ⟨by rfl, ?_⟩) ?_ ?_; rotate_left; (intro w'; go_simp; with_reducible rfl); rotate_left; (simp only [Act.put, List.setIfInBounds_toArray, List.set_cons_zero, List.set_cons_succ, i64_w, i32_w]; rfl)
         refine take_ (i := 14) (N := some 34) (v := ?_) (a' := ?_) (bv 28 19162939) rfl rfl (take_ofW HT_.out HW_.out (by kernel_rfl)) (fun _ _ _ h => h) (Or.inl ⟨by rfl, ?_⟩) hHeld ?_ ?_; rotate_left; (rintro w' ⟨s0, s1, s2, s3, s4, s5⟩; go_simp; with_reducible rfl); rotate_left; (simp only [Act.put, List.setIfInBounds_toArray, List.set_cons_zero, List.set_cons_succ, i64_w, i32_w]; rfl)
         refine pure_ (i := 15) (N := some 35) (v := ?_) (a' := ?_) (bv 28 19195707) rfl rfl (any_of HT_.out (by kernel_rfl)) (fun _ _ _ h => h) (Or.inl ⟨by rfl, ?_⟩) ?_ ?_; rotate_left; (intro w'; go_simp; with_reducible rfl); rotate_left; (simp only [Act.put, List.setIfInBounds_toArray, List.set_cons_zero, List.set_cons_succ, i64_w, i32_w]; rfl)
         refine take_ (i := 19) (N := some 39) (v := ?_) (a' := ?_) (bv 28 19719995) rfl rfl (take_ofW HT_.out HW_.out (by kernel_rfl)) (fun _ _ _ h => h) (Or.inl ⟨by rfl, ?_⟩) hHeld ?_ ?_; rotate_left; (rintro w' ⟨s0, s1, s2, s3, s4, s5⟩; go_simp; with_reducible rfl); rotate_left; (simp only [Act.put, List.setIfInBounds_toArray, List.set_cons_zero, List.set_cons_succ, i64_w, i32_w]; rfl)
         refine take_ (i := 22) (N := some 42) (v := ?_) (a' := ?_) (bv 28 23914299) rfl rfl (take_ofW HT_.out HW_.out (by kernel_rfl)) (fun _ _ _ h => h) (Or.inl ⟨by rfl, ?_⟩) hHeld ?_ ?_; rotate_left; (rintro w' ⟨s0, s1, s2, s3, s4, s5⟩; go_simp; with_reducible rfl); rotate_left; (simp only [Act.put, List.setIfInBounds_toArray, List.set_cons_zero, List.set_cons_succ, i64_w, i32_w]; rfl)
         refine one_ (i := 2) (N := some 22) (bv 28 23914303) rfl rfl (one_of HT_.out (by kernel_rfl)) (by decide) (fun K hK => ?_)
         refine goes_ Try.func42 (by kernel_rfl) rfl #[.int .u64 (IntKind.u64.wrap (wrap64 ((wrap64 ((wrap64 (1536 + a0_0)) * 1048576)) + a0_1))), .int .i64 4] (by rfl) rfl rfl (by (try simp only [List.map_toArray, List.map_cons, List.map_nil]); first | done | rfl | (simp only [List.length_drop, List.length_take]; rfl)) ?_
         with_reducible refine (palanquinref01_Bytes.calls k (IntKind.u64.wrap (wrap64 ((wrap64 ((wrap64 (1536 + a0_0)) * 1048576)) + a0_1))) 4 t158 _ A9.out).mono ?_
         rintro e w24 ⟨rfl, hb⟩
         refine ⟨_, rfl, ?_⟩
         have n0_ := mA (blk_below (g := gb156) (o := .cells #[.int .i64 a0_0, .int .i64 a0_1, .int .i64 a0_2, .int .i64 a0_3, .string a0_4, .string a0_5] 53 (0, 0)) (by (with_reducible repeat (first | apply kN | apply kD | apply kA)); exact BK156.out) hb)
         have n1_ := mA (bP (by repeat (first | (with_reducible first | exact HB.out | apply bA | apply bN | apply bD | refine bS ?_ GE156.out) | exact HB.out)) hb)
         clear BK156
         clear HB
         have BK156 := n0_
         have HB := n1_
         clear n0_ n1_
         (try clear hb)
         (try clear hb2)
         (try clear hk)
         (try clear hi)
         refine hK.out _ _ ⟨(zC BK156.out 0).trans rfl, (zC BK156.out 1).trans rfl, (zC BK156.out 2).trans rfl, (zC BK156.out 3).trans rfl, (zC BK156.out 4).trans rfl, (zC BK156.out 5).trans rfl⟩ (fun hHeld => ?_)
         clear hK K
         refine norm_ (a' := ?_) ?_ ?_
         rotate_left
         ·show Act.put _ (some 22) _ = _
          simp only [Act.put, List.setIfInBounds_toArray, List.set_cons_zero, List.set_cons_succ, i64_w, i32_w]
          rfl
         refine one_ (i := 6) (N := some 26) (bv 28 23914367) rfl rfl (one_of HT_.out (by kernel_rfl)) (by decide) (fun K hK => ?_)
         refine goes_ Try.func42 (by kernel_rfl) rfl #[.int .u64 (IntKind.u64.wrap ((a1.size : Int))), .int .i64 2] (by rfl) rfl rfl (by (try simp only [List.map_toArray, List.map_cons, List.map_nil]); first | done | rfl | (simp only [List.length_drop, List.length_take]; rfl)) ?_
         with_reducible refine (palanquinref01_Bytes.calls k (IntKind.u64.wrap ((a1.size : Int))) 2 t159 _ A10.out).mono ?_
         rintro e w25 ⟨rfl, hb⟩
         refine ⟨_, rfl, ?_⟩
         have n0_ := mA (blk_below (g := gb156) (o := .cells #[.int .i64 a0_0, .int .i64 a0_1, .int .i64 a0_2, .int .i64 a0_3, .string a0_4, .string a0_5] 53 (0, 0)) (by (with_reducible repeat (first | apply kN | apply kD | apply kA)); exact BK156.out) hb)
         have n1_ := mA (bP (by repeat (first | (with_reducible first | exact HB.out | apply bA | apply bN | apply bD | refine bS ?_ GE156.out) | exact HB.out)) hb)
         clear BK156
         clear HB
         have BK156 := n0_
         have HB := n1_
         clear n0_ n1_
         (try clear hb)
         (try clear hb2)
         (try clear hk)
         (try clear hi)
         refine hK.out _ _ ⟨(zC BK156.out 0).trans rfl, (zC BK156.out 1).trans rfl, (zC BK156.out 2).trans rfl, (zC BK156.out 3).trans rfl, (zC BK156.out 4).trans rfl, (zC BK156.out 5).trans rfl⟩ (fun hHeld => ?_)
         clear hK K
         refine norm_ (a' := ?_) ?_ ?_
         rotate_left
         ·show Act.put _ (some 26) _ = _
          simp only [Act.put, List.setIfInBounds_toArray, List.set_cons_zero, List.set_cons_succ, i64_w, i32_w]
          rfl
         refine pure_ (i := 7) (N := some 27) (v := ?_) (a' := ?_) (bv 28 23914495) rfl rfl (any_of HT_.out (by kernel_rfl)) (fun _ _ _ h => h) (Or.inl ⟨by rfl, ?_⟩) ?_ ?_; rotate_left; (intro w'; go_simp; with_reducible rfl); rotate_left; (simp only [Act.put, List.setIfInBounds_toArray, List.set_cons_zero, List.set_cons_succ, i64_w, i32_w]; rfl)
         refine one_ (i := 11) (N := some 31) (bv 28 23916543) rfl rfl (one_of HT_.out (by kernel_rfl)) (by decide) (fun K hK => ?_)
         refine goes_ Try.func42 (by kernel_rfl) rfl #[.int .u64 (IntKind.u64.wrap (a0_2)), .int .i64 1] (by rfl) rfl rfl (by (try simp only [List.map_toArray, List.map_cons, List.map_nil]); first | done | rfl | (simp only [List.length_drop, List.length_take]; rfl)) ?_
         with_reducible refine (palanquinref01_Bytes.calls k (IntKind.u64.wrap (a0_2)) 1 t160 _ A12.out).mono ?_
         rintro e w26 ⟨rfl, hb⟩
         refine ⟨_, rfl, ?_⟩
         have n0_ := mA (blk_below (g := gb156) (o := .cells #[.int .i64 a0_0, .int .i64 a0_1, .int .i64 a0_2, .int .i64 a0_3, .string a0_4, .string a0_5] 53 (0, 0)) (by (with_reducible repeat (first | apply kN | apply kD | apply kA)); exact BK156.out) hb)
         have n1_ := mA (bP (by repeat (first | (with_reducible first | exact HB.out | apply bA | apply bN | apply bD | refine bS ?_ GE156.out) | exact HB.out)) hb)
         clear BK156
         clear HB
         have BK156 := n0_
         have HB := n1_
         clear n0_ n1_
         (try clear hb)
         (try clear hb2)
         (try clear hk)
         (try clear hi)
         refine hK.out _ _ ⟨(zC BK156.out 0).trans rfl, (zC BK156.out 1).trans rfl, (zC BK156.out 2).trans rfl, (zC BK156.out 3).trans rfl, (zC BK156.out 4).trans rfl, (zC BK156.out 5).trans rfl⟩ (fun hHeld => ?_)
         clear hK K
         refine norm_ (a' := ?_) ?_ ?_
         rotate_left
         ·show Act.put _ (some 31) _ = _
          simp only [Act.put, List.setIfInBounds_toArray, List.set_cons_zero, List.set_cons_succ, i64_w, i32_w]
          rfl
         refine pure_ (i := 12) (N := some 32) (v := ?_) (a' := ?_) (bv 28 23920639) rfl rfl (any_of HT_.out (by kernel_rfl)) (fun _ _ _ h => h) (Or.inl ⟨by rfl, ?_⟩) ?_ ?_; rotate_left; (intro w'; go_simp; with_reducible rfl); rotate_left; (simp only [Act.put, List.setIfInBounds_toArray, List.set_cons_zero, List.set_cons_succ, i64_w, i32_w]; rfl)
         refine one_ (i := 16) (N := some 36) (bv 28 23986175) rfl rfl (one_of HT_.out (by kernel_rfl)) (by decide) (fun K hK => ?_)
         refine goes_ Try.func42 (by kernel_rfl) rfl #[.int .u64 (IntKind.u64.wrap (a0_3)), .int .i64 1] (by rfl) rfl rfl (by (try simp only [List.map_toArray, List.map_cons, List.map_nil]); first | done | rfl | (simp only [List.length_drop, List.length_take]; rfl)) ?_
         with_reducible refine (palanquinref01_Bytes.calls k (IntKind.u64.wrap (a0_3)) 1 t161 _ A14.out).mono ?_
         rintro e w27 ⟨rfl, hb⟩
         refine ⟨_, rfl, ?_⟩
         have n0_ := mA (blk_below (g := gb156) (o := .cells #[.int .i64 a0_0, .int .i64 a0_1, .int .i64 a0_2, .int .i64 a0_3, .string a0_4, .string a0_5] 53 (0, 0)) (by (with_reducible repeat (first | apply kN | apply kD | apply kA)); exact BK156.out) hb)
         have n1_ := mA (bP (by repeat (first | (with_reducible first | exact HB.out | apply bA | apply bN | apply bD | refine bS ?_ GE156.out) | exact HB.out)) hb)
         clear BK156
         clear HB
         have BK156 := n0_
         have HB := n1_
         clear n0_ n1_
         (try clear hb)
         (try clear hb2)
         (try clear hk)
         (try clear hi)
         refine hK.out _ _ ⟨(zC BK156.out 0).trans rfl, (zC BK156.out 1).trans rfl, (zC BK156.out 2).trans rfl, (zC BK156.out 3).trans rfl, (zC BK156.out 4).trans rfl, (zC BK156.out 5).trans rfl⟩ (fun hHeld => ?_)
         clear hK K
         refine norm_ (a' := ?_) ?_ ?_
         rotate_left
         ·show Act.put _ (some 36) _ = _
          simp only [Act.put, List.setIfInBounds_toArray, List.set_cons_zero, List.set_cons_succ, i64_w, i32_w]
          rfl
         refine pure_ (i := 17) (N := some 37) (v := ?_) (a' := ?_) (bv 28 24117247) rfl rfl (any_of HT_.out (by kernel_rfl)) (fun _ _ _ h => h) (Or.inl ⟨by rfl, ?_⟩) ?_ ?_; rotate_left; (intro w'; go_simp; with_reducible rfl); rotate_left; (simp only [Act.put, List.setIfInBounds_toArray, List.set_cons_zero, List.set_cons_succ, i64_w, i32_w]; rfl)
         refine pure_ (i := 20) (N := some 40) (v := ?_) (a' := ?_) (bv 28 25165823) rfl rfl (any_of HT_.out (by kernel_rfl)) (fun _ _ _ h => h) (Or.inl ⟨by rfl, ?_⟩) ?_ ?_; rotate_left; (intro w'; go_simp; with_reducible rfl); rotate_left; (simp only [Act.put, List.setIfInBounds_toArray, List.set_cons_zero, List.set_cons_succ, i64_w, i32_w]; rfl)
         refine pure_ (i := 23) (N := some 43) (v := ?_) (a' := ?_) (bv 28 33554431) rfl rfl (any_of HT_.out (by kernel_rfl)) (fun _ _ _ h => h) (Or.inl ⟨by rfl, ?_⟩) ?_ ?_; rotate_left; (intro w'; go_simp; with_reducible rfl); rotate_left; (simp only [Act.put, List.setIfInBounds_toArray, List.set_cons_zero, List.set_cons_succ, i64_w, i32_w]; rfl)
         refine pure_ (i := 25) (N := some 45) (v := ?_) (a' := ?_) (bv 28 67108863) rfl rfl (any_of HT_.out (by kernel_rfl)) (fun _ _ _ h => h) (Or.inl ⟨by rfl, ?_⟩) ?_ ?_; rotate_left; (intro w'; go_simp; with_reducible rfl); rotate_left; (simp only [Act.put, List.setIfInBounds_toArray, List.set_cons_zero, List.set_cons_succ, i64_w, i32_w]; rfl)
         refine pure_ (i := 26) (N := some 4) (v := ?_) (a' := ?_) (bv 28 134217727) rfl rfl (any_of HT_.out (by kernel_rfl)) (fun _ _ _ h => h) (Or.inl ⟨by rfl, ?_⟩) ?_ ?_; rotate_left; (intro w'; go_simp; with_reducible rfl); rotate_left; (simp only [Act.put, List.setIfInBounds_toArray, List.set_cons_zero, List.set_cons_succ, i64_w, i32_w]; rfl)
         refine pure_ (i := 27) (N := some 5) (v := ?_) (a' := ?_) (bv 28 268435455) rfl rfl (any_of HT_.out (by kernel_rfl)) (fun _ _ _ h => h) (Or.inl ⟨by rfl, ?_⟩) ?_ ?_; rotate_left; (intro w'; go_simp; with_reducible rfl); rotate_left; (simp only [Act.put, List.setIfInBounds_toArray, List.set_cons_zero, List.set_cons_succ, i64_w, i32_w]; rfl)
         refine done_ (done_of HT_.out (by kernel_rfl)) ?_
         try go_wp2
         go_ret2
         exact ⟨by first | rfl | (simp [errW_none, errW_some] <;> rfl) | (simp [*, errW_none, errW_some] <;> rfl), by repeat (first | (with_reducible first | exact HB.out | apply bA | apply bN | apply bD | refine bS ?_ GE156.out) | exact HB.out)⟩
        ·rw [if_neg c18] at H
         exact absurd H (by simp)
       ·rw [if_neg c17] at H
        exact absurd H (by simp)
      ·rw [if_neg c16] at H
       exact absurd H (by simp)
     ·rw [if_neg c15] at H
      exact absurd H (by simp)
    ·rw [if_neg c13] at H
     exact absurd H (by simp)
   ·rw [if_neg c11] at H
    exact absurd H (by simp)
 ·replace c4 := Bool.eq_false_iff.mpr c4
  subst c4
  have H1 : (some ((⟨#[]⟩ : ByteArray), 1)) = some (r1, r2) := by rw [if_neg (show ¬ (false = true) by decide)] at H; exact H
  clear H
  have H := H1
  clear H1
  simp only [Option.some.injEq, Prod.mk.injEq] at H
  obtain ⟨rfl, rfl⟩ := H
  go_enter Try.func24, Try.ntmps24
  go_wp2_with (first | ((with_reducible refine gate_dst (N := 2) rfl ?_); refine box_event ?hg (N := 2) ?hd (cs := #[.int .i64 a0_0, .int .i64 a0_1, .int .i64 a0_2, .int .i64 a0_3, .string a0_4, .string a0_5]) (t := 53) ?hr ?_; (case hd => rfl); (case hg => rfl); (case hr => first | (go_simp; done) | (go_simp; rfl)); intro gb156 hg w28 hbox hb; obtain ⟨n0_, nq_⟩ := bpr (by repeat (first | (with_reducible first | exact HB.out | apply bA | apply bN | apply bD) | exact HB.out)) hb; have n1_ := mA (hbox); have n2_ := mA ((by rw [hg]; exact nq_ : w.heap.size ≤ gb156)); have n3_ := mA ((by rw [hg]; exact nq_ : w.heap.size ≤ gb156)); clear HB; have HB := n0_; have BK156 := n1_; have GW156 := n2_; have GE156 := n3_; clear nq_; clear n0_ n1_ n2_ n3_; clear hb hbox hg; obtain ⟨hcz29_0, hcz29_1, hcz29_2, hcz29_3, hcz29_4, hcz29_5⟩ := bc6 BK156.out; obtain ⟨hfz29_0, hfz29_1, hfz29_2, hfz29_3, hfz29_4, hfz29_5⟩ := bf6 BK156.out) | ((with_reducible refine gate_callee (f := 46) rfl ?_); refine goesL_ (some 8) rfl rfl Try.func46 (by kernel_rfl) rfl #[.agg #[.int .i64 a0_0, .int .i64 a0_1, .int .i64 a0_2, .int .i64 a0_3, .string a0_4, .string a0_5]] rfl (by (try simp only [List.map_toArray, List.map_cons, List.map_nil]); first | done | rfl | (simp only [List.length_drop, List.length_take]; rfl)) ?_; (with_reducible refine (palanquinref06_Right.calls a0_0 a0_1 a0_2 a0_3 a0_4 a0_5 false _ A3.out).mono ?_); rintro e w30 ⟨rfl, hb⟩; refine ⟨_, rfl, ?_⟩; have n0_ := mA (blk_below (g := gb156) (o := .cells #[.int .i64 a0_0, .int .i64 a0_1, .int .i64 a0_2, .int .i64 a0_3, .string a0_4, .string a0_5] 53 (0, 0)) (by (with_reducible repeat (first | apply kN | apply kD | apply kA)); exact BK156.out) hb); have n1_ := mA (bP (by repeat (first | (with_reducible first | exact HB.out | apply bA | apply bN | apply bD | refine bS ?_ GE156.out) | exact HB.out)) hb); clear BK156; clear HB; have BK156 := n0_; have HB := n1_; clear n0_ n1_; (try clear hb); (try clear hb2); (try clear hk); (try clear hi)))
  go_ret2
  exact ⟨by first | rfl | (simp [errW_none, errW_some] <;> rfl) | (simp [*, errW_none, errW_some] <;> rfl), by repeat (first | (with_reducible first | exact HB.out | apply bA | apply bN | apply bD | refine bS ?_ GE156.out) | exact HB.out)⟩

end Go.Proofs.Ytcmalglippmocaa.G
end

section
/- Plain facts on worlds: a block known whole, what a call leaves of the others. No function of the program in it. -/
namespace Go.Proofs.Ytcmalglippmocaa.Pal
open Go.RowKit
/-- Block b holds the cells cs, of type T, none of them frozen. -/
def Blk (w : World) (b : Nat) (T : TypeId) (cs : Array Value) : Prop := w.heap[b]? = some (.cells cs T (0, 0))
theorem Blk.cell {w : World} {b : Nat} {T : TypeId} {cs : Array Value} (h : Blk w b T cs) (j : Nat) (v : Value) (hv : cs[j]? = some v) : w.cell? ⟨b, j, none⟩ = some v := by
  unfold Blk at h
  simp [World.cell?, h, hv]
theorem Blk.free {w : World} {b : Nat} {T : TypeId} {cs : Array Value} (h : Blk w b T cs) (j : Nat) : w.frozen? ⟨b, j, none⟩ = false := by
  unfold Blk at h
  simp [World.frozen?, h]
theorem Blk.lt {w : World} {b : Nat} {T : TypeId} {cs : Array Value} (h : Blk w b T cs) : b < w.heap.size := lt_of_block h
theorem Blk.set {w : World} {b : Nat} {T : TypeId} {cs : Array Value} (h : Blk w b T cs) (j : Nat) (v : Value) : Blk (w.setCell ⟨b, j, none⟩ v) b T (cs.setIfInBounds j v) := by
  have hlt := h.lt
  unfold Blk at h ⊢
  have h' : w.heap[b] = .cells cs T (0, 0) := by simpa [Array.getElem?_eq_getElem hlt] using h
  show (w.heap.modify b _)[b]? = _
  rw [Array.getElem?_eq_getElem (by simpa using hlt), Array.getElem_modify_self, h']
  rfl
theorem Blk.other {w : World} {b : Nat} {T : TypeId} {cs : Array Value} (h : Blk w b T cs) (p : Addr) (hp : b ≠ p.block) (v : Value) : Blk (w.setCell p v) b T cs := by
  unfold Blk at h ⊢
  rw [Below.heap_setCell _ _ _ _ hp]; exact h
theorem Blk.alloc {w : World} {b : Nat} {T : TypeId} {cs : Array Value} (h : Blk w b T cs) (o : Obj) : Blk (w.alloc o) b T cs := by
  have hlt := h.lt
  unfold Blk at h ⊢
  rw [Below.heap_alloc _ _ _ hlt]; exact h
theorem Blk.drew {w : World} {b : Nat} {T : TypeId} {cs : Array Value} (h : Blk w b T cs) : Blk w.drew b T cs := h
theorem Blk.drewN {w : World} {b : Nat} {T : TypeId} {cs : Array Value} (h : Blk w b T cs) (n : Nat) : Blk (w.drewN n) b T cs := h
theorem Blk.new (w : World) (T : TypeId) (cs : Array Value) : Blk (w.alloc (.cells cs T)) w.heap.size T cs := heap_alloc_new w _
/-- What a call that writes block R alone (and makes what it likes) leaves: the kit's 'grownBy' with some block. -/
theorem Blk.grown {w w' : World} {b : Nat} {T : TypeId} {cs : Array Value} (h : Blk w b T cs) {R : Nat} (hg : w.grownBy w' (some R)) (hb : b ≠ R) : Blk w' b T cs := by
  have hlt := h.lt
  unfold Blk at h ⊢
  rw [hg.block b hlt (by simpa using hb)]; exact h
theorem Blk.below {w w' : World} {b : Nat} {T : TypeId} {cs : Array Value} (h : Blk w b T cs) {B : Nat} (hg : Below B w w') (hb : b < B) : Blk w' b T cs := by
  unfold Blk at h ⊢
  rw [hg.block b hb]; exact h
/-- Below B all is as it was, if the one block that was written is none of those. -/
theorem below_of_grown {w w' : World} {R B : Nat} (hg : w.grownBy w' (some R)) (hB : B ≤ w.heap.size) (hR : B ≤ R) : Below B w w' :=
  ⟨hg.os, hg.tape, hg.output, hg.size, fun k hk => hg.block k (by omega) (by simp; omega)⟩
theorem grown_setCell (w : World) (b j : Nat) (v : Value) : w.grownBy (w.setCell ⟨b, j, none⟩ v) (some b) :=
  ⟨rfl, rfl, rfl, by simp [World.setCell], fun k _ hk => Below.heap_setCell _ _ _ _ (by simpa using hk)⟩
theorem grown_refl (w : World) (r : Option Nat) : w.grownBy w r := ⟨rfl, rfl, rfl, Nat.le_refl _, fun _ _ _ => rfl⟩
theorem grown_alloc {a w : World} {r : Option Nat} (h : a.grownBy w r) (o : Obj) : a.grownBy (w.alloc o) r := World.grownBy.trans h (World.grownBy_alloc w o r)
theorem grown_drewN {a w : World} {r : Option Nat} (h : a.grownBy w r) (n : Nat) : a.grownBy (w.drewN n) r := ⟨h.os, h.tape, h.output, h.size, h.block⟩
theorem grown_of_below' {a w w' : World} {r : Option Nat} (h : a.grownBy w r) (k : Below w.heap.size w w') : a.grownBy w' r := World.grownBy.trans h ⟨k.os, k.tape, k.output, k.size, fun i hi _ => k.block i hi⟩
theorem Blk.cells {w : World} {b : Nat} {T : TypeId} {cs : Array Value} (h : Blk w b T cs) : ∀ j, w.cell? ⟨b, j, none⟩ = cs[j]? := fun j => by
  unfold Blk at h
  simp [World.cell?, h]
theorem Blk.frees {w : World} {b : Nat} {T : TypeId} {cs : Array Value} (h : Blk w b T cs) : ∀ j, w.frozen? ⟨b, j, none⟩ = false := fun j => h.free j
/-- Blocks known whole. -/
def Hp (w : World) (bs : List (Nat × TypeId × Array Value)) : Prop := ∀ x ∈ bs, Blk w x.1 x.2.1 x.2.2
theorem Hp.nil (w : World) : Hp w [] := fun _ h => nomatch h
theorem Hp.cons {w : World} {b : Nat} {T : TypeId} {cs : Array Value} {bs : List (Nat × TypeId × Array Value)} (h : Blk w b T cs) (k : Hp w bs) : Hp w ((b, T, cs) :: bs) := fun x hx => by
  rcases List.mem_cons.1 hx with rfl | hx
  · exact h
  · exact k x hx
theorem Hp.head {w : World} {b : Nat} {T : TypeId} {cs : Array Value} {bs : List (Nat × TypeId × Array Value)} (h : Hp w ((b, T, cs) :: bs)) : Blk w b T cs := h _ List.mem_cons_self
theorem Hp.tail {w : World} {x : Nat × TypeId × Array Value} {bs : List (Nat × TypeId × Array Value)} (h : Hp w (x :: bs)) : Hp w bs := fun y hy => h y (List.mem_cons_of_mem _ hy)
theorem Hp.grown {w w' : World} {bs : List (Nat × TypeId × Array Value)} (h : Hp w bs) {R : Nat} (hg : w.grownBy w' (some R)) (hR : ∀ x ∈ bs, x.1 ≠ R) : Hp w' bs := fun x hx => (h x hx).grown hg (hR x hx)
theorem Hp.below {w w' : World} {bs : List (Nat × TypeId × Array Value)} (h : Hp w bs) {B : Nat} (hg : Below B w w') (hB : ∀ x ∈ bs, x.1 < B) : Hp w' bs := fun x hx => (h x hx).below hg (hB x hx)
theorem Hp.alloc {w : World} {bs : List (Nat × TypeId × Array Value)} (h : Hp w bs) (o : Obj) : Hp (w.alloc o) bs := fun x hx => (h x hx).alloc o
theorem Hp.drew {w : World} {bs : List (Nat × TypeId × Array Value)} (h : Hp w bs) : Hp w.drew bs := h
theorem Hp.drewN {w : World} {bs : List (Nat × TypeId × Array Value)} (h : Hp w bs) (n : Nat) : Hp (w.drewN n) bs := h
theorem Hp.other {w : World} {bs : List (Nat × TypeId × Array Value)} (h : Hp w bs) (p : Addr) (hp : ∀ x ∈ bs, x.1 ≠ p.block) (v : Value) : Hp (w.setCell p v) bs := fun x hx => (h x hx).other p (hp x hx) v
theorem Hp.set {w : World} {b : Nat} {T : TypeId} {cs : Array Value} {l1 l2 : List (Nat × TypeId × Array Value)} (h : Hp w (l1 ++ (b, T, cs) :: l2)) (j : Nat) (v : Value) (h1 : ∀ x ∈ l1, x.1 ≠ b) (h2 : ∀ x ∈ l2, x.1 ≠ b) :
    Hp (w.setCell ⟨b, j, none⟩ v) (l1 ++ (b, T, cs.setIfInBounds j v) :: l2) := fun x hx => by
  rcases List.mem_append.1 hx with hx | hx
  · exact (h x (List.mem_append.2 (.inl hx))).other _ (h1 x hx) v
  · rcases List.mem_cons.1 hx with rfl | hx
    · exact (h (b, T, cs) (List.mem_append.2 (.inr List.mem_cons_self))).set j v
    · exact (h x (List.mem_append.2 (.inr (List.mem_cons_of_mem _ hx)))).other _ (h2 x hx) v
/-- A row of texts, by its cells. -/
theorem C_cells {w : World} {b : Nat} (xs : List ByteArray) (hn : xs.length ≤ 9223372036854775807) (h : ∀ j p, xs[j]? = some p → w.cell? ⟨b, j, none⟩ = some (.string p)) : Go.Proofs.YtcmalglippmocaaW.PrintWords.Kd.C Go.Proofs.YtcmalglippmocaaW.PrintWords.Kd.string w (some ⟨b, 0, none⟩) xs.length xs :=
  ⟨rfl, hn, fun _ => ⟨⟨b, 0, none⟩, rfl, fun j p hp => ⟨[.string p], rfl, rfl, fun i u hi => by
    match i, hi with
    | 0, hi =>
      obtain rfl := Option.some.inj hi
      have e : Addr.add ⟨b, 0, none⟩ (j * 1 + 0) = ⟨b, j, none⟩ := by rw [Nat.mul_one, Nat.add_zero]; cases j <;> simp [Addr.add]
      exact (congrArg w.cell? e).trans (h j p hp)
    | i + 1, hi => simp at hi⟩⟩⟩
theorem C_one (w : World) (T : TypeId) (x : ByteArray) : Go.Proofs.YtcmalglippmocaaW.PrintWords.Kd.C Go.Proofs.YtcmalglippmocaaW.PrintWords.Kd.string (w.alloc (.cells #[.string x] T)) (some ⟨w.heap.size, 0, none⟩) 1 [x] :=
  C_cells [x] (by simp) fun j p hp => by
    match j, hp with
    | 0, hp => obtain rfl := Option.some.inj hp; exact (Blk.new w T #[.string x]).cell 0 _ rfl
    | j + 1, hp => simp at hp
theorem C_two (w : World) (T : TypeId) (x y : ByteArray) : Go.Proofs.YtcmalglippmocaaW.PrintWords.Kd.C Go.Proofs.YtcmalglippmocaaW.PrintWords.Kd.string (w.alloc (.cells #[.string x, .string y] T)) (some ⟨w.heap.size, 0, none⟩) 2 [x, y] :=
  C_cells [x, y] (by simp) fun j p hp => by
    match j, hp with
    | 0, hp => obtain rfl := Option.some.inj hp; exact (Blk.new w T #[.string x, .string y]).cell 0 _ rfl
    | 1, hp => obtain rfl := Option.some.inj hp; exact (Blk.new w T #[.string x, .string y]).cell 1 _ rfl
    | j + 2, hp => simp at hp
end Go.Proofs.Ytcmalglippmocaa.Pal
end

section
/- Plain theory of the Internet's checksum: weights of bytes, folding to 16 bits. No program in it. -/
namespace Go.Proofs.Ytcmalglippmocaa.Pal
/-- A text's bytes. -/
def bl (s : ByteArray) : List UInt8 := s.data.toList
/-- The sum of 16-bit numbers, high byte first; `o`: the next byte is a low one. -/
def tot : Bool → List UInt8 → Nat
  | _, [] => 0
  | false, b :: r => b.toNat * 256 + tot true r
  | true, b :: r => b.toNat + tot false r
/-- Folded to 16 bits. -/
def fold16 (n : Nat) : Nat := if n = 0 then 0 else (n - 1) % 65535 + 1
/-- The checksum of bytes. -/
def csum (l : List UInt8) : Nat := 65535 - fold16 (tot false l)
def odd (l : List UInt8) : Bool := l.length % 2 == 1
theorem bl_length (s : ByteArray) : (bl s).length = s.size := by simp [bl]
theorem fold16_le (n : Nat) : fold16 n ≤ 65535 := by unfold fold16; split <;> omega
theorem fold16_id (n : Nat) (h : n ≤ 65535) : fold16 n = n := by unfold fold16; split <;> omega
theorem fold16_step (n : Nat) : fold16 (n % 65536 + n / 65536) = fold16 n := by unfold fold16; split <;> split <;> omega
theorem tot_append (a b : List UInt8) : ∀ o, tot o (a ++ b) = tot o a + tot (o != odd a) b := by
  induction a with
  | nil => intro o; cases o <;> simp [tot, odd]
  | cons x a ih =>
    intro o
    have hp : odd (x :: a) = !odd a := by
      unfold odd
      rw [List.length_cons]
      rcases Nat.mod_two_eq_zero_or_one a.length with h | h
      · have : (a.length + 1) % 2 = 1 := by omega
        rw [h, this]; rfl
      · have : (a.length + 1) % 2 = 0 := by omega
        rw [h, this]; rfl
    cases o
    · simp only [List.cons_append, tot, ih, hp]; cases odd a <;> simp <;> omega
    · simp only [List.cons_append, tot, ih, hp]; cases odd a <;> simp <;> omega
theorem tot_snoc (a : List UInt8) (x : UInt8) : tot false (a ++ [x]) = tot false a + (if odd a then x.toNat else x.toNat * 256) := by
  rw [tot_append]; cases odd a <;> simp [tot]
theorem odd_snoc (a : List UInt8) (x : UInt8) : odd (a ++ [x]) = !odd a := by
  unfold odd
  rw [List.length_append, List.length_singleton]
  rcases Nat.mod_two_eq_zero_or_one a.length with h | h
  · have : (a.length + 1) % 2 = 1 := by omega
    rw [h, this]; rfl
  · have : (a.length + 1) % 2 = 0 := by omega
    rw [h, this]; rfl
theorem tot_le (a : List UInt8) : ∀ o, tot o a ≤ 65280 * a.length := by
  induction a with
  | nil => intro o; cases o <;> simp [tot]
  | cons x a ih =>
    intro o
    have hx := x.toNat_lt
    have h1 := ih true
    have h2 := ih false
    cases o <;> simp only [tot, List.length_cons] <;> omega
/-- All parts' bytes. -/
def cat (l : List ByteArray) : List UInt8 := (l.map bl).flatten
theorem cat_nil : cat [] = [] := rfl
theorem cat_cons (s : ByteArray) (l : List ByteArray) : cat (s :: l) = bl s ++ cat l := rfl
end Go.Proofs.Ytcmalglippmocaa.Pal
end

section
/- Plain facts on bit operations of Go's whole numbers, at numbers that are not negative. No program in it. -/
namespace Go.Proofs.Ytcmalglippmocaa.Pal
theorem wraps_i64 (n : Int) (h₀ : 0 ≤ n) (h₁ : n < 2 ^ 63) : IntKind.i64.wrap n = n := by rw [IntKind.wrap_i64]; omega
theorem wraps_u64 (n : Int) (h₀ : 0 ≤ n) (h₁ : n < 2 ^ 64) : IntKind.u64.wrap n = n := by rw [IntKind.wrap_u64]; omega
theorem wraps_u32 (n : Int) (h₀ : 0 ≤ n) (h₁ : n < 2 ^ 32) : IntKind.u32.wrap n = n := by rw [IntKind.wrap_u32]; omega
theorem i64_and (a b : Nat) (ha : a < 2 ^ 63) (hb : b < 2 ^ 63) : Go.bits .and .i64 (a : Int) (b : Int) = ((a &&& b : Nat) : Int) := (bits_nat .i64 63 (by decide) wraps_i64 a b ha hb).1
theorem i64_xor (a b : Nat) (ha : a < 2 ^ 63) (hb : b < 2 ^ 63) : Go.bits .xor .i64 (a : Int) (b : Int) = ((a ^^^ b : Nat) : Int) := by
  have ha' : a % 2 ^ IntKind.i64.bits = a := Nat.mod_eq_of_lt (Nat.lt_of_lt_of_le ha (by decide))
  have hb' : b % 2 ^ IntKind.i64.bits = b := Nat.mod_eq_of_lt (Nat.lt_of_lt_of_le hb (by decide))
  have hx := Nat.xor_lt_two_pow ha hb
  simp only [Go.bits, BitVec.ofInt_natCast, BitVec.toNat_xor, BitVec.toNat_ofNat, ha', hb']
  exact wraps_i64 _ (Int.natCast_nonneg _) (by exact_mod_cast hx)
theorem u64_and' (a b : Nat) (ha : a < 2 ^ 64) (hb : b < 2 ^ 64) : Go.bits .and .u64 (a : Int) (b : Int) = ((a &&& b : Nat) : Int) := (bits_nat .u64 64 (by decide) wraps_u64 a b ha hb).1
theorem xor_ones (n : Nat) (h : n < 65536) : n ^^^ 65535 = 65535 - n := by
  have e := BitVec.toNat_not (x := BitVec.ofNat 16 n)
  rw [← BitVec.xor_allOnes, BitVec.toNat_xor, BitVec.toNat_ofNat, BitVec.toNat_allOnes] at e
  rw [Nat.mod_eq_of_lt (show n < 2 ^ 16 from h)] at e
  have h2 : (2 : Nat) ^ 16 - 1 = 65535 := by decide
  rw [h2] at e
  rw [e]
theorem i64_xor_ones (n : Nat) (h : n < 65536) : Go.bits .xor .i64 (n : Int) 65535 = ((65535 - n : Nat) : Int) := by
  have e := i64_xor n 65535 (by omega) (by decide)
  rw [xor_ones n h] at e
  exact e
end Go.Proofs.Ytcmalglippmocaa.Pal
end

section
/- Plain theory of numbers by bytes, the highest first. No program in it. -/
namespace Go.Proofs.Ytcmalglippmocaa.Pal
/-- The number of bytes, the highest first. -/
def be (l : List UInt8) : Nat := l.foldl (fun a b => a * 256 + b.toNat) 0
theorem be_snoc (l : List UInt8) (b : UInt8) : be (l ++ [b]) = be l * 256 + b.toNat := by simp [be]
theorem be_foldl (l : List UInt8) : ∀ a, l.foldl (fun a b => a * 256 + b.toNat) a = a * 256 ^ l.length + be l := by
  induction l with
  | nil => intro a; simp [be]
  | cons x l ih =>
    intro a
    rw [List.foldl_cons, ih]
    have e : be (x :: l) = x.toNat * 256 ^ l.length + be l := by
      unfold be
      rw [List.foldl_cons, ih]
      simp [be]
    rw [e, List.length_cons, Nat.pow_succ, Nat.add_mul, Nat.mul_assoc, Nat.mul_comm 256, Nat.add_assoc]
theorem be_cons (x : UInt8) (l : List UInt8) : be (x :: l) = x.toNat * 256 ^ l.length + be l := by
  unfold be
  rw [List.foldl_cons, be_foldl]
  simp [be]
theorem be_lt (l : List UInt8) : be l < 256 ^ l.length := by
  induction l with
  | nil => simp [be]
  | cons x l ih =>
    rw [be_cons, List.length_cons, Nat.pow_succ]
    have hx := x.toNat_lt
    have : x.toNat * 256 ^ l.length ≤ 255 * 256 ^ l.length := Nat.mul_le_mul_right _ (by omega)
    omega
theorem be_lt_of (l : List UInt8) (n : Nat) (h : l.length ≤ n) : be l < 256 ^ n := Nat.lt_of_lt_of_le (be_lt l) (Nat.pow_le_pow_right (by decide) h)
end Go.Proofs.Ytcmalglippmocaa.Pal
end

section
/- By hand: wire's Reader: each method's contract over a reader's block. -/
namespace Go.Proofs.Ytcmalglippmocaa.G
open Go.RowKit Go.Proofs.YtcmalglippmocaaW.PrintWords Go.Proofs.YtcmalglippmocaaW.PrintLast Go.Proofs.YtcmalglippmocaaW.PrintMore Go.Proofs.Ytcmalglippmocaa.Pal
set_option linter.unusedVariables false
set_option linter.unusedSimpArgs false

/-- Block R is a reader of s that has read so many bytes. -/
def Rd (w : World) (R : Nat) (s : ByteArray) (n : Nat) : Prop := Blk w R 135 #[.string s, .int .i64 (n : Int)] ∧ n ≤ s.size ∧ s.size ≤ 140737488351232
def stopV (e : Int) : Value := .iface 133 (.agg #[.int .i64 e])
def stopped (e : Int) : Ending := .panicked [{ v := stopV e, recovered := false }]
theorem Rd.facts {w : World} {R : Nat} {s : ByteArray} {n : Nat} (h : Rd w R s n) :
    w.cell? ⟨R, 0, none⟩ = some (.string s) ∧ w.cell? ⟨R, 1, none⟩ = some (.int .i64 (n : Int)) ∧ w.frozen? ⟨R, 1, none⟩ = false :=
  ⟨h.1.cell 0 _ rfl, h.1.cell 1 _ rfl, h.1.free 1⟩
theorem Rd.step {w : World} {R : Nat} {s : ByteArray} {n : Nat} (h : Rd w R s n) (m : Nat) (hm : m ≤ s.size) : Rd (w.setCell ⟨R, 1, none⟩ (.int .i64 (m : Int))) R s m := ⟨h.1.set 1 _, hm, h.2.2⟩
theorem Rd.below {w w' : World} {R : Nat} {s : ByteArray} {n : Nat} (h : Rd w R s n) (hb : Below w.heap.size w w') : Rd w' R s n := ⟨h.1.below hb h.1.lt, h.2⟩

set_option maxHeartbeats 400000 in
theorem Reader_Left.calls (R : Nat) (s : ByteArray) (n : Nat) (w : World) (h : Rd w R s n) :
    Calls Try.prog 73 #[.pointer (some ⟨R, 0, none⟩)] w fun e w' => e = .returned (.int .i64 ((s.size : Int) - n)) ∧ ∃ k, w' = w.drewN k := by
  obtain ⟨c0, c1, c2⟩ := h.facts
  have hn := h.2.1
  have hs := h.2.2
  clear h
  go_enter Try.func73, Try.ntmps73
  go_wp2
  go_quiet (fail)
  go_wp2
  go_ret
  exact ⟨rfl, _, rfl⟩

set_option maxHeartbeats 400000 in
theorem Reader_Need.yes (R : Nat) (e : Int) (w : World) :
    Calls Try.prog 67 #[.pointer (some ⟨R, 0, none⟩), .bool true, .int .i64 e] w fun e w' => e = .returned (.tuple #[]) ∧ w' = w := by
  go_enter Try.func67, Try.ntmps67
  go_wp2
  go_end0
  exact ⟨rfl, rfl⟩

set_option maxHeartbeats 400000 in
theorem Reader_Need.no (R : Nat) (e : Int) (w : World) :
    Calls Try.prog 67 #[.pointer (some ⟨R, 0, none⟩), .bool false, .int .i64 e] w fun e1 w' => e1 = stopped e ∧ w' = w := by
  go_enter Try.func67, Try.ntmps67
  go_wp2
  exact ⟨rfl, rfl, rfl⟩

set_option maxHeartbeats 800000 in
theorem Reader_Take.yes (R : Nat) (s : ByteArray) (n : Nat) (m : Nat) (w : World) (h : Rd w R s n) (hm : n + m ≤ s.size) :
    Calls Try.prog 70 #[.pointer (some ⟨R, 0, none⟩), .int .i64 (m : Int)] w fun e w' =>
      e = .returned (.string (s.extract n (n + m))) ∧ ∃ k j, w' = ((w.drewN k).setCell ⟨R, 1, none⟩ (.int .i64 ((n + m : Nat) : Int))).drewN j := by
  have hn := h.2.1
  have hs := h.2.2
  have g1 : decide ((0 : Int) ≤ (m : Int)) = true := by simp
  have g2 : decide ((m : Int) ≤ (s.size : Int) - n) = true := by simp; omega
  go_enter Try.func70, Try.ntmps70
  go_wp2_with fail
  refine (Reader_Left.calls R s n _ h).mono ?_
  rintro e w1 ⟨rfl, k, rfl⟩
  have h1 := (show Rd (w.drewN k) R s n from h)
  go_wp2_with fail
  refine (Reader_Need.yes R 2 _).mono ?_
  rintro e w1 ⟨rfl, hw⟩
  subst hw
  obtain ⟨c0, c1, c2⟩ := h1.facts
  have h2 := h1.step (n + m) hm
  obtain ⟨d0, d1, d2⟩ := h2.facts
  have e1 : (((n + m : Nat) : Int)) = (n : Int) + m := by omega
  rw [e1] at d0 d1
  have h2' := Aside0.mk h2
  clear h2 h1 h
  go_wp2
  have hwn : IntKind.i64.wrap (n : Int) = n := wraps_i64 _ (by omega) (by omega)
  have hsl : ∀ wx : World, (Instr.slice 9 (.string s) (some (.int .i64 (n : Int))) (some (.int .i64 ((n : Int) + m))) none).run Try.prog wx = .ok (.string (s.extract n (n + m))) wx := fun wx => by
    have := run_slice_string (P := Try.prog) wx 9 s .i64 .i64 (n : Int) ((n : Int) + m) Try.underlying9 (by omega) (by omega) (by omega)
    rwa [Int.toNat_natCast, ← e1, Int.toNat_natCast] at this
  go_quiet (fail)
  clear hwn hsl
  go_wp2
  go_ret
  exact ⟨rfl, _, _, by rw [e1]⟩

set_option maxHeartbeats 800000 in
theorem Reader_Take.no (R : Nat) (s : ByteArray) (n : Nat) (m : Int) (w : World) (h : Rd w R s n) (hm : m < 0 ∨ (s.size : Int) < n + m) :
    Calls Try.prog 70 #[.pointer (some ⟨R, 0, none⟩), .int .i64 m] w fun e w' =>
      e = stopped 2 ∧ ∃ k, w' = w.drewN k := by
  have hn := h.2.1
  have hs := h.2.2
  by_cases h0 : 0 ≤ m
  · have g1 : decide ((0 : Int) ≤ m) = true := by simp; omega
    have g2 : decide (m ≤ (s.size : Int) - n) = false := by simp; omega
    clear h0 hm
    go_enter Try.func70, Try.ntmps70
    go_wp2_with fail
    refine (Reader_Left.calls R s n _ h).mono ?_
    rintro e w1 ⟨rfl, k, rfl⟩
    go_wp2_with fail
    refine (Reader_Need.no R 2 _).mono ?_
    rintro e w1 ⟨rfl, hw⟩
    subst hw
    exact ⟨rfl, rfl, _, rfl⟩
  · have g1 : decide ((0 : Int) ≤ m) = false := by simp; omega
    clear h0 hm
    go_enter Try.func70, Try.ntmps70
    go_wp2_with fail
    refine (Reader_Need.no R 2 _).mono ?_
    rintro e w1 ⟨rfl, hw⟩
    subst hw
    exact ⟨rfl, rfl, 0, rfl⟩


/-- What a reading that goes on leaves: so many bytes more are read; of the other blocks all is as it was. -/
def Went (w w' : World) (R : Nat) (s : ByteArray) (n : Nat) : Prop := w.grownBy w' (some R) ∧ Rd w' R s n
theorem Went.take {w : World} {R : Nat} {s : ByteArray} {n : Nat} (h : Rd w R s n) (m : Nat) (hm : n + m ≤ s.size) (k j : Nat) :
    Went w (((w.drewN k).setCell ⟨R, 1, none⟩ (.int .i64 ((n + m : Nat) : Int))).drewN j) R s (n + m) :=
  ⟨grown_drewN (World.grownBy.trans (grown_drewN (grown_refl w _) k) (grown_setCell _ _ _ _)) j, ((show Rd (w.drewN k) R s n from h).step (n + m) hm)⟩

set_option maxHeartbeats 400000 in
theorem Reader_Rest.calls (R : Nat) (s : ByteArray) (n : Nat) (w : World) (h : Rd w R s n) :
    Calls Try.prog 71 #[.pointer (some ⟨R, 0, none⟩)] w fun e w' => e = .returned (.string (s.extract n s.size)) ∧ Went w w' R s s.size := by
  have hn := h.2.1
  go_enter Try.func71, Try.ntmps71
  go_wp2_with fail
  refine (Reader_Left.calls R s n _ h).mono ?_
  rintro e w1 ⟨rfl, k, rfl⟩
  have h1 := (show Rd (w.drewN k) R s n from h)
  go_wp2_with fail
  rw [show ((s.size : Int) - n) = ((s.size - n : Nat) : Int) from by omega]
  refine (Reader_Take.yes R s n (s.size - n) _ h1 (by omega)).mono ?_
  rintro e w1 ⟨rfl, k1, j1, rfl⟩
  have HW := Aside0.mk (Went.take h1 (s.size - n) (by omega) k1 j1)
  have hsz : n + (s.size - n) = s.size := by omega
  rw [hsz] at HW ⊢
  generalize (((w.drewN k).drewN k1).setCell ⟨R, 1, none⟩ (.int .i64 ((s.size : Nat) : Int))).drewN j1 = w2 at HW ⊢
  clear hsz
  go_wp2
  go_ret
  exact ⟨rfl, World.grownBy.trans (grown_drewN (grown_refl w _) k) HW.out.1, HW.out.2⟩

theorem shl_or (x : Nat) (b : UInt8) (hx : x < 72057594037927936) : Go.bits .or .u64 ((x : Int) * 256) (b.toNat : Int) = ((x * 256 + b.toNat : Nat) : Int) := by
  have hb := b.toNat_lt
  have e := u64_or_nat (x * 256) b.toNat (by omega) (by omega)
  rw [nat_join 8 (x * 256) b.toNat (by omega) (by omega)] at e
  rw [← e]
  simp
set_option maxHeartbeats 800000 in
theorem Reader_number.yes (R : Nat) (s : ByteArray) (n : Nat) (m : Nat) (w : World) (h : Rd w R s n) (hm : n + m ≤ s.size) (h8 : m ≤ 8) :
    Calls Try.prog 83 #[.pointer (some ⟨R, 0, none⟩), .int .i64 (m : Int)] w fun e w' =>
      e = .returned (.int .u64 (be (bl (s.extract n (n + m))) : Nat)) ∧ Went w w' R s (n + m) := by
  have hs := h.2.2
  go_enter Try.func83, Try.ntmps83
  go_wp2_with fail
  refine (Reader_Take.yes R s n m _ h hm).mono ?_
  rintro e w1 ⟨rfl, k1, j1, rfl⟩
  have HW := Aside0.mk (Went.take h m hm k1 j1)
  have hsz : (s.extract n (n + m)).size = m := by simp only [ByteArray.size_extract]; omega
  generalize ((w.drewN k1).setCell ⟨R, 1, none⟩ (.int .i64 ((n + m : Nat) : Int))).drewN j1 = w2 at HW ⊢
  generalize hte : s.extract n (n + m) = t at hsz ⊢
  have HE := Aside0.mk hte
  have HS := Aside0.mk hsz
  clear hsz h hte
  have hcv := fun (wx : World) => Lib.run_convert_string_bytes (P := Try.prog) wx 9 31 5 t Try.underlying9 Try.underlying31 Try.underlying5
  go_wp2
  clear hcv
  have hB : Below w2.heap.size w2 (Lib.bytesWorld w2 5 t) := ⟨rfl, rfl, rfl, by rw [Lib.bytesWorld_size]; omega, fun k hk => Lib.bytesWorld_at_old _ _ _ _ hk⟩
  have hC : ∀ j, j < t.size → (Lib.bytesWorld w2 5 t).cell? ⟨w2.heap.size, j, none⟩ = some (.int .u8 ((bl t).getD j 0).toNat) := fun j hj => Lib.bytesWorld_cell _ _ _ _ hj
  generalize Lib.bytesWorld w2 5 t = w3 at hB hC ⊢
  have HB := Aside0.mk hB
  have HC := Aside0.mk hC
  clear hB hC
  go_loopg [5, 13] t.size (fun kq v5 v13 wr => ∃ j : Nat, v13 = .int .i64 (j : Int) ∧ v5 = .int .u64 (be ((bl t).take j) : Nat) ∧ Aside0 (j + kq = t.size) ∧ Aside0 (wr = w3))
  case atStart => exact ⟨0, rfl, rfl, ⟨by omega⟩, ⟨rfl⟩⟩
  case round =>
    obtain ⟨j, rfl, rfl, HK, HEw⟩ := hrel
    obtain rfl := HEw.out
    clear HEw
    by_cases hlt : j < t.size
    · have hcell := HC.out j hlt
      have hx : be ((bl t).take j) < 72057594037927936 := by
        have := be_lt_of ((bl t).take j) 7 (by rw [List.length_take, bl_length]; have := HS.out; omega)
        simpa using this
      have HT : Aside0 ((bl t).take (j + 1) = (bl t).take j ++ [(bl t).getD j 0]) := ⟨by
        rw [List.take_succ_eq_append_getElem (by rw [bl_length]; exact hlt), List.getD_eq_getElem?_getD, List.getElem?_eq_getElem (by rw [bl_length]; exact hlt)]
        rfl⟩
      generalize (bl t).getD j 0 = b at hcell HT
      have hor := shl_or (be ((bl t).take j)) b hx
      have HN : Aside0 (be ((bl t).take (j + 1)) = be ((bl t).take j) * 256 + b.toNat) := ⟨by rw [HT.out, be_snoc]⟩
      generalize be ((bl t).take j) = x at hx hor HN ⊢
      have hw : wrap64 ((j : Int) + 1) = ((j + 1 : Nat) : Int) := by have := HS.out; unfold wrap64; omega
      go_wp2
      go_roundg (t.size - (j + 1))
      case measure => have := HK.out; omega
      case rel => exact ⟨j + 1, by rw [hw], by rw [show IntKind.u64.wrap (b.toNat : Int) = (b.toNat : Int) from by have := b.toNat_lt; exact wraps_u64 _ (by omega) (by omega), hor, HN.out], ⟨by omega⟩, ⟨rfl⟩⟩
    · have HT : Aside0 ((bl t).take j = bl t) := ⟨List.take_of_length_le (by rw [bl_length]; omega)⟩
      rw [HT.out]
      go_wp2
      go_ret
      exact ⟨by rw [← HE.out]; rfl, grown_of_below' HW.out.1 HB.out, HW.out.2.below HB.out⟩

set_option maxHeartbeats 800000 in
theorem Reader_number.no (R : Nat) (s : ByteArray) (n : Nat) (m : Nat) (w : World) (h : Rd w R s n) (hm : s.size < n + m) :
    Calls Try.prog 83 #[.pointer (some ⟨R, 0, none⟩), .int .i64 (m : Int)] w fun e w' =>
      e = stopped 2 ∧ ∃ k, w' = w.drewN k := by
  go_enter Try.func83, Try.ntmps83
  go_wp2_with fail
  refine (Reader_Take.no R s n m _ h (.inr (by omega))).mono ?_
  rintro e w1 ⟨rfl, k1, rfl⟩
  exact ⟨rfl, rfl, _, rfl⟩

theorem be_small_U8 (s : ByteArray) (n : Nat) : be (bl (s.extract n (n + 1))) < 256 := by
  have := be_lt_of (bl (s.extract n (n + 1))) 1 (by rw [bl_length]; simp only [ByteArray.size_extract]; omega)
  simpa using this

set_option maxHeartbeats 400000 in
theorem Reader_U8.yes (R : Nat) (s : ByteArray) (n : Nat) (w : World) (h : Rd w R s n) (hm : n + 1 ≤ s.size) :
    Calls Try.prog 68 #[.pointer (some ⟨R, 0, none⟩)] w fun e w' => e = .returned (.int .i64 (be (bl (s.extract n (n + 1))) : Nat)) ∧ Went w w' R s (n + 1) := by
  have hw : wrap64 ((be (bl (s.extract n (n + 1))) : Nat) : Int) = ((be (bl (s.extract n (n + 1))) : Nat) : Int) := by have := be_small_U8 s n; unfold wrap64; omega
  go_enter Try.func68, Try.ntmps68
  go_wp2_with fail
  refine (Reader_number.yes R s n 1 _ h hm (by decide)).mono ?_
  rintro e w1 ⟨rfl, hw1⟩
  have HW := Aside0.mk hw1
  clear hw1
  go_wp2
  go_ret
  exact ⟨by first | rfl | exact congrArg (fun z => Ending.returned (.int .i64 z)) hw, HW.out⟩
set_option maxHeartbeats 400000 in
theorem Reader_U8.no (R : Nat) (s : ByteArray) (n : Nat) (w : World) (h : Rd w R s n) (hm : s.size < n + 1) :
    Calls Try.prog 68 #[.pointer (some ⟨R, 0, none⟩)] w fun e w' => e = stopped 2 ∧ ∃ k, w' = w.drewN k := by
  go_enter Try.func68, Try.ntmps68
  go_wp2_with fail
  refine (Reader_number.no R s n 1 _ h hm).mono ?_
  rintro e w1 ⟨rfl, k1, rfl⟩
  exact ⟨rfl, rfl, _, rfl⟩

theorem be_small_U16 (s : ByteArray) (n : Nat) : be (bl (s.extract n (n + 2))) < 65536 := by
  have := be_lt_of (bl (s.extract n (n + 2))) 2 (by rw [bl_length]; simp only [ByteArray.size_extract]; omega)
  simpa using this

set_option maxHeartbeats 400000 in
theorem Reader_U16.yes (R : Nat) (s : ByteArray) (n : Nat) (w : World) (h : Rd w R s n) (hm : n + 2 ≤ s.size) :
    Calls Try.prog 69 #[.pointer (some ⟨R, 0, none⟩)] w fun e w' => e = .returned (.int .i64 (be (bl (s.extract n (n + 2))) : Nat)) ∧ Went w w' R s (n + 2) := by
  have hw : wrap64 ((be (bl (s.extract n (n + 2))) : Nat) : Int) = ((be (bl (s.extract n (n + 2))) : Nat) : Int) := by have := be_small_U16 s n; unfold wrap64; omega
  go_enter Try.func69, Try.ntmps69
  go_wp2_with fail
  refine (Reader_number.yes R s n 2 _ h hm (by decide)).mono ?_
  rintro e w1 ⟨rfl, hw1⟩
  have HW := Aside0.mk hw1
  clear hw1
  go_wp2
  go_ret
  exact ⟨by first | rfl | exact congrArg (fun z => Ending.returned (.int .i64 z)) hw, HW.out⟩
set_option maxHeartbeats 400000 in
theorem Reader_U16.no (R : Nat) (s : ByteArray) (n : Nat) (w : World) (h : Rd w R s n) (hm : s.size < n + 2) :
    Calls Try.prog 69 #[.pointer (some ⟨R, 0, none⟩)] w fun e w' => e = stopped 2 ∧ ∃ k, w' = w.drewN k := by
  go_enter Try.func69, Try.ntmps69
  go_wp2_with fail
  refine (Reader_number.no R s n 2 _ h hm).mono ?_
  rintro e w1 ⟨rfl, k1, rfl⟩
  exact ⟨rfl, rfl, _, rfl⟩

theorem be_small_U32 (s : ByteArray) (n : Nat) : be (bl (s.extract n (n + 4))) < 4294967296 := by
  have := be_lt_of (bl (s.extract n (n + 4))) 4 (by rw [bl_length]; simp only [ByteArray.size_extract]; omega)
  simpa using this

set_option maxHeartbeats 400000 in
theorem Reader_U32.yes (R : Nat) (s : ByteArray) (n : Nat) (w : World) (h : Rd w R s n) (hm : n + 4 ≤ s.size) :
    Calls Try.prog 74 #[.pointer (some ⟨R, 0, none⟩)] w fun e w' => e = .returned (.int .u32 (be (bl (s.extract n (n + 4))) : Nat)) ∧ Went w w' R s (n + 4) := by
  have hw : IntKind.u32.wrap ((be (bl (s.extract n (n + 4))) : Nat) : Int) = ((be (bl (s.extract n (n + 4))) : Nat) : Int) := by have := be_small_U32 s n; exact wraps_u32 _ (by omega) (by omega)
  go_enter Try.func74, Try.ntmps74
  go_wp2_with fail
  refine (Reader_number.yes R s n 4 _ h hm (by decide)).mono ?_
  rintro e w1 ⟨rfl, hw1⟩
  have HW := Aside0.mk hw1
  clear hw1
  go_wp2
  go_ret
  exact ⟨by first | rfl | exact congrArg (fun z => Ending.returned (.int .i64 z)) hw, HW.out⟩
set_option maxHeartbeats 400000 in
theorem Reader_U32.no (R : Nat) (s : ByteArray) (n : Nat) (w : World) (h : Rd w R s n) (hm : s.size < n + 4) :
    Calls Try.prog 74 #[.pointer (some ⟨R, 0, none⟩)] w fun e w' => e = stopped 2 ∧ ∃ k, w' = w.drewN k := by
  go_enter Try.func74, Try.ntmps74
  go_wp2_with fail
  refine (Reader_number.no R s n 4 _ h hm).mono ?_
  rintro e w1 ⟨rfl, k1, rfl⟩
  exact ⟨rfl, rfl, _, rfl⟩

end Go.Proofs.Ytcmalglippmocaa.G
end

section
/- By hand: wire.Read: whatever closure reads, its end is the error that is told: OK where it comes back, the number where a Need stopped it. -/
namespace Go.Proofs.Ytcmalglippmocaa.G
open Go.RowKit Go.Proofs.YtcmalglippmocaaW.PrintWords Go.Proofs.YtcmalglippmocaaW.PrintLast Go.Proofs.YtcmalglippmocaaW.PrintMore Go.Proofs.Ytcmalglippmocaa.Pal
set_option linter.unusedVariables false
set_option linter.unusedSimpArgs false

/-- How a reading's closure ends: it comes back (0), or is stopped with an error. -/
def did (e : Int) : Ending := if e = 0 then .returned (.tuple #[]) else stopped e

theorem stop_is (v : Value) (W : World) : (Instr.typeAssert (.iface 133 v) 20 133 true).run Try.prog W = .ok (.tuple #[v, .bool true]) W := by kernel_rfl

set_option maxHeartbeats 400000 in
theorem Read1_caught (p : Nat) (x e : Int) (w : World) (hc : w.cell? ⟨p, 0, none⟩ = some (.int .i64 x)) (hz : w.frozen? ⟨p, 0, none⟩ = false) (hp : p < w.heap.size) :
    CallsD Try.prog 82 #[.pointer (some ⟨p, 0, none⟩)] (.panicking [{ v := stopV e, recovered := false }]) w fun e1 u' w' =>
      e1 = .returned (.tuple #[]) ∧ u' = .panicking [{ v := stopV e, recovered := true }] ∧ w' = (w.setCell ⟨p, 0, none⟩ (.int .i64 e)).alloc (.cells #[.int .i64 e] 133) := by
  have hta : ∀ (v : Value) (W : World), (Instr.typeAssert (.iface 133 v) 20 133 true).run Try.prog W = .ok (.tuple #[v, .bool true]) W := stop_is
  refine callsD_of_wpS Try.func82 rfl fun c₀ cs hu => ?_
  simp only [Try.ntmps82, List.size_toArray, List.length_cons, List.length_nil, Nat.reduceAdd, Nat.reduceSub, Array.replicate_succ,
     Array.replicate_zero, List.push_toArray, List.append_toArray, List.nil_append, List.cons_append]
  apply wpS_seq
  apply wpS_region
  simp [wpOpsS, go_sem, recoverD, hu, Exit.thenS, stopV]
  apply wpS_of_wp
  go_wp2
  exact ⟨rfl, _, rfl, _, results_none rfl _ _ _, rfl, rfl, rfl⟩

set_option maxHeartbeats 400000 in
theorem Read1_idle (p : Nat) (w : World) :
    CallsD Try.prog 82 #[.pointer (some ⟨p, 0, none⟩)] .returning w fun e1 u' w' => e1 = .returned (.tuple #[]) ∧ u' = .returning ∧ w' = w := by
  refine callsD_of_wpS Try.func82 rfl fun c₀ cs hu => ?_
  simp only [Try.ntmps82, List.size_toArray, List.length_cons, List.length_nil, Nat.reduceAdd, Nat.reduceSub, Array.replicate_succ,
     Array.replicate_zero, List.push_toArray, List.append_toArray, List.nil_append, List.cons_append]
  apply wpS_seq
  apply wpS_region
  simp [wpOpsS, go_sem, recoverD, hu, Exit.thenS]
  apply wpS_of_wp
  go_wp2
  refine ⟨rfl, .returning, ?_, _, results_none rfl _ _ _, rfl, rfl, rfl⟩
  cases c₀
  simp_all

/-- The world in which the closure begins: the result's variable, then the reader. -/
def readW (w : World) (s : ByteArray) : World := (w.alloc (.cells #[.int .i64 0] 25)).alloc (.cells #[.string s, .int .i64 0] 135)
theorem readW_rd (w : World) (s : ByteArray) (hs : s.size ≤ 140737488351232) : Rd (readW w s) (w.heap.size + 1) s 0 := by
  have h := Blk.new (w.alloc (.cells #[.int .i64 0] 25)) 135 #[.string s, .int .i64 0]
  rw [World.size_alloc] at h
  exact ⟨h, by omega, hs⟩
theorem readW_res (w : World) (s : ByteArray) : Blk (readW w s) w.heap.size 25 #[.int .i64 0] := (Blk.new w _ _).alloc _
theorem readW_below (w : World) (s : ByteArray) : Below w.heap.size w (readW w s) := ((Below.refl _ _).alloc (Nat.le_refl _) _).alloc (by simp) _
set_option maxHeartbeats 800000 in
theorem Read_calls (g : FuncId) (cap : Array Value) (s : ByteArray) (er : Int) (w : World) (Q : World → Prop)
    (hg : ∀ args w, (callFunc g args).run Try.prog w = .ok (.enter g args) w)
    (hdo : Calls Try.prog g (#[.pointer (some ⟨w.heap.size + 1, 0, none⟩)] ++ cap) (readW w s) fun e w2 => e = did er ∧ Blk w2 w.heap.size 25 #[.int .i64 0] ∧ Q w2) :
    Calls Try.prog 65 #[.string s, .func (.func g) #[] cap] w fun e w' => e = .returned (.int .i64 er) ∧ ∃ w2, Q w2 ∧ w2.grownBy w' (some w.heap.size) := by
  have hmf : ∀ (fn : Fn) (first cap : Array Value) (w : World), (Instr.makeFunc fn first cap).run Try.prog w = .ok (.func fn first cap) w := fun _ _ _ _ => rfl
  have HD := Lib.hid hdo
  clear hdo
  go_enter_defers Try.func65, Try.ntmps65
  go_wp2_with fail
  refine HD.out.mono ?_
  rintro e w2 ⟨rfl, hb, hq⟩
  have HQ := Lib.hid hq
  clear hq HD
  have c0 := hb.cell 0 _ rfl
  have c1 := hb.free 0
  have HB := Aside0.mk hb
  clear hb
  by_cases h0 : er = 0
  · subst h0
    rw [show did 0 = .returned (.tuple #[]) from rfl]
    go_wp2
    refine leaves_cons (f := 82) (args := #[.pointer (some ⟨w.heap.size, 0, none⟩)]) (by simp) (by simp [go_sem]) ?_
    refine (Read1_idle w.heap.size _).mono ?_
    rintro e u' w'' ⟨rfl, rfl, rfl⟩
    have c2 := (HB.out.set 0 (.int .i64 0)).cell 0 _ rfl
    refine ⟨.int .i64 0, ?_, rfl, w2, HQ.out, grown_setCell _ _ _ _⟩
    simp [results, Try.results65, go_sem]
    rw [c2]
    rfl
  · rw [show did er = stopped er from if_neg h0]
    refine leaves_cons (f := 82) (args := #[.pointer (some ⟨w.heap.size, 0, none⟩)]) (by simp) (by simp [go_sem]) ?_
    refine (Read1_caught w.heap.size 0 er w2 c0 c1 HB.out.lt).mono ?_
    rintro e u' w'' ⟨rfl, rfl, rfl⟩
    have c2 := (((HB.out.set 0 (.int .i64 er))).alloc (.cells #[.int .i64 er] 133)).cell 0 _ rfl
    refine ⟨.int .i64 er, ?_, rfl, w2, HQ.out, grown_alloc (grown_setCell _ _ _ _) _⟩
    simp [results, Try.results65, go_sem]
    rw [c2]
    rfl
end Go.Proofs.Ytcmalglippmocaa.G
end

section
/- By hand: sum.fold, sum.Sum's closure, sum.Sum: what they return is the plain checksum of all parts' bytes. -/
namespace Go.Proofs.Ytcmalglippmocaa.G
open Go.RowKit Go.Proofs.YtcmalglippmocaaW.PrintWords Go.Proofs.YtcmalglippmocaaW.PrintLast Go.Proofs.YtcmalglippmocaaW.PrintMore Go.Proofs.Ytcmalglippmocaa.Pal
set_option linter.unusedVariables false
set_option linter.unusedSimpArgs false

def sum_fold.f (a0 : Int) : Option Int := if 0 ≤ a0 ∧ a0 ≤ 18446744073709551615 then some ((fold16 a0.toNat : Nat) : Int) else none

def addW (t : Int) (o : Bool) (b : Int) : Int := t + if o then b else b * 256
set_option maxHeartbeats 400000 in
set_option maxRecDepth 100000 in
theorem sum_add.calls (b t : Int) (o : Bool) (po pt : Nat) (w : World) (hb0 : 0 ≤ b) (hb1 : b ≤ 255) (ht0 : 0 ≤ t) (ht1 : t ≤ 18446744073709486000)
    (h1 : w.cell? ⟨po, 0, none⟩ = some (.bool o)) (h2 : w.cell? ⟨pt, 0, none⟩ = some (.int .u64 t)) (f1 : w.frozen? ⟨po, 0, none⟩ = false) (f2 : w.frozen? ⟨pt, 0, none⟩ = false) (hne : ¬ po = pt) :
    Calls Try.prog 62 #[.int .u8 b, .pointer (some ⟨po, 0, none⟩), .pointer (some ⟨pt, 0, none⟩)] w fun e w' => e = .returned (.tuple #[]) ∧ w' = (w.setCell ⟨pt, 0, none⟩ (.int .u64 (addW t o b))).setCell ⟨po, 0, none⟩ (.bool (!o)) := by
  have hnot : ∀ (x : Bool) (w : World), (Op.unary .not (.bool x)).run Try.prog w = .ok (.bool (!x)) w := fun _ _ => rfl
  cases o
  · go_enter Try.func62, Try.ntmps62
    go_wp2
    go_end0
    exact ⟨rfl, by simp [addW]⟩
  · go_enter Try.func62, Try.ntmps62
    go_wp2
    go_end0
    exact ⟨rfl, by simp [addW]⟩

theorem and_low (x : Nat) (h : x ≤ 18446744073709551615) : Go.bits .and .u64 (x : Int) 65535 = ((x % 65536 : Nat) : Int) := by
  have e := u64_and' x 65535 (by omega) (by decide)
  rw [Nat.and_two_pow_sub_one_eq_mod x 16] at e
  exact e

set_option maxHeartbeats 400000 in
theorem sum_fold.calls (a0 : Int) (r : Int) (w : World) (h : sum_fold.f a0 = some r) :
    Calls Try.prog 43 #[.int .u64 a0] w fun e w' => e = .returned (.int .i64 r) ∧ Below w.heap.size w w' := by
  unfold sum_fold.f at h
  by_cases hc : 0 ≤ a0 ∧ a0 ≤ 18446744073709551615
  case neg => rw [if_neg hc] at h; exact absurd h (by simp)
  rw [if_pos hc] at h
  have H := Aside0.mk (Option.some.inj h)
  obtain ⟨h0, hk⟩ := hc
  clear h
  go_enter Try.func43, Try.ntmps43
  go_wp2
  go_loopg [0] a0.toNat (fun kq v0 w' => ∃ x : Nat, v0 = .int .u64 (x : Int) ∧ Aside0 (fold16 x = fold16 a0.toNat) ∧ Aside0 (x ≤ kq ∧ x ≤ 18446744073709551615) ∧ Aside0 (Below w.heap.size w w'))
  case atStart => exact ⟨a0.toNat, by rw [Int.toNat_of_nonneg h0], ⟨rfl⟩, ⟨by omega⟩, ⟨Below.refl _ _⟩⟩
  case round =>
    obtain ⟨x, rfl, HA, HK, HB⟩ := hrel
    have hx := HK.out.2
    clear hk h0
    by_cases hlt : 65535 < x
    · have e1 := and_low x hx
      go_wp2
      go_roundg (x % 65536 + x / 65536)
      case measure => have := HK.out; omega
      case rel => exact ⟨x % 65536 + x / 65536, by simp, ⟨by rw [fold16_step]; exact HA.out⟩, ⟨by omega⟩, HB⟩
    · have e2 : wrap64 (x : Int) = x := by unfold wrap64; omega
      have HX := Aside0.mk (fold16_id x (by omega))
      go_wp2
      go_ret
      exact ⟨by have h1 := H.out; have h2 := HA.out; have h3 := HX.out; rw [h2] at h3; rw [← h1, h3]; rfl, HB.out⟩

def SumInv (w wr : World) (bs : List UInt8) : Prop :=
  Below w.heap.size w wr ∧ wr.heap[w.heap.size]? = some (.cells #[.int .u64 (tot false bs : Nat)] 84 (0, 0)) ∧ wr.heap[w.heap.size + 1]? = some (.cells #[.bool (odd bs)] 4 (0, 0))
theorem SumInv.start (w : World) : SumInv w ((w.alloc (.cells #[.int .u64 0] 84)).alloc (.cells #[.bool false] 4)) [] := by
  refine ⟨((Below.refl _ _).alloc (Nat.le_refl _) _).alloc (by simp) _, ?_, ?_⟩
  · rw [Below.heap_alloc _ _ _ (by simp)]
    exact heap_alloc_new w _
  · have := heap_alloc_new (w.alloc (.cells #[.int .u64 0] 84)) (.cells #[.bool false] 4)
    rwa [World.size_alloc] at this
theorem SumInv.step {w wr : World} {bs : List UInt8} (h : SumInv w wr bs) (b : UInt8) :
    SumInv w ((wr.setCell ⟨w.heap.size, 0, none⟩ (.int .u64 (addW (tot false bs : Nat) (odd bs) (b.toNat : Int)))).setCell ⟨w.heap.size + 1, 0, none⟩ (.bool (!odd bs))) (bs ++ [b]) := by
  obtain ⟨h1, h2, h3⟩ := h
  refine ⟨(h1.setCell (by simp) _).setCell (by simp) _, ?_, ?_⟩
  · rw [Below.heap_setCell _ _ _ _ (by simp), one_setCell h2, tot_snoc, addW]
    cases odd bs <;> simp
  · rw [odd_snoc]
    exact one_setCell (by rw [Below.heap_setCell _ _ _ _ (by simp)]; exact h3)

theorem SumInv.facts {w wr : World} {bs : List UInt8} (h : SumInv w wr bs) :
    wr.cell? ⟨w.heap.size, 0, none⟩ = some (.int .u64 (tot false bs : Nat)) ∧ wr.frozen? ⟨w.heap.size, 0, none⟩ = false ∧ wr.cell? ⟨w.heap.size + 1, 0, none⟩ = some (.bool (odd bs)) ∧ wr.frozen? ⟨w.heap.size + 1, 0, none⟩ = false :=
  ⟨cell_of_one h.2.1, free_of_one h.2.1, cell_of_one h.2.2, free_of_one h.2.2⟩

set_option maxHeartbeats 400000 in
theorem sum_Sum.walk (A0 : Option Addr) (c0 : Nat) (l0 : List ByteArray) (w : World) (hr0 : Kd.C Kd.string w A0 l0.length l0) (hc0 : l0.length ≤ c0) (hs : (cat l0).length ≤ 1099511627776) :
    Calls Try.prog 40 #[.slice A0 l0.length c0] w fun e w' => e = .returned (.int .i64 (csum (cat l0) : Nat)) ∧ Below w.heap.size w w' := by
  have hmf : ∀ (fn : Fn) (first cap : Array Value) (w : World), (Instr.makeFunc fn first cap).run Try.prog w = .ok (.func fn first cap) w := fun _ _ _ _ => rfl
  have HR := Aside0.mk hr0
  have HS := Aside0.mk hs
  clear hr0 hs
  go_enter Try.func40, Try.ntmps40
  go_wp2
  go_loopg [12] l0.length (fun kq v12 wr => ∃ i : Nat, v12 = .int .i64 (i : Int) ∧ Aside0 (i + kq = l0.length) ∧ SumInv w wr (cat (l0.take i)))
  case atStart => exact ⟨0, rfl, ⟨by omega⟩, SumInv.start w⟩
  case round =>
    obtain ⟨i, rfl, HK, HI⟩ := hrel
    by_cases hlt : i < l0.length
    · obtain ⟨ad, rfl, hcell⟩ := Kd.at_string (Kd.C_below HR.out HI.1) (i : Int) (by omega) (by omega)
      rw [Int.toNat_natCast] at hcell
      have HP : Aside0 (rdOf ByteArray.empty l0 (i : Int) = l0[i]) := ⟨by simp [rdOf, List.getD_eq_getElem?_getD, List.getElem?_eq_getElem hlt]⟩
      generalize rdOf ByteArray.empty l0 (i : Int) = p at hcell HP
      have HL : Aside0 ((cat (l0.take i)).length + p.size ≤ 1099511627776) := ⟨by
        have h1 := HS.out
        have h2 : cat l0 = cat (l0.take i) ++ (bl p ++ cat (l0.drop (i + 1))) := by
          conv => lhs; rw [← List.take_append_drop i l0]
          rw [List.drop_eq_getElem_cons hlt, ← HP.out]
          simp [cat]
        rw [h2, List.length_append, List.length_append, bl_length] at h1
        omega⟩
      go_wp2
      obtain ⟨wo, rfl⟩ : ∃ wo : World, wo = wr := ⟨_, rfl⟩
      clear hcell
      go_loopg [18] p.size (fun kq v18 wr => ∃ j : Nat, v18 = .int .i64 (j : Int) ∧ Aside0 (j + kq = p.size) ∧ SumInv w wr (cat (l0.take i) ++ (bl p).take j))
      case atStart => exact ⟨0, rfl, ⟨by omega⟩, by rw [List.take_zero, List.append_nil]; exact HI⟩
      case round =>
        obtain ⟨j, rfl, HKj, HJ⟩ := hrel
        by_cases hj : j < p.size
        · obtain ⟨c1, c2, c3, c4⟩ := HJ.facts
          have htot := tot_le (cat (l0.take i) ++ (bl p).take j) false
          have hlen : (cat (l0.take i) ++ (bl p).take j).length ≤ 1099511627776 := by
            have := HL.out
            rw [List.length_append, List.length_take, bl_length]
            omega
          have HT : Aside0 ((bl p).take (j + 1) = (bl p).take j ++ [p[j]]) := ⟨by
            rw [List.take_succ_eq_append_getElem (by rw [bl_length]; exact hj)]
            rfl⟩
          have hbyte := p[j].toNat_lt
          have hw : wrap64 ((j : Int) + 1) = ((j + 1 : Nat) : Int) := by have := HL.out; unfold wrap64; omega
          go_wp2_with fail
          refine (sum_add.calls _ _ _ _ _ _ (by omega) (by omega) (by omega) (by omega) c3 c1 c4 c2 (by omega)).mono ?_
          rintro e w' ⟨rfl, rfl⟩
          have HN := Aside0.mk (HJ.step p[j])
          clear c1 c2 c3 c4
          go_wp2
          go_roundg (p.size - (j + 1))
          case measure => have := HKj.out; omega
          case rel => exact ⟨j + 1, by first | rfl | rw [hw], ⟨by have := HKj.out; omega⟩, by rw [HT.out, ← List.append_assoc]; exact HN.out⟩
        · have HT : Aside0 ((bl p).take j = bl p) := ⟨List.take_of_length_le (by rw [bl_length]; omega)⟩
          have HT2 : Aside0 (cat (l0.take (i + 1)) = cat (l0.take i) ++ bl p) := ⟨by
            rw [List.take_succ_eq_append_getElem hlt, ← HP.out]
            simp [cat]⟩
          have hlen : l0.length ≤ 9223372036854775807 := HR.out.2.1
          have hw : wrap64 ((i : Int) + 1) = ((i + 1 : Nat) : Int) := by unfold wrap64; omega
          go_wp2
          go_roundg (l0.length - (i + 1))
          case measure => have := HK.out; omega
          case rel => exact ⟨i + 1, by rfl, ⟨by omega⟩, by rw [HT2.out, ← HT.out]; exact HJ⟩
    · have HT : Aside0 (l0.take i = l0) := ⟨List.take_of_length_le (by omega)⟩
      rw [HT.out] at HI
      obtain ⟨c1, c2, c3, c4⟩ := HI.facts
      have htot := tot_le (cat l0) false
      have hlen := HS.out
      have hfold := fold16_le (tot false (cat l0))
      have hx := i64_xor_ones (fold16 (tot false (cat l0))) (by omega)
      go_wp2_with fail
      refine (sum_fold.calls _ ((fold16 (tot false (cat l0)) : Nat) : Int) _ (by unfold sum_fold.f; rw [if_pos (by omega), Int.toNat_natCast])).mono ?_
      rintro e w' ⟨rfl, hB⟩
      have HB := Aside0.mk hB
      have HI' := Aside0.mk HI
      clear hB HI c1 c2 c3 c4 htot hlen
      go_wp2
      go_ret
      exact ⟨rfl, HI'.out.1.trans (HB.out.mono HI'.out.1.size)⟩

def sum_Sum.f (l0 : List ByteArray) : Option Int := if (cat l0).length ≤ 1099511627776 then some (csum (cat l0) : Nat) else none
theorem sum_Sum.calls (A0 : Option Addr) (c0 : Nat) (l0 : List ByteArray) (r : Int) (w : World) (hr0 : Kd.C Kd.string w A0 l0.length l0) (hc0 : l0.length ≤ c0) (h : sum_Sum.f l0 = some r) :
    Calls Try.prog 40 #[.slice A0 l0.length c0] w fun e w' => e = .returned (.int .i64 r) ∧ Below w.heap.size w w' := by
  unfold sum_Sum.f at h
  by_cases hs : (cat l0).length ≤ 1099511627776
  · rw [if_pos hs] at h
    obtain rfl := Option.some.inj h
    exact sum_Sum.walk A0 c0 l0 w hr0 hc0 hs
  · rw [if_neg hs] at h
    exact absurd h (by simp)
end Go.Proofs.Ytcmalglippmocaa.G
end

section
namespace Go.Proofs.Ytcmalglippmocaa.G
open Go.RowKit Go.Proofs.YtcmalglippmocaaW.PrintWords Go.Proofs.YtcmalglippmocaaW.PrintLast Go.Proofs.YtcmalglippmocaaW.PrintMore
attribute [local go_sem] max2_int min2_int max_two min_two max_three min_three max_four min_four   -- for this text's walks alone
set_option linter.unusedVariables false
set_option linter.unusedSimpArgs false

def sum_Right.f (l0 : List ByteArray) : Option (Bool) := (sum_Sum.f l0).bind fun t119 => (some (t119 == 0))
set_option maxHeartbeats 8000000 in
set_option maxRecDepth 100000 in
theorem sum_Right.calls (A0 : Option Addr) (c0 : Nat) (l0 : List ByteArray) (r : Bool) (w : World) (hr0 : Kd.C Kd.string w A0 l0.length l0) (hc0 : l0.length ≤ c0) (h : sum_Right.f l0 = some r) :
  Calls Try.prog 27 #[.slice A0 l0.length c0] w fun e w' => e = .returned (.bool r) ∧ Below w.heap.size w w' := by
 have HR0 := mA hr0
 have HC0 := mA hc0
 clear hr0 hc0
 have HB := mA (Below.refl w.heap.size w)
 have H : ((sum_Sum.f l0).bind fun t119 => (some (t119 == 0))) = some r := h
 clear h
 replace H := Option.bind_eq_some_iff.mp H
 obtain ⟨t119, A20, H⟩ := H
 replace H : (some (t119 == 0)) = some r := H
 have A2 := mA A20
 clear A20
 obtain rfl := Option.some.inj H
 go_enter Try.func27, Try.ntmps27
 go_wp2_with (first | ((with_reducible refine gate_callee (f := 40) rfl ?_); refine goesL_ (some 4) rfl rfl Try.func40 (by kernel_rfl) rfl #[.slice A0 l0.length c0] rfl (by (try simp only [List.map_toArray, List.map_cons, List.map_nil]); first | done | rfl | (simp only [List.length_drop, List.length_take]; rfl)) ?_; (with_reducible refine (sum_Sum.calls _ _ l0 t119 _ ?side1 ?side2 A2.out).mono ?_); (case side1 => repeat (first | exact HR0.out | (with_reducible refine Kd.C_alloc ?_ _) | (with_reducible refine Kd.C_drewN ?_ _) | (with_reducible refine Kd.C_drew ?_))); (case side2 => exact HC0.out); rintro e w3 ⟨rfl, hb⟩; refine ⟨_, rfl, ?_⟩; have n0_ := mA (bP (by repeat (first | (with_reducible first | exact HB.out | apply bA | apply bN | apply bD) | exact HB.out)) hb); clear HB; have HB := n0_; clear n0_; (try clear hb); (try clear hb2); (try clear hk); (try clear hi)))
 go_ret
 exact ⟨by first | rfl | (simp [errW_none, errW_some] <;> rfl) | (simp [*, errW_none, errW_some] <;> rfl), by repeat (first | (with_reducible first | exact HB.out | apply bA | apply bN | apply bD) | exact HB.out)⟩

def sum_Pseudo.f (a0 : ByteArray) (a1 : ByteArray) (a2 : Int) (a3 : Int) : Option (ByteArray) := if (a0.size : Int) = 16 then (if a0.size + a1.size ≤ 9223372036854775807 then ((some (([(a3 / 16777216) % 256, (a3 / 65536) % 256, (a3 / 256) % 256, (a3) % 256, 0, 0, 0, (a2) % 256] : List Int) : List Int)).bind fun y120 => (if (a0 ++ a1).size + (strOfNums y120).size ≤ 9223372036854775807 then (some ((a0 ++ a1) ++ (strOfNums y120))) else (none))) else (none)) else (if a0.size + a1.size ≤ 9223372036854775807 then ((some (([0, (a2) % 256, (a3 / 256) % 256, (a3) % 256] : List Int) : List Int)).bind fun y123 => (if (a0 ++ a1).size + (strOfNums y123).size ≤ 9223372036854775807 then (some ((a0 ++ a1) ++ (strOfNums y123))) else (none))) else (none))
set_option maxHeartbeats 8000000 in
set_option maxRecDepth 100000 in
theorem sum_Pseudo.calls (a0 : ByteArray) (a1 : ByteArray) (a2 : Int) (a3 : Int) (r : ByteArray) (w : World) (h : sum_Pseudo.f a0 a1 a2 a3 = some r) :
  Calls Try.prog 28 #[.string a0, .string a1, .int .i64 a2, .int .i64 a3] w fun e w' => e = .returned (.string r) ∧ Below w.heap.size w w' := by
 have HB := mA (Below.refl w.heap.size w)
 have H : (if (a0.size : Int) = 16 then (if a0.size + a1.size ≤ 9223372036854775807 then ((some (([(a3 / 16777216) % 256, (a3 / 65536) % 256, (a3 / 256) % 256, (a3) % 256, 0, 0, 0, (a2) % 256] : List Int) : List Int)).bind fun y120 => (if (a0 ++ a1).size + (strOfNums y120).size ≤ 9223372036854775807 then (some ((a0 ++ a1) ++ (strOfNums y120))) else (none))) else (none)) else (if a0.size + a1.size ≤ 9223372036854775807 then ((some (([0, (a2) % 256, (a3 / 256) % 256, (a3) % 256] : List Int) : List Int)).bind fun y123 => (if (a0 ++ a1).size + (strOfNums y123).size ≤ 9223372036854775807 then (some ((a0 ++ a1) ++ (strOfNums y123))) else (none))) else (none))) = some r := h
 clear h
 by_cases c5 : (a0.size : Int) = 16
 ·rw [if_pos c5] at H
  have c5b0 : ((a0.size : Int) == 16) = true := beq_iff_eq.mpr c5
  have c5b1 : ((a0.size : Int) != 16) = false := bne_eq_false_iff_eq.mpr c5
  clear c5
  by_cases c6 : a0.size + a1.size ≤ 9223372036854775807
  ·rw [if_pos c6] at H
   have c6b0 := eq_true c6
   have c6b1 : decide (a0.size + a1.size ≤ 9223372036854775807) = true := decide_eq_true c6
   try have c6b2 : (9223372036854775807 < a0.size + a1.size) = False := eq_false (Nat.not_lt.2 c6)
   obtain ⟨y120, hy120⟩ : ∃ y_ : List Int, y_ = (([(a3 / 16777216) % 256, (a3 / 65536) % 256, (a3 / 256) % 256, (a3) % 256, 0, 0, 0, (a2) % 256] : List Int)) := ⟨_, rfl⟩
   replace H : (if (a0 ++ a1).size + (strOfNums y120).size ≤ 9223372036854775807 then (some ((a0 ++ a1) ++ (strOfNums y120))) else (none)) = some r := by first | (rw [hy120]; with_reducible exact H) | (have H2_ := (Option.bind_some _ _).symm.trans H; rw [hy120]; with_reducible exact H2_) | (have H2_ := (Option.bind_some _ _).symm.trans H; with_reducible exact H2_) | with_reducible exact H | (rw [hy120]; exact H) | exact H
   have Ny120 := mA hy120
   clear hy120
   by_cases c7 : (a0 ++ a1).size + (strOfNums y120).size ≤ 9223372036854775807
   ·rw [if_pos c7] at H
    have c7b0 := eq_true c7
    have c7b1 : decide ((a0 ++ a1).size + (strOfNums y120).size ≤ 9223372036854775807) = true := decide_eq_true c7
    try have c7b2 : (9223372036854775807 < (a0 ++ a1).size + (strOfNums y120).size) = False := eq_false (Nat.not_lt.2 c7)
    try have c7b3 : (9223372036854775807 < (a0.size) + (a1.size) + (strOfNums y120).size) = False := eq_false (by have h_ := c7; simp only [ByteArray.size_append] at h_; omega)
    try have c7b4 : ((a0.size) + (a1.size) + (strOfNums y120).size ≤ 9223372036854775807) = True := eq_true (by have h_ := c7; simp only [ByteArray.size_append] at h_; omega)
    obtain rfl := Option.some.inj H
    go_enter Try.func28, Try.ntmps28
    go_wp2_with (first | ((with_reducible refine gate_dst (N := 28) rfl ?_); refine Kd.R_lit (Kd.int .u8) _ 5 ?hg (N := 28) ?hd (xs := ([(a3 / 16777216) % 256, (a3 / 65536) % 256, (a3 / 256) % 256, (a3) % 256, 0, 0, 0, (a2) % 256] : List Int)) (inner := [.int .u8 ((a3 / 16777216) % 256), .int .u8 ((a3 / 65536) % 256), .int .u8 ((a3 / 256) % 256), .int .u8 ((a3) % 256), .int .u8 0, .int .u8 0, .int .u8 0, .int .u8 ((a2) % 256)]) (ok := fun _ => True) (okp := fun _ => True) ?hr ?hp (fun _ hk => hk) trivial (Below.refl _ _) (Nat.le_refl _) (by simp) ?_; (case hd => rfl); (case hg => rfl); (case hr => first | (go_simp; done) | (go_simp; rfl)); (case hp => exact (Reps.one (show Kd.M (Kd.int .u8) _ _ _ ((a3 / 16777216) % 256) [.int .u8 ((a3 / 16777216) % 256)] from rfl) (Reps.one (show Kd.M (Kd.int .u8) _ _ _ ((a3 / 65536) % 256) [.int .u8 ((a3 / 65536) % 256)] from rfl) (Reps.one (show Kd.M (Kd.int .u8) _ _ _ ((a3 / 256) % 256) [.int .u8 ((a3 / 256) % 256)] from rfl) (Reps.one (show Kd.M (Kd.int .u8) _ _ _ ((a3) % 256) [.int .u8 ((a3) % 256)] from rfl) (Reps.one (show Kd.M (Kd.int .u8) _ _ _ 0 [.int .u8 0] from rfl) (Reps.one (show Kd.M (Kd.int .u8) _ _ _ 0 [.int .u8 0] from rfl) (Reps.one (show Kd.M (Kd.int .u8) _ _ _ 0 [.int .u8 0] from rfl) (Reps.one (show Kd.M (Kd.int .u8) _ _ _ ((a2) % 256) [.int .u8 ((a2) % 256)] from rfl) (Reps.none _ _)))))))))); intro v121 w8 ho9 hb hg_ hnew_; clear hg_ hnew_; (first | rw [← Ny120.out] at ho9 | (simp only [Int.reduceToNat] at ho9; rw [← Ny120.out] at ho9)); have n0_ := mA (Kd.R_lower ho9 (below_size (by repeat (first | (with_reducible first | exact HB.out | apply bA | apply bN | apply bD) | exact HB.out)))); have n1_ := mA (bP (by repeat (first | (with_reducible first | exact HB.out | apply bA | apply bN | apply bD) | exact HB.out)) hb); clear HB; have HO122 := n0_; have HB := n1_; clear n0_ n1_; clear hb ho9; have hcv10 := own_string (P := Try.prog) Try.underlying31 Try.underlying5 Try.underlying9 (Kd.own_of_R HO122.out)))
    go_ret
    exact ⟨by first | rfl | (simp [errW_none, errW_some] <;> rfl) | (simp [*, errW_none, errW_some] <;> rfl), by repeat (first | (with_reducible first | exact HB.out | apply bA | apply bN | apply bD) | exact HB.out)⟩
   ·rw [if_neg c7] at H
    exact absurd H (by simp)
  ·rw [if_neg c6] at H
   exact absurd H (by simp)
 ·rw [if_neg c5] at H
  have c5b0 : ((a0.size : Int) == 16) = false := beq_eq_false_iff_ne.mpr c5
  have c5b1 : ((a0.size : Int) != 16) = true := bne_iff_ne.mpr c5
  by_cases c11 : a0.size + a1.size ≤ 9223372036854775807
  ·rw [if_pos c11] at H
   have c11b0 := eq_true c11
   have c11b1 : decide (a0.size + a1.size ≤ 9223372036854775807) = true := decide_eq_true c11
   try have c11b2 : (9223372036854775807 < a0.size + a1.size) = False := eq_false (Nat.not_lt.2 c11)
   obtain ⟨y123, hy123⟩ : ∃ y_ : List Int, y_ = (([0, (a2) % 256, (a3 / 256) % 256, (a3) % 256] : List Int)) := ⟨_, rfl⟩
   replace H : (if (a0 ++ a1).size + (strOfNums y123).size ≤ 9223372036854775807 then (some ((a0 ++ a1) ++ (strOfNums y123))) else (none)) = some r := by first | (rw [hy123]; with_reducible exact H) | (have H2_ := (Option.bind_some _ _).symm.trans H; rw [hy123]; with_reducible exact H2_) | (have H2_ := (Option.bind_some _ _).symm.trans H; with_reducible exact H2_) | with_reducible exact H | (rw [hy123]; exact H) | exact H
   have Ny123 := mA hy123
   clear hy123
   by_cases c12 : (a0 ++ a1).size + (strOfNums y123).size ≤ 9223372036854775807
   ·rw [if_pos c12] at H
    have c12b0 := eq_true c12
    have c12b1 : decide ((a0 ++ a1).size + (strOfNums y123).size ≤ 9223372036854775807) = true := decide_eq_true c12
    try have c12b2 : (9223372036854775807 < (a0 ++ a1).size + (strOfNums y123).size) = False := eq_false (Nat.not_lt.2 c12)
    try have c12b3 : (9223372036854775807 < (a0.size) + (a1.size) + (strOfNums y123).size) = False := eq_false (by have h_ := c12; simp only [ByteArray.size_append] at h_; omega)
    try have c12b4 : ((a0.size) + (a1.size) + (strOfNums y123).size ≤ 9223372036854775807) = True := eq_true (by have h_ := c12; simp only [ByteArray.size_append] at h_; omega)
    obtain rfl := Option.some.inj H
    go_enter Try.func28, Try.ntmps28
    go_wp2_with (first | ((with_reducible refine gate_dst (N := 41) rfl ?_); refine Kd.R_lit (Kd.int .u8) _ 5 ?hg (N := 41) ?hd (xs := ([0, (a2) % 256, (a3 / 256) % 256, (a3) % 256] : List Int)) (inner := [.int .u8 0, .int .u8 ((a2) % 256), .int .u8 ((a3 / 256) % 256), .int .u8 ((a3) % 256)]) (ok := fun _ => True) (okp := fun _ => True) ?hr ?hp (fun _ hk => hk) trivial (Below.refl _ _) (Nat.le_refl _) (by simp) ?_; (case hd => rfl); (case hg => rfl); (case hr => first | (go_simp; done) | (go_simp; rfl)); (case hp => exact (Reps.one (show Kd.M (Kd.int .u8) _ _ _ 0 [.int .u8 0] from rfl) (Reps.one (show Kd.M (Kd.int .u8) _ _ _ ((a2) % 256) [.int .u8 ((a2) % 256)] from rfl) (Reps.one (show Kd.M (Kd.int .u8) _ _ _ ((a3 / 256) % 256) [.int .u8 ((a3 / 256) % 256)] from rfl) (Reps.one (show Kd.M (Kd.int .u8) _ _ _ ((a3) % 256) [.int .u8 ((a3) % 256)] from rfl) (Reps.none _ _)))))); intro v124 w13 ho14 hb hg_ hnew_; clear hg_ hnew_; (first | rw [← Ny123.out] at ho14 | (simp only [Int.reduceToNat] at ho14; rw [← Ny123.out] at ho14)); have n0_ := mA (Kd.R_lower ho14 (below_size (by repeat (first | (with_reducible first | exact HB.out | apply bA | apply bN | apply bD) | exact HB.out)))); have n1_ := mA (bP (by repeat (first | (with_reducible first | exact HB.out | apply bA | apply bN | apply bD) | exact HB.out)) hb); clear HB; have HO125 := n0_; have HB := n1_; clear n0_ n1_; clear hb ho14; have hcv15 := own_string (P := Try.prog) Try.underlying31 Try.underlying5 Try.underlying9 (Kd.own_of_R HO125.out)))
    go_ret
    exact ⟨by first | rfl | (simp [errW_none, errW_some] <;> rfl) | (simp [*, errW_none, errW_some] <;> rfl), by repeat (first | (with_reducible first | exact HB.out | apply bA | apply bN | apply bD) | exact HB.out)⟩
   ·rw [if_neg c12] at H
    exact absurd H (by simp)
  ·rw [if_neg c11] at H
   exact absurd H (by simp)

end Go.Proofs.Ytcmalglippmocaa.G
end
