/- Texts of this session, joined: each is a section. -/
import Derived.Test.YtcmalglippmocaaMClampUpdates2
set_option linter.unusedVariables false
set_option linter.unusedSimpArgs false
section
namespace Go.Proofs.Ytcmalglippmocaa.G
open Go.RowKit Go.Proofs.YtcmalglippmocaaW.PrintWords Go.Proofs.YtcmalglippmocaaW.PrintLast Go.Proofs.YtcmalglippmocaaW.PrintMore
attribute [local go_sem] max2_int min2_int max_two min_two max_three min_three max_four min_four

mutual
def palanquinref09_Seal.j0 : Nat → Int → ByteArray → ByteArray → ByteArray → Int → Bool → Option (ByteArray)
 | 0, _, _, _, _, _, _ => none
 | k + 1, x0, x1, x2, x3, x9, x17 => if x17 = true then (palanquinref09_Seal.j1 k x0 x1 x2 x3 16) else (palanquinref09_Seal.j1 k x0 x1 x2 x3 x9)
def palanquinref09_Seal.j1 : Nat → Int → ByteArray → ByteArray → ByteArray → Int → Option (ByteArray)
 | 0, _, _, _, _, _ => none
 | k + 1, x0, x1, x2, x3, x9 => if x0 = 17 then (palanquinref09_Seal.j2 k x0 x1 x2 x3 x9 (decide ((x3.size : Int) ≥ 8))) else (palanquinref09_Seal.j2 k x0 x1 x2 x3 x9 false)
def palanquinref09_Seal.j2 : Nat → Int → ByteArray → ByteArray → ByteArray → Int → Bool → Option (ByteArray)
 | 0, _, _, _, _, _, _ => none
 | k + 1, x0, x1, x2, x3, x9, x24 => if x24 = true then (palanquinref09_Seal.j3 k x0 x1 x2 x3 6) else (palanquinref09_Seal.j3 k x0 x1 x2 x3 x9)
def palanquinref09_Seal.j3 : Nat → Int → ByteArray → ByteArray → ByteArray → Int → Option (ByteArray)
 | 0, _, _, _, _, _ => none
 | k + 1, x0, x1, x2, x3, x9 => if x9 < 0 then (some x3) else ((palanquinref02_Pseudo.f k x1 x2 x0 (x3.size : Int)).bind fun t318 => (if 0 ≤ x9 then (if x9 ≤ (x3.size : Int) then (if t318.size + (x3.extract 0 (x9 : Int).toNat).size ≤ 9223372036854775807 then (if (t318 ++ (x3.extract 0 (x9 : Int).toNat)).size + 2 ≤ 9223372036854775807 then (if 0 ≤ (wrap64 (x9 + 2)) then (if (wrap64 (x9 + 2)) ≤ (x3.size : Int) then (if ((t318 ++ (x3.extract 0 (x9 : Int).toNat)) ++ (⟨#[0, 0]⟩ : ByteArray)).size + (x3.extract ((wrap64 (x9 + 2)) : Int).toNat x3.size).size ≤ 9223372036854775807 then ((palanquinref02_Sum.f k (((t318 ++ (x3.extract 0 (x9 : Int).toNat)) ++ (⟨#[0, 0]⟩ : ByteArray)) ++ (x3.extract ((wrap64 (x9 + 2)) : Int).toNat x3.size))).bind fun t319 => (if t319 = 0 then (if x0 = 17 then ((palanquinref01_Bytes.f k 65535 2).bind fun t320 => (if (x3.extract 0 (x9 : Int).toNat).size + t320.size ≤ 9223372036854775807 then (if ((x3.extract 0 (x9 : Int).toNat) ++ t320).size + (x3.extract ((wrap64 (x9 + 2)) : Int).toNat x3.size).size ≤ 9223372036854775807 then (some (((x3.extract 0 (x9 : Int).toNat) ++ t320) ++ (x3.extract ((wrap64 (x9 + 2)) : Int).toNat x3.size))) else (none)) else (none))) else ((palanquinref01_Bytes.f k (IntKind.u64.wrap (t319)) 2).bind fun t321 => (if (x3.extract 0 (x9 : Int).toNat).size + t321.size ≤ 9223372036854775807 then (if ((x3.extract 0 (x9 : Int).toNat) ++ t321).size + (x3.extract ((wrap64 (x9 + 2)) : Int).toNat x3.size).size ≤ 9223372036854775807 then (some (((x3.extract 0 (x9 : Int).toNat) ++ t321) ++ (x3.extract ((wrap64 (x9 + 2)) : Int).toNat x3.size))) else (none)) else (none)))) else ((palanquinref01_Bytes.f k (IntKind.u64.wrap (t319)) 2).bind fun t322 => (if (x3.extract 0 (x9 : Int).toNat).size + t322.size ≤ 9223372036854775807 then (if ((x3.extract 0 (x9 : Int).toNat) ++ t322).size + (x3.extract ((wrap64 (x9 + 2)) : Int).toNat x3.size).size ≤ 9223372036854775807 then (some (((x3.extract 0 (x9 : Int).toNat) ++ t322) ++ (x3.extract ((wrap64 (x9 + 2)) : Int).toNat x3.size))) else (none)) else (none))))) else (none)) else (none)) else (none)) else (none)) else (none)) else (none)) else (none)))
end
def palanquinref09_Seal.f (k : Nat) (a0 : Int) (a1 : ByteArray) (a2 : ByteArray) (a3 : ByteArray) : Option (ByteArray) := if a0 = 6 then (palanquinref09_Seal.j0 k a0 a1 a2 a3 (-1) (decide ((a3.size : Int) ≥ 20))) else (palanquinref09_Seal.j0 k a0 a1 a2 a3 (-1) false)
def palanquinref09_Seal.T8 : Bool × List (List Nat × List Nat) := (true, [([], []), ([], []), ([], []), ([], []), ([3], [3]), ([0, 1, 2, 4], [0, 1, 2, 4]), ([], []), ([], []), ([6, 7], [6, 7]), ([5, 8], [5, 8]), ([9], [9]), ([], []), ([], []), ([12], [12]), ([11, 13], [11, 13]), ([10, 14], [10, 14]), ([15, 5], [15]), ([16, 16, 0, 1, 2, 3, 4, 5, 6, 7, 8, 9, 10, 11, 12, 13, 14, 15, 16], [16])])
def palanquinref09_Seal.B8 : List Nat := [0, 0, 0, 0, 8, 31, 0, 0, 192, 511, 1023, 0, 0, 4096, 14336, 32767, 65535, 131071]
theorem palanquinref09_Seal.tab8 : rtab .any (opsOf Try.f17 8) = palanquinref09_Seal.T8 := by kernel_rfl
theorem palanquinref09_Seal.bits8 : waitsOk palanquinref09_Seal.T8.2 palanquinref09_Seal.B8 = true := by kernel_rfl
def palanquinref09_Seal.T11 : Bool × List (List Nat × List Nat) := (true, [([], []), ([], []), ([0, 1], [0, 1]), ([], []), ([3], [3]), ([4], [4]), ([2, 5], [2, 5]), ([], []), ([], []), ([8], [8]), ([7, 9], [7, 9]), ([6, 10], [6, 10]), ([11, 5, 0, 1, 2, 3, 4, 5, 6, 7, 8, 9, 10, 11], [11])])
def palanquinref09_Seal.B11 : List Nat := [0, 0, 3, 0, 8, 24, 63, 0, 0, 256, 896, 2047, 4095]
theorem palanquinref09_Seal.tab11 : rtab .any (opsOf Try.f17 11) = palanquinref09_Seal.T11 := by kernel_rfl
theorem palanquinref09_Seal.bits11 : waitsOk palanquinref09_Seal.T11.2 palanquinref09_Seal.B11 = true := by kernel_rfl
set_option maxHeartbeats 8000000 in
set_option maxRecDepth 100000 in
theorem palanquinref09_Seal.calls (k : Nat) (a0 : Int) (a1 : ByteArray) (a2 : ByteArray) (a3 : ByteArray) (r : ByteArray) (w : World) (h : palanquinref09_Seal.f k a0 a1 a2 a3 = some r) :
  Calls Try.prog 17 #[.int .i64 a0, .string a1, .string a2, .string a3] w fun e w' => e = .returned (.string r) ∧ Below w.heap.size w w' := by
 have HB := mA (Below.refl w.heap.size w)
 have H : (if a0 = 6 then (palanquinref09_Seal.j0 k a0 a1 a2 a3 (-1) (decide ((a3.size : Int) ≥ 20))) else (palanquinref09_Seal.j0 k a0 a1 a2 a3 (-1) false)) = some r := h
 clear h
 have HC5 := mA H
 clear H
 go_enter Try.func17, Try.ntmps17
 go_upto_region 2 with (fail)
 go_cut [17] (fun v17 wc => ∃ (kq : Nat) (x17_4 : Bool), v17 = .bool x17_4 ∧ Aside0 (palanquinref09_Seal.j0 kq a0 a1 a2 a3 (-1) x17_4 = some r) ∧ Aside0 (kq ≤ k) ∧ Aside0 (Below w.heap.size w wc))
 case first =>
  have H := HC5.out
  clear HC5
  by_cases c6 : a0 = 6
  ·rw [if_pos c6] at H
   have c6b0 : (a0 == 6) = true := beq_iff_eq.mpr c6
   have c6b1 : (a0 != 6) = false := bne_eq_false_iff_eq.mpr c6
   clear c6
   (first | rw [c6b0] | (simp only [i64_w, i32_w]; rw [c6b0]) | skip)
   have H' := mA H
   clear H
   go_wp2
   go_meet
   case rel => exact ⟨_, (decide ((a3.size : Int) ≥ 20)), (by first | rfl | (simp; done) | (simp [*]; done)), H', ⟨by first | omega | exact Nat.le_refl _⟩, ⟨by repeat (first | (with_reducible first | exact HB.out | apply bA | apply bN | apply bD) | exact HB.out)⟩⟩
  ·rw [if_neg c6] at H
   have c6b0 : (a0 == 6) = false := beq_eq_false_iff_ne.mpr c6
   have c6b1 : (a0 != 6) = true := bne_iff_ne.mpr c6
   (first | rw [c6b0] | (simp only [i64_w, i32_w]; rw [c6b0]) | skip)
   have H' := mA H
   clear H
   go_wp2
   go_meet
   case rel => exact ⟨_, (false), (by first | rfl | (simp; done) | (simp [*]; done)), H', ⟨by first | omega | exact Nat.le_refl _⟩, ⟨by repeat (first | (with_reducible first | exact HB.out | apply bA | apply bN | apply bD) | exact HB.out)⟩⟩
 case rest =>
  clear HC5
  try clear c1
  try clear p2
  try clear c6
  try clear c6b0
  try clear c6b1
  obtain ⟨kq, x17_4, rfl, HA, HJ4, HB⟩ := hcut
  cases kq with
  | zero => exact absurd HA.out (by simp [palanquinref09_Seal.j0])
  | succ kj4 =>
   have H := HA.out
   clear HA
   simp only [palanquinref09_Seal.j0] at H
   have HC7 := mA H
   clear H
   go_upto_if 17 with (fail)
   go_cut [9] (fun v9 wc => ∃ (kq : Nat) (x9_6 : Int), v9 = .int .i64 x9_6 ∧ Aside0 (palanquinref09_Seal.j1 kq a0 a1 a2 a3 x9_6 = some r) ∧ Aside0 (kq ≤ kj4) ∧ Aside0 (Below w.heap.size w wc))
   case first =>
    have H := HC7.out
    clear HC7
    by_cases c8 : x17_4 = true
    ·subst c8
     rw [if_pos rfl] at H
     have H' := mA H
     clear H
     go_wp2
     go_meet
     case rel => exact ⟨_, (16), (by first | rfl | (simp; done) | (simp [*]; done)), H', ⟨by have := HJ4.out; first | omega | exact Nat.le_refl _⟩, ⟨by repeat (first | (with_reducible first | exact HB.out | apply bA | apply bN | apply bD) | exact HB.out)⟩⟩
    ·replace c8 := Bool.eq_false_iff.mpr c8
     subst c8
     rw [if_neg (show ¬ (false = true) by decide)] at H
     have H' := mA H
     clear H
     go_wp2
     go_meet
     case rel => exact ⟨_, ((-1)), (by first | rfl | (simp; done) | (simp [*]; done)), H', ⟨by have := HJ4.out; first | omega | exact Nat.le_refl _⟩, ⟨by repeat (first | (with_reducible first | exact HB.out | apply bA | apply bN | apply bD) | exact HB.out)⟩⟩
   case rest =>
    clear HC7
    try clear c1
    try clear p2
    try clear c6
    try clear c6b0
    try clear c6b1
    try clear c8
    try clear p2
    obtain ⟨kq, x9_6, rfl, HA, HJ6, HB⟩ := hcut
    cases kq with
    | zero => exact absurd HA.out (by simp [palanquinref09_Seal.j1])
    | succ kj6 =>
     have H := HA.out
     clear HA
     simp only [palanquinref09_Seal.j1] at H
     have HC9 := mA H
     clear H
     go_upto_region 4 with (fail)
     go_cut [24] (fun v24 wc => ∃ (kq : Nat) (x24_8 : Bool), v24 = .bool x24_8 ∧ Aside0 (palanquinref09_Seal.j2 kq a0 a1 a2 a3 x9_6 x24_8 = some r) ∧ Aside0 (kq ≤ kj6) ∧ Aside0 (Below w.heap.size w wc))
     case first =>
      have H := HC9.out
      clear HC9
      by_cases c10 : a0 = 17
      ·rw [if_pos c10] at H
       have c10b0 : (a0 == 17) = true := beq_iff_eq.mpr c10
       have c10b1 : (a0 != 17) = false := bne_eq_false_iff_eq.mpr c10
       clear c10
       (first | rw [c10b0] | (simp only [i64_w, i32_w]; rw [c10b0]) | skip)
       have H' := mA H
       clear H
       go_wp2
       go_meet
       case rel => exact ⟨_, (decide ((a3.size : Int) ≥ 8)), (by first | rfl | (simp; done) | (simp [*]; done)), H', ⟨by have := HJ4.out; have := HJ6.out; first | omega | exact Nat.le_refl _⟩, ⟨by repeat (first | (with_reducible first | exact HB.out | apply bA | apply bN | apply bD) | exact HB.out)⟩⟩
      ·rw [if_neg c10] at H
       have c10b0 : (a0 == 17) = false := beq_eq_false_iff_ne.mpr c10
       have c10b1 : (a0 != 17) = true := bne_iff_ne.mpr c10
       (first | rw [c10b0] | (simp only [i64_w, i32_w]; rw [c10b0]) | skip)
       have H' := mA H
       clear H
       go_wp2
       go_meet
       case rel => exact ⟨_, (false), (by first | rfl | (simp; done) | (simp [*]; done)), H', ⟨by have := HJ4.out; have := HJ6.out; first | omega | exact Nat.le_refl _⟩, ⟨by repeat (first | (with_reducible first | exact HB.out | apply bA | apply bN | apply bD) | exact HB.out)⟩⟩
     case rest =>
      clear HC9
      try clear c1
      try clear p2
      try clear c6
      try clear c6b0
      try clear c6b1
      try clear c8
      try clear c10
      try clear c10b0
      try clear c10b1
      try clear p2
      obtain ⟨kq, x24_8, rfl, HA, HJ8, HB⟩ := hcut
      cases kq with
      | zero => exact absurd HA.out (by simp [palanquinref09_Seal.j2])
      | succ kj8 =>
       have H := HA.out
       clear HA
       simp only [palanquinref09_Seal.j2] at H
       have HC11 := mA H
       clear H
       go_upto_if 24 with (fail)
       go_cut [9] (fun v9 wc => ∃ (kq : Nat) (x9_10 : Int), v9 = .int .i64 x9_10 ∧ Aside0 (palanquinref09_Seal.j3 kq a0 a1 a2 a3 x9_10 = some r) ∧ Aside0 (kq ≤ kj8) ∧ Aside0 (Below w.heap.size w wc))
       case first =>
        have H := HC11.out
        clear HC11
        by_cases c12 : x24_8 = true
        ·subst c12
         rw [if_pos rfl] at H
         have H' := mA H
         clear H
         go_wp2
         go_meet
         case rel => exact ⟨_, (6), (by first | rfl | (simp; done) | (simp [*]; done)), H', ⟨by have := HJ4.out; have := HJ6.out; have := HJ8.out; first | omega | exact Nat.le_refl _⟩, ⟨by repeat (first | (with_reducible first | exact HB.out | apply bA | apply bN | apply bD) | exact HB.out)⟩⟩
        ·replace c12 := Bool.eq_false_iff.mpr c12
         subst c12
         rw [if_neg (show ¬ (false = true) by decide)] at H
         have H' := mA H
         clear H
         go_wp2
         go_meet
         case rel => exact ⟨_, (x9_6), (by first | rfl | (simp; done) | (simp [*]; done)), H', ⟨by have := HJ4.out; have := HJ6.out; have := HJ8.out; first | omega | exact Nat.le_refl _⟩, ⟨by repeat (first | (with_reducible first | exact HB.out | apply bA | apply bN | apply bD) | exact HB.out)⟩⟩
       case rest =>
        clear HC11
        try clear c1
        try clear p2
        try clear c6
        try clear c6b0
        try clear c6b1
        try clear c8
        try clear c10
        try clear c10b0
        try clear c10b1
        try clear c12
        try clear p2
        obtain ⟨kq, x9_10, rfl, HA, HJ10, HB⟩ := hcut
        cases kq with
        | zero => exact absurd HA.out (by simp [palanquinref09_Seal.j3])
        | succ kj10 =>
         have H := HA.out
         clear HA
         simp only [palanquinref09_Seal.j3] at H
         by_cases c13 : x9_10 < 0
         ·rw [if_pos c13] at H
          have c13b0 : decide (x9_10 < 0) = true := decide_eq_true c13
          clear c13
          obtain rfl := Option.some.inj H
          go_wp2
          go_ret
          exact ⟨by first | rfl | (simp [errW_none, errW_some] <;> rfl) | (simp [*, errW_none, errW_some] <;> rfl), by repeat (first | (with_reducible first | exact HB.out | apply bA | apply bN | apply bD) | exact HB.out)⟩
         ·rw [if_neg c13] at H
          have c13b0 : decide (x9_10 < 0) = false := decide_eq_false c13
          clear c13
          replace H := Option.bind_eq_some_iff.mp H
          obtain ⟨t318, A140, H⟩ := H
          try dsimp +instances only at H
          have A14 := mA A140
          clear A140
          by_cases c15 : 0 ≤ x9_10
          ·rw [if_pos c15] at H
           have c15b0 := eq_true c15
           have c15b1 : decide (0 ≤ x9_10) = true := decide_eq_true c15
           clear c15
           by_cases c16 : x9_10 ≤ (a3.size : Int)
           ·rw [if_pos c16] at H
            have c16b0 := eq_true c16
            have c16b1 : decide (x9_10 ≤ (a3.size : Int)) = true := decide_eq_true c16
            clear c16
            by_cases c17 : t318.size + (a3.extract 0 (x9_10 : Int).toNat).size ≤ 9223372036854775807
            ·rw [if_pos c17] at H
             have c17b0 := eq_true c17
             have c17b1 : decide (t318.size + (a3.extract 0 (x9_10 : Int).toNat).size ≤ 9223372036854775807) = true := decide_eq_true c17
             try have c17b2 : (9223372036854775807 < t318.size + (a3.extract 0 (x9_10 : Int).toNat).size) = False := eq_false (Nat.not_lt.2 c17)
             try have c17b5 : (9223372036854775807 < t318.size + (x9_10 : Int).toNat) = False := eq_false (by have h_ := c17; simp only [ByteArray.size_append, ByteArray.size_extract] at h_; simp only [eq_iff_iff, iff_true] at *; omega)
             try have c17b6 : (t318.size + (x9_10 : Int).toNat ≤ 9223372036854775807) = True := eq_true (by have h_ := c17; simp only [ByteArray.size_append, ByteArray.size_extract] at h_; simp only [eq_iff_iff, iff_true] at *; omega)
             by_cases c18 : (t318 ++ (a3.extract 0 (x9_10 : Int).toNat)).size + 2 ≤ 9223372036854775807
             ·rw [if_pos c18] at H
              have c18b0 := eq_true c18
              have c18b1 : decide ((t318 ++ (a3.extract 0 (x9_10 : Int).toNat)).size + 2 ≤ 9223372036854775807) = true := decide_eq_true c18
              try have c18b2 : (9223372036854775807 < (t318 ++ (a3.extract 0 (x9_10 : Int).toNat)).size + 2) = False := eq_false (Nat.not_lt.2 c18)
              try have c18b3 : (9223372036854775807 < (t318.size) + ((a3.extract 0 (x9_10).toNat).size) + 2) = False := eq_false (by have h_ := c18; simp only [ByteArray.size_append] at h_; omega)
              try have c18b4 : ((t318.size) + ((a3.extract 0 (x9_10).toNat).size) + 2 ≤ 9223372036854775807) = True := eq_true (by have h_ := c18; simp only [ByteArray.size_append] at h_; omega)
              try have c18b5 : (9223372036854775807 < (t318.size) + ((x9_10).toNat) + 2) = False := eq_false (by have h_ := c18; simp only [ByteArray.size_append, ByteArray.size_extract] at h_; simp only [eq_iff_iff, iff_true] at *; omega)
              try have c18b6 : ((t318.size) + ((x9_10).toNat) + 2 ≤ 9223372036854775807) = True := eq_true (by have h_ := c18; simp only [ByteArray.size_append, ByteArray.size_extract] at h_; simp only [eq_iff_iff, iff_true] at *; omega)
              obtain ⟨ji19, hji19⟩ : ∃ j_ : Int, (wrap64 (x9_10 + 2)) = j_ := ⟨_, rfl⟩
              replace H : (if 0 ≤ (ji19) then (if (ji19) ≤ (a3.size : Int) then (if ((t318 ++ (a3.extract 0 (x9_10 : Int).toNat)) ++ (⟨#[0, 0]⟩ : ByteArray)).size + (a3.extract ((ji19) : Int).toNat a3.size).size ≤ 9223372036854775807 then ((palanquinref02_Sum.f kj10 (((t318 ++ (a3.extract 0 (x9_10 : Int).toNat)) ++ (⟨#[0, 0]⟩ : ByteArray)) ++ (a3.extract ((ji19) : Int).toNat a3.size))).bind fun t319 => (if t319 = 0 then (if a0 = 17 then ((palanquinref01_Bytes.f kj10 65535 2).bind fun t320 => (if (a3.extract 0 (x9_10 : Int).toNat).size + t320.size ≤ 9223372036854775807 then (if ((a3.extract 0 (x9_10 : Int).toNat) ++ t320).size + (a3.extract ((ji19) : Int).toNat a3.size).size ≤ 9223372036854775807 then (some (((a3.extract 0 (x9_10 : Int).toNat) ++ t320) ++ (a3.extract ((ji19) : Int).toNat a3.size))) else (none)) else (none))) else ((palanquinref01_Bytes.f kj10 (IntKind.u64.wrap (t319)) 2).bind fun t321 => (if (a3.extract 0 (x9_10 : Int).toNat).size + t321.size ≤ 9223372036854775807 then (if ((a3.extract 0 (x9_10 : Int).toNat) ++ t321).size + (a3.extract ((ji19) : Int).toNat a3.size).size ≤ 9223372036854775807 then (some (((a3.extract 0 (x9_10 : Int).toNat) ++ t321) ++ (a3.extract ((ji19) : Int).toNat a3.size))) else (none)) else (none)))) else ((palanquinref01_Bytes.f kj10 (IntKind.u64.wrap (t319)) 2).bind fun t322 => (if (a3.extract 0 (x9_10 : Int).toNat).size + t322.size ≤ 9223372036854775807 then (if ((a3.extract 0 (x9_10 : Int).toNat) ++ t322).size + (a3.extract ((ji19) : Int).toNat a3.size).size ≤ 9223372036854775807 then (some (((a3.extract 0 (x9_10 : Int).toNat) ++ t322) ++ (a3.extract ((ji19) : Int).toNat a3.size))) else (none)) else (none))))) else (none)) else (none)) else (none)) = some r := by first | (rw [hji19] at H; exact H) | (simp only [hji19] at H ⊢; exact H)
              (try rw [hji19] at A14)
              have hji19w : (IntKind.i64.wrap (x9_10 + 2)) = ji19 := (i64_w _).trans hji19
              by_cases c20 : 0 ≤ (ji19)
              ·rw [if_pos c20] at H
               have c20b0 := eq_true c20
               have c20b1 : decide (0 ≤ (ji19)) = true := decide_eq_true c20
               clear c20
               by_cases c21 : (ji19) ≤ (a3.size : Int)
               ·rw [if_pos c21] at H
                have c21b0 := eq_true c21
                have c21b1 : decide ((ji19) ≤ (a3.size : Int)) = true := decide_eq_true c21
                clear c21
                by_cases c22 : ((t318 ++ (a3.extract 0 (x9_10 : Int).toNat)) ++ (⟨#[0, 0]⟩ : ByteArray)).size + (a3.extract ((ji19) : Int).toNat a3.size).size ≤ 9223372036854775807
                ·rw [if_pos c22] at H
                 have c22b0 := eq_true c22
                 have c22b1 : decide (((t318 ++ (a3.extract 0 (x9_10 : Int).toNat)) ++ (⟨#[0, 0]⟩ : ByteArray)).size + (a3.extract ((ji19) : Int).toNat a3.size).size ≤ 9223372036854775807) = true := decide_eq_true c22
                 try have c22b2 : (9223372036854775807 < ((t318 ++ (a3.extract 0 (x9_10 : Int).toNat)) ++ (⟨#[0, 0]⟩ : ByteArray)).size + (a3.extract ((ji19) : Int).toNat a3.size).size) = False := eq_false (Nat.not_lt.2 c22)
                 try have c22b3 : (9223372036854775807 < (t318.size) + ((a3.extract 0 (x9_10).toNat).size) + 2 + (a3.extract ((ji19) : Int).toNat a3.size).size) = False := eq_false (by have h_ := c22; simp only [ByteArray.size_append] at h_; have zl0_ : (⟨#[0, 0]⟩ : ByteArray).size = 2 := rfl; omega)
                 try have c22b4 : ((t318.size) + ((a3.extract 0 (x9_10).toNat).size) + 2 + (a3.extract ((ji19) : Int).toNat a3.size).size ≤ 9223372036854775807) = True := eq_true (by have h_ := c22; simp only [ByteArray.size_append] at h_; have zl0_ : (⟨#[0, 0]⟩ : ByteArray).size = 2 := rfl; omega)
                 try have c22b5 : (9223372036854775807 < (t318.size) + ((x9_10).toNat) + 2 + (a3.size - ((ji19) : Int).toNat)) = False := eq_false (by have h_ := c22; simp only [ByteArray.size_append, ByteArray.size_extract] at h_; simp only [eq_iff_iff, iff_true] at *; have zl0_ : (⟨#[0, 0]⟩ : ByteArray).size = 2 := rfl; omega)
                 try have c22b6 : ((t318.size) + ((x9_10).toNat) + 2 + (a3.size - ((ji19) : Int).toNat) ≤ 9223372036854775807) = True := eq_true (by have h_ := c22; simp only [ByteArray.size_append, ByteArray.size_extract] at h_; simp only [eq_iff_iff, iff_true] at *; have zl0_ : (⟨#[0, 0]⟩ : ByteArray).size = 2 := rfl; omega)
                 replace H := Option.bind_eq_some_iff.mp H
                 obtain ⟨t319, A230, H⟩ := H
                 try dsimp +instances only at H
                 have A23 := mA A230
                 clear A230
                 by_cases c24 : t319 = 0
                 ·rw [if_pos c24] at H
                  have c24b0 : (t319 == 0) = true := beq_iff_eq.mpr c24
                  have c24b1 : (t319 != 0) = false := bne_eq_false_iff_eq.mpr c24
                  clear c24
                  by_cases c25 : a0 = 17
                  ·rw [if_pos c25] at H
                   have c25b0 : (a0 == 17) = true := beq_iff_eq.mpr c25
                   have c25b1 : (a0 != 17) = false := bne_eq_false_iff_eq.mpr c25
                   clear c25
                   have c26b0 := eq_true (of_decide_eq_true (by first | (with_reducible assumption) | assumption) : 0 ≤ x9_10)
                   have c27b0 := eq_true (of_decide_eq_true (by first | (with_reducible assumption) | assumption) : x9_10 ≤ (a3.size : Int))
                   replace H := Option.bind_eq_some_iff.mp H
                   obtain ⟨t320, A280, H⟩ := H
                   try dsimp +instances only at H
                   have A28 := mA A280
                   clear A280
                   by_cases c29 : (a3.extract 0 (x9_10 : Int).toNat).size + t320.size ≤ 9223372036854775807
                   ·rw [if_pos c29] at H
                    have c29b0 := eq_true c29
                    have c29b1 : decide ((a3.extract 0 (x9_10 : Int).toNat).size + t320.size ≤ 9223372036854775807) = true := decide_eq_true c29
                    try have c29b2 : (9223372036854775807 < (a3.extract 0 (x9_10 : Int).toNat).size + t320.size) = False := eq_false (Nat.not_lt.2 c29)
                    try have c29b5 : (9223372036854775807 < (x9_10 : Int).toNat + t320.size) = False := eq_false (by have h_ := c29; simp only [ByteArray.size_append, ByteArray.size_extract] at h_; simp only [eq_iff_iff, iff_true] at *; omega)
                    try have c29b6 : ((x9_10 : Int).toNat + t320.size ≤ 9223372036854775807) = True := eq_true (by have h_ := c29; simp only [ByteArray.size_append, ByteArray.size_extract] at h_; simp only [eq_iff_iff, iff_true] at *; omega)
                    have c30b0 := eq_true (of_decide_eq_true (by first | (with_reducible assumption) | assumption) : 0 ≤ (ji19))
                    have c31b0 := eq_true (of_decide_eq_true (by first | (with_reducible assumption) | assumption) : (ji19) ≤ (a3.size : Int))
                    by_cases c32 : ((a3.extract 0 (x9_10 : Int).toNat) ++ t320).size + (a3.extract ((ji19) : Int).toNat a3.size).size ≤ 9223372036854775807
                    ·rw [if_pos c32] at H
                     have c32b0 := eq_true c32
                     have c32b1 : decide (((a3.extract 0 (x9_10 : Int).toNat) ++ t320).size + (a3.extract ((ji19) : Int).toNat a3.size).size ≤ 9223372036854775807) = true := decide_eq_true c32
                     try have c32b2 : (9223372036854775807 < ((a3.extract 0 (x9_10 : Int).toNat) ++ t320).size + (a3.extract ((ji19) : Int).toNat a3.size).size) = False := eq_false (Nat.not_lt.2 c32)
                     try have c32b3 : (9223372036854775807 < ((a3.extract 0 (x9_10).toNat).size) + (t320.size) + (a3.extract ((ji19) : Int).toNat a3.size).size) = False := eq_false (by have h_ := c32; simp only [ByteArray.size_append] at h_; omega)
                     try have c32b4 : (((a3.extract 0 (x9_10).toNat).size) + (t320.size) + (a3.extract ((ji19) : Int).toNat a3.size).size ≤ 9223372036854775807) = True := eq_true (by have h_ := c32; simp only [ByteArray.size_append] at h_; omega)
                     try have c32b5 : (9223372036854775807 < ((x9_10).toNat) + (t320.size) + (a3.size - ((ji19) : Int).toNat)) = False := eq_false (by have h_ := c32; simp only [ByteArray.size_append, ByteArray.size_extract] at h_; simp only [eq_iff_iff, iff_true] at *; omega)
                     try have c32b6 : (((x9_10).toNat) + (t320.size) + (a3.size - ((ji19) : Int).toNat) ≤ 9223372036854775807) = True := eq_true (by have h_ := c32; simp only [ByteArray.size_append, ByteArray.size_extract] at h_; simp only [eq_iff_iff, iff_true] at *; omega)
                     obtain rfl := Option.some.inj H
                     try go_wp2
                     have n0_ := mA (bD HB.out)
                     clear HB
                     have HB := n0_
                     clear n0_
                     refine start_ (n := 18) (S := fun w' => True) (ds := []) (bv 18 0) (by kernel_rfl) rfl rfl trivial (fun hHeld => ?_); refine with_tabW palanquinref09_Seal.tab8 palanquinref09_Seal.bits8 (fun HT_ HW_ => ?_)
                     generalize wc.drew = w33 at HB hHeld ⊢
                     refine pure_ (i := 0) (N := some 28) (v := ?_) (a' := ?_) (bv 18 1) rfl rfl (any_of HT_.out (by kernel_rfl)) (fun _ _ _ h => h) (Or.inl ⟨by rfl, ?_⟩) ?_ ?_; rotate_left; (intro w'; go_simp; with_reducible rfl); rotate_left; (simp only [Act.put, List.setIfInBounds_toArray, List.set_cons_zero, List.set_cons_succ, i64_w, i32_w]; rfl)
                     refine pure_ (i := 1) (N := some 29) (v := ?_) (a' := ?_) (bv 18 3) rfl rfl (any_of HT_.out (by kernel_rfl)) (fun _ _ _ h => h) (Or.inl ⟨by rfl, ?_⟩) ?_ ?_; rotate_left; (intro w'; go_simp; with_reducible rfl); rotate_left; (simp only [Act.put, List.setIfInBounds_toArray, List.set_cons_zero, List.set_cons_succ, i64_w, i32_w]; rfl)
                     refine pure_ (i := 2) (N := some 30) (v := ?_) (a' := ?_) (bv 18 7) rfl rfl (any_of HT_.out (by kernel_rfl)) (fun _ _ _ h => h) (Or.inl ⟨by rfl, ?_⟩) ?_ ?_; rotate_left; (intro w'; go_simp; with_reducible rfl); rotate_left; (simp only [Act.put, List.setIfInBounds_toArray, List.set_cons_zero, List.set_cons_succ, i64_w, i32_w]; rfl)
                     refine pure_ (i := 3) (N := some 31) (v := ?_) (a' := ?_) (bv 18 15) rfl rfl (any_of HT_.out (by kernel_rfl)) (fun _ _ _ h => h) (Or.inl ⟨by rfl, ?_⟩) ?_ ?_; rotate_left; (intro w'; go_simp; with_reducible rfl); rotate_left; (simp only [Act.put, List.setIfInBounds_toArray, List.set_cons_zero, List.set_cons_succ, i64_w, i32_w]; rfl)
                     refine pure_ (i := 4) (N := some 32) (v := ?_) (a' := ?_) (bv 18 31) rfl rfl (any_of HT_.out (by kernel_rfl)) (fun _ _ _ h => h) (Or.inl ⟨by rfl, ?_⟩) ?_ ?_; rotate_left; (intro w'; go_simp; with_reducible rfl); rotate_left; (simp only [Act.put, List.setIfInBounds_toArray, List.set_cons_zero, List.set_cons_succ, i64_w, i32_w]; rfl)
                     refine pure_ (i := 6) (N := some 34) (v := ?_) (a' := ?_) (bv 18 95) rfl rfl (any_of HT_.out (by kernel_rfl)) (fun _ _ _ h => h) (Or.inl ⟨by rfl, ?_⟩) ?_ ?_; rotate_left; (intro w'; go_simp; with_reducible rfl); rotate_left; (simp only [Act.put, List.setIfInBounds_toArray, List.set_cons_zero, List.set_cons_succ, i64_w, i32_w]; rfl)
                     refine pure_ (i := 7) (N := some 35) (v := ?_) (a' := ?_) (bv 18 223) rfl rfl (any_of HT_.out (by kernel_rfl)) (fun _ _ _ h => h) (Or.inl ⟨by rfl, ?_⟩) ?_ ?_; rotate_left; (intro w'; go_simp; with_reducible rfl); rotate_left; (simp only [Act.put, List.setIfInBounds_toArray, List.set_cons_zero, List.set_cons_succ, i64_w, i32_w]; rfl)
                     refine pure_ (i := 8) (N := some 36) (v := ?_) (a' := ?_) (bv 18 479) rfl rfl (any_of HT_.out (by kernel_rfl)) (fun _ _ _ h => h) (Or.inl ⟨by rfl, ?_⟩) ?_ ?_; rotate_left; (intro w'; go_simp; with_reducible rfl); rotate_left; (simp only [Act.put, List.setIfInBounds_toArray, List.set_cons_zero, List.set_cons_succ, i64_w, i32_w]; rfl)
                     refine pure_ (i := 11) (N := some 39) (v := ?_) (a' := ?_) (bv 18 2527) rfl rfl (any_of HT_.out (by kernel_rfl)) (fun _ _ _ h => h) (Or.inl ⟨by rfl, ?_⟩) ?_ ?_; rotate_left; (intro w'; go_simp; with_reducible rfl); rotate_left; (simp only [Act.put, List.setIfInBounds_toArray, List.set_cons_zero, List.set_cons_succ, i64_w, i32_w]; rfl)
                     refine pure_ (i := 12) (N := some 40) (v := ?_) (a' := ?_) (bv 18 6623) rfl rfl (any_of HT_.out (by kernel_rfl)) (fun _ _ _ h => h) (Or.inl ⟨by rfl, ?_⟩) ?_ ?_; rotate_left; (intro w'; go_simp; with_reducible rfl); rotate_left; (simp only [Act.put, List.setIfInBounds_toArray, List.set_cons_zero, List.set_cons_succ, i64_w, i32_w]; rfl)
                     refine pure_ (i := 13) (N := some 41) (v := ?_) (a' := ?_) (bv 18 14815) rfl rfl (any_of HT_.out (by kernel_rfl)) (fun _ _ _ h => h) (Or.inl ⟨by rfl, ?_⟩) ?_ ?_; rotate_left; (intro w'; go_simp; with_reducible rfl); rotate_left; (simp only [Act.put, List.setIfInBounds_toArray, List.set_cons_zero, List.set_cons_succ, i64_w, i32_w]; rfl)
                     refine pure_ (i := 14) (N := some 42) (v := ?_) (a' := ?_) (bv 18 31199) rfl rfl (any_of HT_.out (by kernel_rfl)) (fun _ _ _ h => h) (Or.inl ⟨by rfl, ?_⟩) ?_ ?_; rotate_left; (intro w'; go_simp; with_reducible rfl); rotate_left; (simp only [Act.put, List.setIfInBounds_toArray, List.set_cons_zero, List.set_cons_succ, i64_w, i32_w]; rfl)
                     refine one_ (i := 5) (N := some 33) (bv 18 31231) rfl rfl (one_of HT_.out (by kernel_rfl)) (by decide) (fun K hK => ?_)
                     refine goes_ Try.func33 (by kernel_rfl) rfl #[.string a1, .string a2, .int .i64 a0, .int .i64 (a3.size : Int)] (by rfl) rfl rfl (by (try simp only [List.map_toArray, List.map_cons, List.map_nil]); first | done | rfl | (simp only [List.length_drop, List.length_take]; rfl)) ?_
                     with_reducible refine (palanquinref02_Pseudo.calls kj10 a1 a2 a0 (a3.size : Int) t318 _ A14.out).mono ?_
                     rintro e w34 ⟨rfl, hb⟩
                     refine ⟨_, rfl, ?_⟩
                     have n0_ := mA (bP (by repeat (first | (with_reducible first | exact HB.out | apply bA | apply bN | apply bD) | exact HB.out)) hb)
                     clear HB
                     have HB := n0_
                     clear n0_
                     (try clear hb)
                     (try clear hb2)
                     (try clear hk)
                     (try clear hi)
                     refine hK.out _ _ trivial (fun hHeld => ?_)
                     clear hK K
                     refine norm_ (a' := ?_) ?_ ?_
                     rotate_left
                     ·show Act.put _ (some 33) _ = _
                      simp only [Act.put, List.setIfInBounds_toArray, List.set_cons_zero, List.set_cons_succ, i64_w, i32_w]
                      rfl
                     refine pure_ (i := 9) (N := some 37) (v := ?_) (a' := ?_) (bv 18 31743) rfl rfl (any_of HT_.out (by kernel_rfl)) (fun _ _ _ h => h) (Or.inl ⟨by rfl, ?_⟩) ?_ ?_; rotate_left; (intro w'; go_simp; with_reducible rfl); rotate_left; (simp only [Act.put, List.setIfInBounds_toArray, List.set_cons_zero, List.set_cons_succ, i64_w, i32_w]; rfl)
                     refine pure_ (i := 10) (N := some 38) (v := ?_) (a' := ?_) (bv 18 32767) rfl rfl (any_of HT_.out (by kernel_rfl)) (fun _ _ _ h => h) (Or.inl ⟨by rfl, ?_⟩) ?_ ?_; rotate_left; (intro w'; go_simp; with_reducible rfl); rotate_left; (simp only [Act.put, List.setIfInBounds_toArray, List.set_cons_zero, List.set_cons_succ, i64_w, i32_w]; rfl)
                     refine pure_ (i := 15) (N := some 43) (v := ?_) (a' := ?_) (bv 18 65535) rfl rfl (any_of HT_.out (by kernel_rfl)) (fun _ _ _ h => h) (Or.inl ⟨by rfl, ?_⟩) ?_ ?_; rotate_left; (intro w'; go_simp; with_reducible rfl); rotate_left; (simp only [Act.put, List.setIfInBounds_toArray, List.set_cons_zero, List.set_cons_succ, i64_w, i32_w]; rfl)
                     refine one_ (i := 16) (N := some 44) (bv 18 131071) rfl rfl (one_of HT_.out (by kernel_rfl)) (by decide) (fun K hK => ?_)
                     refine goes_ Try.func32 (by kernel_rfl) rfl #[.string (((t318 ++ (a3.extract 0 (x9_10 : Int).toNat)) ++ (⟨#[0, 0]⟩ : ByteArray)) ++ (a3.extract ((ji19) : Int).toNat a3.size))] (by rfl) rfl rfl (by (try simp only [List.map_toArray, List.map_cons, List.map_nil]); first | done | (simp only [hji19]; rfl) | rfl | (simp only [List.length_drop, List.length_take]; rfl)) ?_
                     with_reducible refine (palanquinref02_Sum.calls kj10 (((t318 ++ (a3.extract 0 (x9_10 : Int).toNat)) ++ (⟨#[0, 0]⟩ : ByteArray)) ++ (a3.extract ((ji19) : Int).toNat a3.size)) t319 _ A23.out).mono ?_
                     rintro e w35 ⟨rfl, hb⟩
                     refine ⟨_, rfl, ?_⟩
                     have n0_ := mA (bP (by repeat (first | (with_reducible first | exact HB.out | apply bA | apply bN | apply bD) | exact HB.out)) hb)
                     clear HB
                     have HB := n0_
                     clear n0_
                     (try clear hb)
                     (try clear hb2)
                     (try clear hk)
                     (try clear hi)
                     refine hK.out _ _ trivial (fun hHeld => ?_)
                     clear hK K
                     refine norm_ (a' := ?_) ?_ ?_
                     rotate_left
                     ·show Act.put _ (some 44) _ = _
                      simp only [Act.put, List.setIfInBounds_toArray, List.set_cons_zero, List.set_cons_succ, i64_w, i32_w]
                      rfl
                     refine pure_ (i := 17) (N := some 10) (v := ?_) (a' := ?_) (bv 18 262143) rfl rfl (any_of HT_.out (by kernel_rfl)) (fun _ _ _ h => h) (Or.inl ⟨by rfl, ?_⟩) ?_ ?_; rotate_left; (intro w'; go_simp; with_reducible rfl); rotate_left; (simp only [Act.put, List.setIfInBounds_toArray, List.set_cons_zero, List.set_cons_succ, i64_w, i32_w]; rfl)
                     refine done_ (done_of HT_.out (by kernel_rfl)) ?_
                     try go_wp2
                     have n0_ := mA (bD HB.out)
                     clear HB
                     have HB := n0_
                     clear n0_
                     refine start_ (n := 13) (S := fun w' => True) (ds := []) (bv 13 0) (by kernel_rfl) rfl rfl trivial (fun hHeld => ?_); refine with_tabW palanquinref09_Seal.tab11 palanquinref09_Seal.bits11 (fun HT_ HW_ => ?_)
                     generalize w35.drew = w36 at HB hHeld ⊢
                     refine pure_ (i := 0) (N := some 51) (v := ?_) (a' := ?_) (bv 13 1) rfl rfl (any_of HT_.out (by kernel_rfl)) (fun _ _ _ h => h) (Or.inl ⟨by rfl, ?_⟩) ?_ ?_; rotate_left; (intro w'; go_simp; with_reducible rfl); rotate_left; (simp only [Act.put, List.setIfInBounds_toArray, List.set_cons_zero, List.set_cons_succ, i64_w, i32_w]; rfl)
                     refine pure_ (i := 1) (N := some 52) (v := ?_) (a' := ?_) (bv 13 3) rfl rfl (any_of HT_.out (by kernel_rfl)) (fun _ _ _ h => h) (Or.inl ⟨by rfl, ?_⟩) ?_ ?_; rotate_left; (intro w'; go_simp; with_reducible rfl); rotate_left; (simp only [Act.put, List.setIfInBounds_toArray, List.set_cons_zero, List.set_cons_succ, i64_w, i32_w]; rfl)
                     refine pure_ (i := 2) (N := some 53) (v := ?_) (a' := ?_) (bv 13 7) rfl rfl (any_of HT_.out (by kernel_rfl)) (fun _ _ _ h => h) (Or.inl ⟨by rfl, ?_⟩) ?_ ?_; rotate_left; (intro w'; go_simp; with_reducible rfl); rotate_left; (simp only [Act.put, List.setIfInBounds_toArray, List.set_cons_zero, List.set_cons_succ, i64_w, i32_w]; rfl)
                     refine pure_ (i := 3) (N := some 54) (v := ?_) (a' := ?_) (bv 13 15) rfl rfl (any_of HT_.out (by kernel_rfl)) (fun _ _ _ h => h) (Or.inl ⟨by rfl, ?_⟩) ?_ ?_; rotate_left; (intro w'; go_simp; with_reducible rfl); rotate_left; (simp only [Act.put, List.setIfInBounds_toArray, List.set_cons_zero, List.set_cons_succ, i64_w, i32_w]; rfl)
                     refine pure_ (i := 4) (N := some 55) (v := ?_) (a' := ?_) (bv 13 31) rfl rfl (any_of HT_.out (by kernel_rfl)) (fun _ _ _ h => h) (Or.inl ⟨by rfl, ?_⟩) ?_ ?_; rotate_left; (intro w'; go_simp; with_reducible rfl); rotate_left; (simp only [Act.put, List.setIfInBounds_toArray, List.set_cons_zero, List.set_cons_succ, i64_w, i32_w]; rfl)
                     refine pure_ (i := 7) (N := some 58) (v := ?_) (a' := ?_) (bv 13 159) rfl rfl (any_of HT_.out (by kernel_rfl)) (fun _ _ _ h => h) (Or.inl ⟨by rfl, ?_⟩) ?_ ?_; rotate_left; (intro w'; go_simp; with_reducible rfl); rotate_left; (simp only [Act.put, List.setIfInBounds_toArray, List.set_cons_zero, List.set_cons_succ, i64_w, i32_w]; rfl)
                     refine pure_ (i := 8) (N := some 59) (v := ?_) (a' := ?_) (bv 13 415) rfl rfl (any_of HT_.out (by kernel_rfl)) (fun _ _ _ h => h) (Or.inl ⟨by rfl, ?_⟩) ?_ ?_; rotate_left; (intro w'; go_simp; with_reducible rfl); rotate_left; (simp only [Act.put, List.setIfInBounds_toArray, List.set_cons_zero, List.set_cons_succ, i64_w, i32_w]; rfl)
                     refine pure_ (i := 9) (N := some 60) (v := ?_) (a' := ?_) (bv 13 927) rfl rfl (any_of HT_.out (by kernel_rfl)) (fun _ _ _ h => h) (Or.inl ⟨by rfl, ?_⟩) ?_ ?_; rotate_left; (intro w'; go_simp; with_reducible rfl); rotate_left; (simp only [Act.put, List.setIfInBounds_toArray, List.set_cons_zero, List.set_cons_succ, i64_w, i32_w]; rfl)
                     refine pure_ (i := 10) (N := some 61) (v := ?_) (a' := ?_) (bv 13 1951) rfl rfl (any_of HT_.out (by kernel_rfl)) (fun _ _ _ h => h) (Or.inl ⟨by rfl, ?_⟩) ?_ ?_; rotate_left; (intro w'; go_simp; with_reducible rfl); rotate_left; (simp only [Act.put, List.setIfInBounds_toArray, List.set_cons_zero, List.set_cons_succ, i64_w, i32_w]; rfl)
                     refine one_ (i := 5) (N := some 56) (bv 13 1983) rfl rfl (one_of HT_.out (by kernel_rfl)) (by decide) (fun K hK => ?_)
                     refine goes_ Try.func42 (by kernel_rfl) rfl #[.int .u64 65535, .int .i64 2] (by rfl) rfl rfl (by (try simp only [List.map_toArray, List.map_cons, List.map_nil]); first | done | rfl | (simp only [List.length_drop, List.length_take]; rfl)) ?_
                     with_reducible refine (palanquinref01_Bytes.calls kj10 65535 2 t320 _ A28.out).mono ?_
                     rintro e w37 ⟨rfl, hb⟩
                     refine ⟨_, rfl, ?_⟩
                     have n0_ := mA (bP (by repeat (first | (with_reducible first | exact HB.out | apply bA | apply bN | apply bD) | exact HB.out)) hb)
                     clear HB
                     have HB := n0_
                     clear n0_
                     (try clear hb)
                     (try clear hb2)
                     (try clear hk)
                     (try clear hi)
                     refine hK.out _ _ trivial (fun hHeld => ?_)
                     clear hK K
                     refine norm_ (a' := ?_) ?_ ?_
                     rotate_left
                     ·show Act.put _ (some 56) _ = _
                      simp only [Act.put, List.setIfInBounds_toArray, List.set_cons_zero, List.set_cons_succ, i64_w, i32_w]
                      rfl
                     refine pure_ (i := 6) (N := some 57) (v := ?_) (a' := ?_) (bv 13 2047) rfl rfl (any_of HT_.out (by kernel_rfl)) (fun _ _ _ h => h) (Or.inl ⟨by rfl, ?_⟩) ?_ ?_; rotate_left; (intro w'; go_simp; with_reducible rfl); rotate_left; (simp only [Act.put, List.setIfInBounds_toArray, List.set_cons_zero, List.set_cons_succ, i64_w, i32_w]; rfl)
                     refine pure_ (i := 11) (N := some 62) (v := ?_) (a' := ?_) (bv 13 4095) rfl rfl (any_of HT_.out (by kernel_rfl)) (fun _ _ _ h => h) (Or.inl ⟨by rfl, ?_⟩) ?_ ?_; rotate_left; (intro w'; go_simp; with_reducible rfl); rotate_left; (simp only [Act.put, List.setIfInBounds_toArray, List.set_cons_zero, List.set_cons_succ, i64_w, i32_w]; rfl)
                     refine pure_ (i := 12) (N := some 8) (v := ?_) (a' := ?_) (bv 13 8191) rfl rfl (any_of HT_.out (by kernel_rfl)) (fun _ _ _ h => h) (Or.inl ⟨by rfl, ?_⟩) ?_ ?_; rotate_left; (intro w'; go_simp; with_reducible rfl); rotate_left; (simp only [Act.put, List.setIfInBounds_toArray, List.set_cons_zero, List.set_cons_succ, i64_w, i32_w]; rfl)
                     refine done_ (done_of HT_.out (by kernel_rfl)) ?_
                     try go_wp2
                     go_ret
                     exact ⟨by first | rfl | (simp [errW_none, errW_some] <;> rfl) | (simp only [← hji19]; first | rfl | (simp [errW_none, errW_some] <;> rfl)) | (simp [*, errW_none, errW_some] <;> rfl), by repeat (first | (with_reducible first | exact HB.out | apply bA | apply bN | apply bD) | exact HB.out)⟩
                    ·rw [if_neg c32] at H
                     exact absurd H (by simp)
                   ·rw [if_neg c29] at H
                    exact absurd H (by simp)
                  ·rw [if_neg c25] at H
                   have c25b0 : (a0 == 17) = false := beq_eq_false_iff_ne.mpr c25
                   have c25b1 : (a0 != 17) = true := bne_iff_ne.mpr c25
                   have c38b0 := eq_true (of_decide_eq_true (by first | (with_reducible assumption) | assumption) : 0 ≤ x9_10)
                   have c39b0 := eq_true (of_decide_eq_true (by first | (with_reducible assumption) | assumption) : x9_10 ≤ (a3.size : Int))
                   replace H := Option.bind_eq_some_iff.mp H
                   obtain ⟨t321, A400, H⟩ := H
                   try dsimp +instances only at H
                   have A40 := mA A400
                   clear A400
                   by_cases c41 : (a3.extract 0 (x9_10 : Int).toNat).size + t321.size ≤ 9223372036854775807
                   ·rw [if_pos c41] at H
                    have c41b0 := eq_true c41
                    have c41b1 : decide ((a3.extract 0 (x9_10 : Int).toNat).size + t321.size ≤ 9223372036854775807) = true := decide_eq_true c41
                    try have c41b2 : (9223372036854775807 < (a3.extract 0 (x9_10 : Int).toNat).size + t321.size) = False := eq_false (Nat.not_lt.2 c41)
                    try have c41b5 : (9223372036854775807 < (x9_10 : Int).toNat + t321.size) = False := eq_false (by have h_ := c41; simp only [ByteArray.size_append, ByteArray.size_extract] at h_; simp only [eq_iff_iff, iff_true] at *; omega)
                    try have c41b6 : ((x9_10 : Int).toNat + t321.size ≤ 9223372036854775807) = True := eq_true (by have h_ := c41; simp only [ByteArray.size_append, ByteArray.size_extract] at h_; simp only [eq_iff_iff, iff_true] at *; omega)
                    have c42b0 := eq_true (of_decide_eq_true (by first | (with_reducible assumption) | assumption) : 0 ≤ (ji19))
                    have c43b0 := eq_true (of_decide_eq_true (by first | (with_reducible assumption) | assumption) : (ji19) ≤ (a3.size : Int))
                    by_cases c44 : ((a3.extract 0 (x9_10 : Int).toNat) ++ t321).size + (a3.extract ((ji19) : Int).toNat a3.size).size ≤ 9223372036854775807
                    ·rw [if_pos c44] at H
                     have c44b0 := eq_true c44
                     have c44b1 : decide (((a3.extract 0 (x9_10 : Int).toNat) ++ t321).size + (a3.extract ((ji19) : Int).toNat a3.size).size ≤ 9223372036854775807) = true := decide_eq_true c44
                     try have c44b2 : (9223372036854775807 < ((a3.extract 0 (x9_10 : Int).toNat) ++ t321).size + (a3.extract ((ji19) : Int).toNat a3.size).size) = False := eq_false (Nat.not_lt.2 c44)
                     try have c44b3 : (9223372036854775807 < ((a3.extract 0 (x9_10).toNat).size) + (t321.size) + (a3.extract ((ji19) : Int).toNat a3.size).size) = False := eq_false (by have h_ := c44; simp only [ByteArray.size_append] at h_; omega)
                     try have c44b4 : (((a3.extract 0 (x9_10).toNat).size) + (t321.size) + (a3.extract ((ji19) : Int).toNat a3.size).size ≤ 9223372036854775807) = True := eq_true (by have h_ := c44; simp only [ByteArray.size_append] at h_; omega)
                     try have c44b5 : (9223372036854775807 < ((x9_10).toNat) + (t321.size) + (a3.size - ((ji19) : Int).toNat)) = False := eq_false (by have h_ := c44; simp only [ByteArray.size_append, ByteArray.size_extract] at h_; simp only [eq_iff_iff, iff_true] at *; omega)
                     try have c44b6 : (((x9_10).toNat) + (t321.size) + (a3.size - ((ji19) : Int).toNat) ≤ 9223372036854775807) = True := eq_true (by have h_ := c44; simp only [ByteArray.size_append, ByteArray.size_extract] at h_; simp only [eq_iff_iff, iff_true] at *; omega)
                     obtain rfl := Option.some.inj H
                     try go_wp2
                     have n0_ := mA (bD HB.out)
                     clear HB
                     have HB := n0_
                     clear n0_
                     refine start_ (n := 18) (S := fun w' => True) (ds := []) (bv 18 0) (by kernel_rfl) rfl rfl trivial (fun hHeld => ?_); refine with_tabW palanquinref09_Seal.tab8 palanquinref09_Seal.bits8 (fun HT_ HW_ => ?_)
                     generalize wc.drew = w45 at HB hHeld ⊢
                     refine pure_ (i := 0) (N := some 28) (v := ?_) (a' := ?_) (bv 18 1) rfl rfl (any_of HT_.out (by kernel_rfl)) (fun _ _ _ h => h) (Or.inl ⟨by rfl, ?_⟩) ?_ ?_; rotate_left; (intro w'; go_simp; with_reducible rfl); rotate_left; (simp only [Act.put, List.setIfInBounds_toArray, List.set_cons_zero, List.set_cons_succ, i64_w, i32_w]; rfl)
                     refine pure_ (i := 1) (N := some 29) (v := ?_) (a' := ?_) (bv 18 3) rfl rfl (any_of HT_.out (by kernel_rfl)) (fun _ _ _ h => h) (Or.inl ⟨by rfl, ?_⟩) ?_ ?_; rotate_left; (intro w'; go_simp; with_reducible rfl); rotate_left; (simp only [Act.put, List.setIfInBounds_toArray, List.set_cons_zero, List.set_cons_succ, i64_w, i32_w]; rfl)
                     refine pure_ (i := 2) (N := some 30) (v := ?_) (a' := ?_) (bv 18 7) rfl rfl (any_of HT_.out (by kernel_rfl)) (fun _ _ _ h => h) (Or.inl ⟨by rfl, ?_⟩) ?_ ?_; rotate_left; (intro w'; go_simp; with_reducible rfl); rotate_left; (simp only [Act.put, List.setIfInBounds_toArray, List.set_cons_zero, List.set_cons_succ, i64_w, i32_w]; rfl)
                     refine pure_ (i := 3) (N := some 31) (v := ?_) (a' := ?_) (bv 18 15) rfl rfl (any_of HT_.out (by kernel_rfl)) (fun _ _ _ h => h) (Or.inl ⟨by rfl, ?_⟩) ?_ ?_; rotate_left; (intro w'; go_simp; with_reducible rfl); rotate_left; (simp only [Act.put, List.setIfInBounds_toArray, List.set_cons_zero, List.set_cons_succ, i64_w, i32_w]; rfl)
                     refine pure_ (i := 4) (N := some 32) (v := ?_) (a' := ?_) (bv 18 31) rfl rfl (any_of HT_.out (by kernel_rfl)) (fun _ _ _ h => h) (Or.inl ⟨by rfl, ?_⟩) ?_ ?_; rotate_left; (intro w'; go_simp; with_reducible rfl); rotate_left; (simp only [Act.put, List.setIfInBounds_toArray, List.set_cons_zero, List.set_cons_succ, i64_w, i32_w]; rfl)
                     refine pure_ (i := 6) (N := some 34) (v := ?_) (a' := ?_) (bv 18 95) rfl rfl (any_of HT_.out (by kernel_rfl)) (fun _ _ _ h => h) (Or.inl ⟨by rfl, ?_⟩) ?_ ?_; rotate_left; (intro w'; go_simp; with_reducible rfl); rotate_left; (simp only [Act.put, List.setIfInBounds_toArray, List.set_cons_zero, List.set_cons_succ, i64_w, i32_w]; rfl)
                     refine pure_ (i := 7) (N := some 35) (v := ?_) (a' := ?_) (bv 18 223) rfl rfl (any_of HT_.out (by kernel_rfl)) (fun _ _ _ h => h) (Or.inl ⟨by rfl, ?_⟩) ?_ ?_; rotate_left; (intro w'; go_simp; with_reducible rfl); rotate_left; (simp only [Act.put, List.setIfInBounds_toArray, List.set_cons_zero, List.set_cons_succ, i64_w, i32_w]; rfl)
                     refine pure_ (i := 8) (N := some 36) (v := ?_) (a' := ?_) (bv 18 479) rfl rfl (any_of HT_.out (by kernel_rfl)) (fun _ _ _ h => h) (Or.inl ⟨by rfl, ?_⟩) ?_ ?_; rotate_left; (intro w'; go_simp; with_reducible rfl); rotate_left; (simp only [Act.put, List.setIfInBounds_toArray, List.set_cons_zero, List.set_cons_succ, i64_w, i32_w]; rfl)
                     refine pure_ (i := 11) (N := some 39) (v := ?_) (a' := ?_) (bv 18 2527) rfl rfl (any_of HT_.out (by kernel_rfl)) (fun _ _ _ h => h) (Or.inl ⟨by rfl, ?_⟩) ?_ ?_; rotate_left; (intro w'; go_simp; with_reducible rfl); rotate_left; (simp only [Act.put, List.setIfInBounds_toArray, List.set_cons_zero, List.set_cons_succ, i64_w, i32_w]; rfl)
                     refine pure_ (i := 12) (N := some 40) (v := ?_) (a' := ?_) (bv 18 6623) rfl rfl (any_of HT_.out (by kernel_rfl)) (fun _ _ _ h => h) (Or.inl ⟨by rfl, ?_⟩) ?_ ?_; rotate_left; (intro w'; go_simp; with_reducible rfl); rotate_left; (simp only [Act.put, List.setIfInBounds_toArray, List.set_cons_zero, List.set_cons_succ, i64_w, i32_w]; rfl)
                     refine pure_ (i := 13) (N := some 41) (v := ?_) (a' := ?_) (bv 18 14815) rfl rfl (any_of HT_.out (by kernel_rfl)) (fun _ _ _ h => h) (Or.inl ⟨by rfl, ?_⟩) ?_ ?_; rotate_left; (intro w'; go_simp; with_reducible rfl); rotate_left; (simp only [Act.put, List.setIfInBounds_toArray, List.set_cons_zero, List.set_cons_succ, i64_w, i32_w]; rfl)
                     refine pure_ (i := 14) (N := some 42) (v := ?_) (a' := ?_) (bv 18 31199) rfl rfl (any_of HT_.out (by kernel_rfl)) (fun _ _ _ h => h) (Or.inl ⟨by rfl, ?_⟩) ?_ ?_; rotate_left; (intro w'; go_simp; with_reducible rfl); rotate_left; (simp only [Act.put, List.setIfInBounds_toArray, List.set_cons_zero, List.set_cons_succ, i64_w, i32_w]; rfl)
                     refine one_ (i := 5) (N := some 33) (bv 18 31231) rfl rfl (one_of HT_.out (by kernel_rfl)) (by decide) (fun K hK => ?_)
                     refine goes_ Try.func33 (by kernel_rfl) rfl #[.string a1, .string a2, .int .i64 a0, .int .i64 (a3.size : Int)] (by rfl) rfl rfl (by (try simp only [List.map_toArray, List.map_cons, List.map_nil]); first | done | rfl | (simp only [List.length_drop, List.length_take]; rfl)) ?_
                     with_reducible refine (palanquinref02_Pseudo.calls kj10 a1 a2 a0 (a3.size : Int) t318 _ A14.out).mono ?_
                     rintro e w46 ⟨rfl, hb⟩
                     refine ⟨_, rfl, ?_⟩
                     have n0_ := mA (bP (by repeat (first | (with_reducible first | exact HB.out | apply bA | apply bN | apply bD) | exact HB.out)) hb)
                     clear HB
                     have HB := n0_
                     clear n0_
                     (try clear hb)
                     (try clear hb2)
                     (try clear hk)
                     (try clear hi)
                     refine hK.out _ _ trivial (fun hHeld => ?_)
                     clear hK K
                     refine norm_ (a' := ?_) ?_ ?_
                     rotate_left
                     ·show Act.put _ (some 33) _ = _
                      simp only [Act.put, List.setIfInBounds_toArray, List.set_cons_zero, List.set_cons_succ, i64_w, i32_w]
                      rfl
                     refine pure_ (i := 9) (N := some 37) (v := ?_) (a' := ?_) (bv 18 31743) rfl rfl (any_of HT_.out (by kernel_rfl)) (fun _ _ _ h => h) (Or.inl ⟨by rfl, ?_⟩) ?_ ?_; rotate_left; (intro w'; go_simp; with_reducible rfl); rotate_left; (simp only [Act.put, List.setIfInBounds_toArray, List.set_cons_zero, List.set_cons_succ, i64_w, i32_w]; rfl)
                     refine pure_ (i := 10) (N := some 38) (v := ?_) (a' := ?_) (bv 18 32767) rfl rfl (any_of HT_.out (by kernel_rfl)) (fun _ _ _ h => h) (Or.inl ⟨by rfl, ?_⟩) ?_ ?_; rotate_left; (intro w'; go_simp; with_reducible rfl); rotate_left; (simp only [Act.put, List.setIfInBounds_toArray, List.set_cons_zero, List.set_cons_succ, i64_w, i32_w]; rfl)
                     refine pure_ (i := 15) (N := some 43) (v := ?_) (a' := ?_) (bv 18 65535) rfl rfl (any_of HT_.out (by kernel_rfl)) (fun _ _ _ h => h) (Or.inl ⟨by rfl, ?_⟩) ?_ ?_; rotate_left; (intro w'; go_simp; with_reducible rfl); rotate_left; (simp only [Act.put, List.setIfInBounds_toArray, List.set_cons_zero, List.set_cons_succ, i64_w, i32_w]; rfl)
                     refine one_ (i := 16) (N := some 44) (bv 18 131071) rfl rfl (one_of HT_.out (by kernel_rfl)) (by decide) (fun K hK => ?_)
                     refine goes_ Try.func32 (by kernel_rfl) rfl #[.string (((t318 ++ (a3.extract 0 (x9_10 : Int).toNat)) ++ (⟨#[0, 0]⟩ : ByteArray)) ++ (a3.extract ((ji19) : Int).toNat a3.size))] (by rfl) rfl rfl (by (try simp only [List.map_toArray, List.map_cons, List.map_nil]); first | done | (simp only [hji19]; rfl) | rfl | (simp only [List.length_drop, List.length_take]; rfl)) ?_
                     with_reducible refine (palanquinref02_Sum.calls kj10 (((t318 ++ (a3.extract 0 (x9_10 : Int).toNat)) ++ (⟨#[0, 0]⟩ : ByteArray)) ++ (a3.extract ((ji19) : Int).toNat a3.size)) t319 _ A23.out).mono ?_
                     rintro e w47 ⟨rfl, hb⟩
                     refine ⟨_, rfl, ?_⟩
                     have n0_ := mA (bP (by repeat (first | (with_reducible first | exact HB.out | apply bA | apply bN | apply bD) | exact HB.out)) hb)
                     clear HB
                     have HB := n0_
                     clear n0_
                     (try clear hb)
                     (try clear hb2)
                     (try clear hk)
                     (try clear hi)
                     refine hK.out _ _ trivial (fun hHeld => ?_)
                     clear hK K
                     refine norm_ (a' := ?_) ?_ ?_
                     rotate_left
                     ·show Act.put _ (some 44) _ = _
                      simp only [Act.put, List.setIfInBounds_toArray, List.set_cons_zero, List.set_cons_succ, i64_w, i32_w]
                      rfl
                     refine pure_ (i := 17) (N := some 10) (v := ?_) (a' := ?_) (bv 18 262143) rfl rfl (any_of HT_.out (by kernel_rfl)) (fun _ _ _ h => h) (Or.inl ⟨by rfl, ?_⟩) ?_ ?_; rotate_left; (intro w'; go_simp; with_reducible rfl); rotate_left; (simp only [Act.put, List.setIfInBounds_toArray, List.set_cons_zero, List.set_cons_succ, i64_w, i32_w]; rfl)
                     refine done_ (done_of HT_.out (by kernel_rfl)) ?_
                     try go_wp2
                     have n0_ := mA (bD HB.out)
                     clear HB
                     have HB := n0_
                     clear n0_
                     refine start_ (n := 13) (S := fun w' => True) (ds := []) (bv 13 0) (by kernel_rfl) rfl rfl trivial (fun hHeld => ?_); refine with_tabW palanquinref09_Seal.tab11 palanquinref09_Seal.bits11 (fun HT_ HW_ => ?_)
                     generalize w47.drew = w48 at HB hHeld ⊢
                     refine pure_ (i := 0) (N := some 51) (v := ?_) (a' := ?_) (bv 13 1) rfl rfl (any_of HT_.out (by kernel_rfl)) (fun _ _ _ h => h) (Or.inl ⟨by rfl, ?_⟩) ?_ ?_; rotate_left; (intro w'; go_simp; with_reducible rfl); rotate_left; (simp only [Act.put, List.setIfInBounds_toArray, List.set_cons_zero, List.set_cons_succ, i64_w, i32_w]; rfl)
                     refine pure_ (i := 1) (N := some 52) (v := ?_) (a' := ?_) (bv 13 3) rfl rfl (any_of HT_.out (by kernel_rfl)) (fun _ _ _ h => h) (Or.inl ⟨by rfl, ?_⟩) ?_ ?_; rotate_left; (intro w'; go_simp; with_reducible rfl); rotate_left; (simp only [Act.put, List.setIfInBounds_toArray, List.set_cons_zero, List.set_cons_succ, i64_w, i32_w]; rfl)
                     refine pure_ (i := 2) (N := some 53) (v := ?_) (a' := ?_) (bv 13 7) rfl rfl (any_of HT_.out (by kernel_rfl)) (fun _ _ _ h => h) (Or.inl ⟨by rfl, ?_⟩) ?_ ?_; rotate_left; (intro w'; go_simp; with_reducible rfl); rotate_left; (simp only [Act.put, List.setIfInBounds_toArray, List.set_cons_zero, List.set_cons_succ, i64_w, i32_w]; rfl)
                     refine pure_ (i := 3) (N := some 54) (v := ?_) (a' := ?_) (bv 13 15) rfl rfl (any_of HT_.out (by kernel_rfl)) (fun _ _ _ h => h) (Or.inl ⟨by rfl, ?_⟩) ?_ ?_; rotate_left; (intro w'; go_simp; with_reducible rfl); rotate_left; (simp only [Act.put, List.setIfInBounds_toArray, List.set_cons_zero, List.set_cons_succ, i64_w, i32_w]; rfl)
                     refine pure_ (i := 4) (N := some 55) (v := ?_) (a' := ?_) (bv 13 31) rfl rfl (any_of HT_.out (by kernel_rfl)) (fun _ _ _ h => h) (Or.inl ⟨by rfl, ?_⟩) ?_ ?_; rotate_left; (intro w'; go_simp; with_reducible rfl); rotate_left; (simp only [Act.put, List.setIfInBounds_toArray, List.set_cons_zero, List.set_cons_succ, i64_w, i32_w]; rfl)
                     refine pure_ (i := 7) (N := some 58) (v := ?_) (a' := ?_) (bv 13 159) rfl rfl (any_of HT_.out (by kernel_rfl)) (fun _ _ _ h => h) (Or.inl ⟨by rfl, ?_⟩) ?_ ?_; rotate_left; (intro w'; go_simp; with_reducible rfl); rotate_left; (simp only [Act.put, List.setIfInBounds_toArray, List.set_cons_zero, List.set_cons_succ, i64_w, i32_w]; rfl)
                     refine pure_ (i := 8) (N := some 59) (v := ?_) (a' := ?_) (bv 13 415) rfl rfl (any_of HT_.out (by kernel_rfl)) (fun _ _ _ h => h) (Or.inl ⟨by rfl, ?_⟩) ?_ ?_; rotate_left; (intro w'; go_simp; with_reducible rfl); rotate_left; (simp only [Act.put, List.setIfInBounds_toArray, List.set_cons_zero, List.set_cons_succ, i64_w, i32_w]; rfl)
                     refine pure_ (i := 9) (N := some 60) (v := ?_) (a' := ?_) (bv 13 927) rfl rfl (any_of HT_.out (by kernel_rfl)) (fun _ _ _ h => h) (Or.inl ⟨by rfl, ?_⟩) ?_ ?_; rotate_left; (intro w'; go_simp; with_reducible rfl); rotate_left; (simp only [Act.put, List.setIfInBounds_toArray, List.set_cons_zero, List.set_cons_succ, i64_w, i32_w]; rfl)
                     refine pure_ (i := 10) (N := some 61) (v := ?_) (a' := ?_) (bv 13 1951) rfl rfl (any_of HT_.out (by kernel_rfl)) (fun _ _ _ h => h) (Or.inl ⟨by rfl, ?_⟩) ?_ ?_; rotate_left; (intro w'; go_simp; with_reducible rfl); rotate_left; (simp only [Act.put, List.setIfInBounds_toArray, List.set_cons_zero, List.set_cons_succ, i64_w, i32_w]; rfl)
                     refine one_ (i := 5) (N := some 56) (bv 13 1983) rfl rfl (one_of HT_.out (by kernel_rfl)) (by decide) (fun K hK => ?_)
                     refine goes_ Try.func42 (by kernel_rfl) rfl #[.int .u64 (IntKind.u64.wrap (t319)), .int .i64 2] (by rfl) rfl rfl (by (try simp only [List.map_toArray, List.map_cons, List.map_nil]); first | done | rfl | (simp only [List.length_drop, List.length_take]; rfl)) ?_
                     with_reducible refine (palanquinref01_Bytes.calls kj10 (IntKind.u64.wrap (t319)) 2 t321 _ A40.out).mono ?_
                     rintro e w49 ⟨rfl, hb⟩
                     refine ⟨_, rfl, ?_⟩
                     have n0_ := mA (bP (by repeat (first | (with_reducible first | exact HB.out | apply bA | apply bN | apply bD) | exact HB.out)) hb)
                     clear HB
                     have HB := n0_
                     clear n0_
                     (try clear hb)
                     (try clear hb2)
                     (try clear hk)
                     (try clear hi)
                     refine hK.out _ _ trivial (fun hHeld => ?_)
                     clear hK K
                     refine norm_ (a' := ?_) ?_ ?_
                     rotate_left
                     ·show Act.put _ (some 56) _ = _
                      simp only [Act.put, List.setIfInBounds_toArray, List.set_cons_zero, List.set_cons_succ, i64_w, i32_w]
                      rfl
                     refine pure_ (i := 6) (N := some 57) (v := ?_) (a' := ?_) (bv 13 2047) rfl rfl (any_of HT_.out (by kernel_rfl)) (fun _ _ _ h => h) (Or.inl ⟨by rfl, ?_⟩) ?_ ?_; rotate_left; (intro w'; go_simp; with_reducible rfl); rotate_left; (simp only [Act.put, List.setIfInBounds_toArray, List.set_cons_zero, List.set_cons_succ, i64_w, i32_w]; rfl)
                     refine pure_ (i := 11) (N := some 62) (v := ?_) (a' := ?_) (bv 13 4095) rfl rfl (any_of HT_.out (by kernel_rfl)) (fun _ _ _ h => h) (Or.inl ⟨by rfl, ?_⟩) ?_ ?_; rotate_left; (intro w'; go_simp; with_reducible rfl); rotate_left; (simp only [Act.put, List.setIfInBounds_toArray, List.set_cons_zero, List.set_cons_succ, i64_w, i32_w]; rfl)
                     refine pure_ (i := 12) (N := some 8) (v := ?_) (a' := ?_) (bv 13 8191) rfl rfl (any_of HT_.out (by kernel_rfl)) (fun _ _ _ h => h) (Or.inl ⟨by rfl, ?_⟩) ?_ ?_; rotate_left; (intro w'; go_simp; with_reducible rfl); rotate_left; (simp only [Act.put, List.setIfInBounds_toArray, List.set_cons_zero, List.set_cons_succ, i64_w, i32_w]; rfl)
                     refine done_ (done_of HT_.out (by kernel_rfl)) ?_
                     try go_wp2
                     go_ret
                     exact ⟨by first | rfl | (simp [errW_none, errW_some] <;> rfl) | (simp only [← hji19]; first | rfl | (simp [errW_none, errW_some] <;> rfl)) | (simp [*, errW_none, errW_some] <;> rfl), by repeat (first | (with_reducible first | exact HB.out | apply bA | apply bN | apply bD) | exact HB.out)⟩
                    ·rw [if_neg c44] at H
                     exact absurd H (by simp)
                   ·rw [if_neg c41] at H
                    exact absurd H (by simp)
                 ·rw [if_neg c24] at H
                  have c24b0 : (t319 == 0) = false := beq_eq_false_iff_ne.mpr c24
                  have c24b1 : (t319 != 0) = true := bne_iff_ne.mpr c24
                  have c50b0 := eq_true (of_decide_eq_true (by first | (with_reducible assumption) | assumption) : 0 ≤ x9_10)
                  have c51b0 := eq_true (of_decide_eq_true (by first | (with_reducible assumption) | assumption) : x9_10 ≤ (a3.size : Int))
                  replace H := Option.bind_eq_some_iff.mp H
                  obtain ⟨t322, A520, H⟩ := H
                  try dsimp +instances only at H
                  have A52 := mA A520
                  clear A520
                  by_cases c53 : (a3.extract 0 (x9_10 : Int).toNat).size + t322.size ≤ 9223372036854775807
                  ·rw [if_pos c53] at H
                   have c53b0 := eq_true c53
                   have c53b1 : decide ((a3.extract 0 (x9_10 : Int).toNat).size + t322.size ≤ 9223372036854775807) = true := decide_eq_true c53
                   try have c53b2 : (9223372036854775807 < (a3.extract 0 (x9_10 : Int).toNat).size + t322.size) = False := eq_false (Nat.not_lt.2 c53)
                   try have c53b5 : (9223372036854775807 < (x9_10 : Int).toNat + t322.size) = False := eq_false (by have h_ := c53; simp only [ByteArray.size_append, ByteArray.size_extract] at h_; simp only [eq_iff_iff, iff_true] at *; omega)
                   try have c53b6 : ((x9_10 : Int).toNat + t322.size ≤ 9223372036854775807) = True := eq_true (by have h_ := c53; simp only [ByteArray.size_append, ByteArray.size_extract] at h_; simp only [eq_iff_iff, iff_true] at *; omega)
                   have c54b0 := eq_true (of_decide_eq_true (by first | (with_reducible assumption) | assumption) : 0 ≤ (ji19))
                   have c55b0 := eq_true (of_decide_eq_true (by first | (with_reducible assumption) | assumption) : (ji19) ≤ (a3.size : Int))
                   by_cases c56 : ((a3.extract 0 (x9_10 : Int).toNat) ++ t322).size + (a3.extract ((ji19) : Int).toNat a3.size).size ≤ 9223372036854775807
                   ·rw [if_pos c56] at H
                    have c56b0 := eq_true c56
                    have c56b1 : decide (((a3.extract 0 (x9_10 : Int).toNat) ++ t322).size + (a3.extract ((ji19) : Int).toNat a3.size).size ≤ 9223372036854775807) = true := decide_eq_true c56
                    try have c56b2 : (9223372036854775807 < ((a3.extract 0 (x9_10 : Int).toNat) ++ t322).size + (a3.extract ((ji19) : Int).toNat a3.size).size) = False := eq_false (Nat.not_lt.2 c56)
                    try have c56b3 : (9223372036854775807 < ((a3.extract 0 (x9_10).toNat).size) + (t322.size) + (a3.extract ((ji19) : Int).toNat a3.size).size) = False := eq_false (by have h_ := c56; simp only [ByteArray.size_append] at h_; omega)
                    try have c56b4 : (((a3.extract 0 (x9_10).toNat).size) + (t322.size) + (a3.extract ((ji19) : Int).toNat a3.size).size ≤ 9223372036854775807) = True := eq_true (by have h_ := c56; simp only [ByteArray.size_append] at h_; omega)
                    try have c56b5 : (9223372036854775807 < ((x9_10).toNat) + (t322.size) + (a3.size - ((ji19) : Int).toNat)) = False := eq_false (by have h_ := c56; simp only [ByteArray.size_append, ByteArray.size_extract] at h_; simp only [eq_iff_iff, iff_true] at *; omega)
                    try have c56b6 : (((x9_10).toNat) + (t322.size) + (a3.size - ((ji19) : Int).toNat) ≤ 9223372036854775807) = True := eq_true (by have h_ := c56; simp only [ByteArray.size_append, ByteArray.size_extract] at h_; simp only [eq_iff_iff, iff_true] at *; omega)
                    obtain rfl := Option.some.inj H
                    try go_wp2
                    have n0_ := mA (bD HB.out)
                    clear HB
                    have HB := n0_
                    clear n0_
                    refine start_ (n := 18) (S := fun w' => True) (ds := []) (bv 18 0) (by kernel_rfl) rfl rfl trivial (fun hHeld => ?_); refine with_tabW palanquinref09_Seal.tab8 palanquinref09_Seal.bits8 (fun HT_ HW_ => ?_)
                    generalize wc.drew = w57 at HB hHeld ⊢
                    refine pure_ (i := 0) (N := some 28) (v := ?_) (a' := ?_) (bv 18 1) rfl rfl (any_of HT_.out (by kernel_rfl)) (fun _ _ _ h => h) (Or.inl ⟨by rfl, ?_⟩) ?_ ?_; rotate_left; (intro w'; go_simp; with_reducible rfl); rotate_left; (simp only [Act.put, List.setIfInBounds_toArray, List.set_cons_zero, List.set_cons_succ, i64_w, i32_w]; rfl)
                    refine pure_ (i := 1) (N := some 29) (v := ?_) (a' := ?_) (bv 18 3) rfl rfl (any_of HT_.out (by kernel_rfl)) (fun _ _ _ h => h) (Or.inl ⟨by rfl, ?_⟩) ?_ ?_; rotate_left; (intro w'; go_simp; with_reducible rfl); rotate_left; (simp only [Act.put, List.setIfInBounds_toArray, List.set_cons_zero, List.set_cons_succ, i64_w, i32_w]; rfl)
                    refine pure_ (i := 2) (N := some 30) (v := ?_) (a' := ?_) (bv 18 7) rfl rfl (any_of HT_.out (by kernel_rfl)) (fun _ _ _ h => h) (Or.inl ⟨by rfl, ?_⟩) ?_ ?_; rotate_left; (intro w'; go_simp; with_reducible rfl); rotate_left; (simp only [Act.put, List.setIfInBounds_toArray, List.set_cons_zero, List.set_cons_succ, i64_w, i32_w]; rfl)
                    refine pure_ (i := 3) (N := some 31) (v := ?_) (a' := ?_) (bv 18 15) rfl rfl (any_of HT_.out (by kernel_rfl)) (fun _ _ _ h => h) (Or.inl ⟨by rfl, ?_⟩) ?_ ?_; rotate_left; (intro w'; go_simp; with_reducible rfl); rotate_left; (simp only [Act.put, List.setIfInBounds_toArray, List.set_cons_zero, List.set_cons_succ, i64_w, i32_w]; rfl)
                    refine pure_ (i := 4) (N := some 32) (v := ?_) (a' := ?_) (bv 18 31) rfl rfl (any_of HT_.out (by kernel_rfl)) (fun _ _ _ h => h) (Or.inl ⟨by rfl, ?_⟩) ?_ ?_; rotate_left; (intro w'; go_simp; with_reducible rfl); rotate_left; (simp only [Act.put, List.setIfInBounds_toArray, List.set_cons_zero, List.set_cons_succ, i64_w, i32_w]; rfl)
                    refine pure_ (i := 6) (N := some 34) (v := ?_) (a' := ?_) (bv 18 95) rfl rfl (any_of HT_.out (by kernel_rfl)) (fun _ _ _ h => h) (Or.inl ⟨by rfl, ?_⟩) ?_ ?_; rotate_left; (intro w'; go_simp; with_reducible rfl); rotate_left; (simp only [Act.put, List.setIfInBounds_toArray, List.set_cons_zero, List.set_cons_succ, i64_w, i32_w]; rfl)
                    refine pure_ (i := 7) (N := some 35) (v := ?_) (a' := ?_) (bv 18 223) rfl rfl (any_of HT_.out (by kernel_rfl)) (fun _ _ _ h => h) (Or.inl ⟨by rfl, ?_⟩) ?_ ?_; rotate_left; (intro w'; go_simp; with_reducible rfl); rotate_left; (simp only [Act.put, List.setIfInBounds_toArray, List.set_cons_zero, List.set_cons_succ, i64_w, i32_w]; rfl)
                    refine pure_ (i := 8) (N := some 36) (v := ?_) (a' := ?_) (bv 18 479) rfl rfl (any_of HT_.out (by kernel_rfl)) (fun _ _ _ h => h) (Or.inl ⟨by rfl, ?_⟩) ?_ ?_; rotate_left; (intro w'; go_simp; with_reducible rfl); rotate_left; (simp only [Act.put, List.setIfInBounds_toArray, List.set_cons_zero, List.set_cons_succ, i64_w, i32_w]; rfl)
                    refine pure_ (i := 11) (N := some 39) (v := ?_) (a' := ?_) (bv 18 2527) rfl rfl (any_of HT_.out (by kernel_rfl)) (fun _ _ _ h => h) (Or.inl ⟨by rfl, ?_⟩) ?_ ?_; rotate_left; (intro w'; go_simp; with_reducible rfl); rotate_left; (simp only [Act.put, List.setIfInBounds_toArray, List.set_cons_zero, List.set_cons_succ, i64_w, i32_w]; rfl)
                    refine pure_ (i := 12) (N := some 40) (v := ?_) (a' := ?_) (bv 18 6623) rfl rfl (any_of HT_.out (by kernel_rfl)) (fun _ _ _ h => h) (Or.inl ⟨by rfl, ?_⟩) ?_ ?_; rotate_left; (intro w'; go_simp; with_reducible rfl); rotate_left; (simp only [Act.put, List.setIfInBounds_toArray, List.set_cons_zero, List.set_cons_succ, i64_w, i32_w]; rfl)
                    refine pure_ (i := 13) (N := some 41) (v := ?_) (a' := ?_) (bv 18 14815) rfl rfl (any_of HT_.out (by kernel_rfl)) (fun _ _ _ h => h) (Or.inl ⟨by rfl, ?_⟩) ?_ ?_; rotate_left; (intro w'; go_simp; with_reducible rfl); rotate_left; (simp only [Act.put, List.setIfInBounds_toArray, List.set_cons_zero, List.set_cons_succ, i64_w, i32_w]; rfl)
                    refine pure_ (i := 14) (N := some 42) (v := ?_) (a' := ?_) (bv 18 31199) rfl rfl (any_of HT_.out (by kernel_rfl)) (fun _ _ _ h => h) (Or.inl ⟨by rfl, ?_⟩) ?_ ?_; rotate_left; (intro w'; go_simp; with_reducible rfl); rotate_left; (simp only [Act.put, List.setIfInBounds_toArray, List.set_cons_zero, List.set_cons_succ, i64_w, i32_w]; rfl)
                    refine one_ (i := 5) (N := some 33) (bv 18 31231) rfl rfl (one_of HT_.out (by kernel_rfl)) (by decide) (fun K hK => ?_)
                    refine goes_ Try.func33 (by kernel_rfl) rfl #[.string a1, .string a2, .int .i64 a0, .int .i64 (a3.size : Int)] (by rfl) rfl rfl (by (try simp only [List.map_toArray, List.map_cons, List.map_nil]); first | done | rfl | (simp only [List.length_drop, List.length_take]; rfl)) ?_
                    with_reducible refine (palanquinref02_Pseudo.calls kj10 a1 a2 a0 (a3.size : Int) t318 _ A14.out).mono ?_
                    rintro e w58 ⟨rfl, hb⟩
                    refine ⟨_, rfl, ?_⟩
                    have n0_ := mA (bP (by repeat (first | (with_reducible first | exact HB.out | apply bA | apply bN | apply bD) | exact HB.out)) hb)
                    clear HB
                    have HB := n0_
                    clear n0_
                    (try clear hb)
                    (try clear hb2)
                    (try clear hk)
                    (try clear hi)
                    refine hK.out _ _ trivial (fun hHeld => ?_)
                    clear hK K
                    refine norm_ (a' := ?_) ?_ ?_
                    rotate_left
                    ·show Act.put _ (some 33) _ = _
                     simp only [Act.put, List.setIfInBounds_toArray, List.set_cons_zero, List.set_cons_succ, i64_w, i32_w]
                     rfl
                    refine pure_ (i := 9) (N := some 37) (v := ?_) (a' := ?_) (bv 18 31743) rfl rfl (any_of HT_.out (by kernel_rfl)) (fun _ _ _ h => h) (Or.inl ⟨by rfl, ?_⟩) ?_ ?_; rotate_left; (intro w'; go_simp; with_reducible rfl); rotate_left; (simp only [Act.put, List.setIfInBounds_toArray, List.set_cons_zero, List.set_cons_succ, i64_w, i32_w]; rfl)
                    refine pure_ (i := 10) (N := some 38) (v := ?_) (a' := ?_) (bv 18 32767) rfl rfl (any_of HT_.out (by kernel_rfl)) (fun _ _ _ h => h) (Or.inl ⟨by rfl, ?_⟩) ?_ ?_; rotate_left; (intro w'; go_simp; with_reducible rfl); rotate_left; (simp only [Act.put, List.setIfInBounds_toArray, List.set_cons_zero, List.set_cons_succ, i64_w, i32_w]; rfl)
                    refine pure_ (i := 15) (N := some 43) (v := ?_) (a' := ?_) (bv 18 65535) rfl rfl (any_of HT_.out (by kernel_rfl)) (fun _ _ _ h => h) (Or.inl ⟨by rfl, ?_⟩) ?_ ?_; rotate_left; (intro w'; go_simp; with_reducible rfl); rotate_left; (simp only [Act.put, List.setIfInBounds_toArray, List.set_cons_zero, List.set_cons_succ, i64_w, i32_w]; rfl)
                    refine one_ (i := 16) (N := some 44) (bv 18 131071) rfl rfl (one_of HT_.out (by kernel_rfl)) (by decide) (fun K hK => ?_)
                    refine goes_ Try.func32 (by kernel_rfl) rfl #[.string (((t318 ++ (a3.extract 0 (x9_10 : Int).toNat)) ++ (⟨#[0, 0]⟩ : ByteArray)) ++ (a3.extract ((ji19) : Int).toNat a3.size))] (by rfl) rfl rfl (by (try simp only [List.map_toArray, List.map_cons, List.map_nil]); first | done | (simp only [hji19]; rfl) | rfl | (simp only [List.length_drop, List.length_take]; rfl)) ?_
                    with_reducible refine (palanquinref02_Sum.calls kj10 (((t318 ++ (a3.extract 0 (x9_10 : Int).toNat)) ++ (⟨#[0, 0]⟩ : ByteArray)) ++ (a3.extract ((ji19) : Int).toNat a3.size)) t319 _ A23.out).mono ?_
                    rintro e w59 ⟨rfl, hb⟩
                    refine ⟨_, rfl, ?_⟩
                    have n0_ := mA (bP (by repeat (first | (with_reducible first | exact HB.out | apply bA | apply bN | apply bD) | exact HB.out)) hb)
                    clear HB
                    have HB := n0_
                    clear n0_
                    (try clear hb)
                    (try clear hb2)
                    (try clear hk)
                    (try clear hi)
                    refine hK.out _ _ trivial (fun hHeld => ?_)
                    clear hK K
                    refine norm_ (a' := ?_) ?_ ?_
                    rotate_left
                    ·show Act.put _ (some 44) _ = _
                     simp only [Act.put, List.setIfInBounds_toArray, List.set_cons_zero, List.set_cons_succ, i64_w, i32_w]
                     rfl
                    refine pure_ (i := 17) (N := some 10) (v := ?_) (a' := ?_) (bv 18 262143) rfl rfl (any_of HT_.out (by kernel_rfl)) (fun _ _ _ h => h) (Or.inl ⟨by rfl, ?_⟩) ?_ ?_; rotate_left; (intro w'; go_simp; with_reducible rfl); rotate_left; (simp only [Act.put, List.setIfInBounds_toArray, List.set_cons_zero, List.set_cons_succ, i64_w, i32_w]; rfl)
                    refine done_ (done_of HT_.out (by kernel_rfl)) ?_
                    try go_wp2
                    have n0_ := mA (bD HB.out)
                    clear HB
                    have HB := n0_
                    clear n0_
                    refine start_ (n := 13) (S := fun w' => True) (ds := []) (bv 13 0) (by kernel_rfl) rfl rfl trivial (fun hHeld => ?_); refine with_tabW palanquinref09_Seal.tab11 palanquinref09_Seal.bits11 (fun HT_ HW_ => ?_)
                    generalize w59.drew = w60 at HB hHeld ⊢
                    refine pure_ (i := 0) (N := some 51) (v := ?_) (a' := ?_) (bv 13 1) rfl rfl (any_of HT_.out (by kernel_rfl)) (fun _ _ _ h => h) (Or.inl ⟨by rfl, ?_⟩) ?_ ?_; rotate_left; (intro w'; go_simp; with_reducible rfl); rotate_left; (simp only [Act.put, List.setIfInBounds_toArray, List.set_cons_zero, List.set_cons_succ, i64_w, i32_w]; rfl)
                    refine pure_ (i := 1) (N := some 52) (v := ?_) (a' := ?_) (bv 13 3) rfl rfl (any_of HT_.out (by kernel_rfl)) (fun _ _ _ h => h) (Or.inl ⟨by rfl, ?_⟩) ?_ ?_; rotate_left; (intro w'; go_simp; with_reducible rfl); rotate_left; (simp only [Act.put, List.setIfInBounds_toArray, List.set_cons_zero, List.set_cons_succ, i64_w, i32_w]; rfl)
                    refine pure_ (i := 2) (N := some 53) (v := ?_) (a' := ?_) (bv 13 7) rfl rfl (any_of HT_.out (by kernel_rfl)) (fun _ _ _ h => h) (Or.inl ⟨by rfl, ?_⟩) ?_ ?_; rotate_left; (intro w'; go_simp; with_reducible rfl); rotate_left; (simp only [Act.put, List.setIfInBounds_toArray, List.set_cons_zero, List.set_cons_succ, i64_w, i32_w]; rfl)
                    refine pure_ (i := 3) (N := some 54) (v := ?_) (a' := ?_) (bv 13 15) rfl rfl (any_of HT_.out (by kernel_rfl)) (fun _ _ _ h => h) (Or.inl ⟨by rfl, ?_⟩) ?_ ?_; rotate_left; (intro w'; go_simp; with_reducible rfl); rotate_left; (simp only [Act.put, List.setIfInBounds_toArray, List.set_cons_zero, List.set_cons_succ, i64_w, i32_w]; rfl)
                    refine pure_ (i := 4) (N := some 55) (v := ?_) (a' := ?_) (bv 13 31) rfl rfl (any_of HT_.out (by kernel_rfl)) (fun _ _ _ h => h) (Or.inl ⟨by rfl, ?_⟩) ?_ ?_; rotate_left; (intro w'; go_simp; with_reducible rfl); rotate_left; (simp only [Act.put, List.setIfInBounds_toArray, List.set_cons_zero, List.set_cons_succ, i64_w, i32_w]; rfl)
                    refine pure_ (i := 7) (N := some 58) (v := ?_) (a' := ?_) (bv 13 159) rfl rfl (any_of HT_.out (by kernel_rfl)) (fun _ _ _ h => h) (Or.inl ⟨by rfl, ?_⟩) ?_ ?_; rotate_left; (intro w'; go_simp; with_reducible rfl); rotate_left; (simp only [Act.put, List.setIfInBounds_toArray, List.set_cons_zero, List.set_cons_succ, i64_w, i32_w]; rfl)
                    refine pure_ (i := 8) (N := some 59) (v := ?_) (a' := ?_) (bv 13 415) rfl rfl (any_of HT_.out (by kernel_rfl)) (fun _ _ _ h => h) (Or.inl ⟨by rfl, ?_⟩) ?_ ?_; rotate_left; (intro w'; go_simp; with_reducible rfl); rotate_left; (simp only [Act.put, List.setIfInBounds_toArray, List.set_cons_zero, List.set_cons_succ, i64_w, i32_w]; rfl)
                    refine pure_ (i := 9) (N := some 60) (v := ?_) (a' := ?_) (bv 13 927) rfl rfl (any_of HT_.out (by kernel_rfl)) (fun _ _ _ h => h) (Or.inl ⟨by rfl, ?_⟩) ?_ ?_; rotate_left; (intro w'; go_simp; with_reducible rfl); rotate_left; (simp only [Act.put, List.setIfInBounds_toArray, List.set_cons_zero, List.set_cons_succ, i64_w, i32_w]; rfl)
                    refine pure_ (i := 10) (N := some 61) (v := ?_) (a' := ?_) (bv 13 1951) rfl rfl (any_of HT_.out (by kernel_rfl)) (fun _ _ _ h => h) (Or.inl ⟨by rfl, ?_⟩) ?_ ?_; rotate_left; (intro w'; go_simp; with_reducible rfl); rotate_left; (simp only [Act.put, List.setIfInBounds_toArray, List.set_cons_zero, List.set_cons_succ, i64_w, i32_w]; rfl)
                    refine one_ (i := 5) (N := some 56) (bv 13 1983) rfl rfl (one_of HT_.out (by kernel_rfl)) (by decide) (fun K hK => ?_)
                    refine goes_ Try.func42 (by kernel_rfl) rfl #[.int .u64 (IntKind.u64.wrap (t319)), .int .i64 2] (by rfl) rfl rfl (by (try simp only [List.map_toArray, List.map_cons, List.map_nil]); first | done | rfl | (simp only [List.length_drop, List.length_take]; rfl)) ?_
                    with_reducible refine (palanquinref01_Bytes.calls kj10 (IntKind.u64.wrap (t319)) 2 t322 _ A52.out).mono ?_
                    rintro e w61 ⟨rfl, hb⟩
                    refine ⟨_, rfl, ?_⟩
                    have n0_ := mA (bP (by repeat (first | (with_reducible first | exact HB.out | apply bA | apply bN | apply bD) | exact HB.out)) hb)
                    clear HB
                    have HB := n0_
                    clear n0_
                    (try clear hb)
                    (try clear hb2)
                    (try clear hk)
                    (try clear hi)
                    refine hK.out _ _ trivial (fun hHeld => ?_)
                    clear hK K
                    refine norm_ (a' := ?_) ?_ ?_
                    rotate_left
                    ·show Act.put _ (some 56) _ = _
                     simp only [Act.put, List.setIfInBounds_toArray, List.set_cons_zero, List.set_cons_succ, i64_w, i32_w]
                     rfl
                    refine pure_ (i := 6) (N := some 57) (v := ?_) (a' := ?_) (bv 13 2047) rfl rfl (any_of HT_.out (by kernel_rfl)) (fun _ _ _ h => h) (Or.inl ⟨by rfl, ?_⟩) ?_ ?_; rotate_left; (intro w'; go_simp; with_reducible rfl); rotate_left; (simp only [Act.put, List.setIfInBounds_toArray, List.set_cons_zero, List.set_cons_succ, i64_w, i32_w]; rfl)
                    refine pure_ (i := 11) (N := some 62) (v := ?_) (a' := ?_) (bv 13 4095) rfl rfl (any_of HT_.out (by kernel_rfl)) (fun _ _ _ h => h) (Or.inl ⟨by rfl, ?_⟩) ?_ ?_; rotate_left; (intro w'; go_simp; with_reducible rfl); rotate_left; (simp only [Act.put, List.setIfInBounds_toArray, List.set_cons_zero, List.set_cons_succ, i64_w, i32_w]; rfl)
                    refine pure_ (i := 12) (N := some 8) (v := ?_) (a' := ?_) (bv 13 8191) rfl rfl (any_of HT_.out (by kernel_rfl)) (fun _ _ _ h => h) (Or.inl ⟨by rfl, ?_⟩) ?_ ?_; rotate_left; (intro w'; go_simp; with_reducible rfl); rotate_left; (simp only [Act.put, List.setIfInBounds_toArray, List.set_cons_zero, List.set_cons_succ, i64_w, i32_w]; rfl)
                    refine done_ (done_of HT_.out (by kernel_rfl)) ?_
                    try go_wp2
                    go_ret
                    exact ⟨by first | rfl | (simp [errW_none, errW_some] <;> rfl) | (simp only [← hji19]; first | rfl | (simp [errW_none, errW_some] <;> rfl)) | (simp [*, errW_none, errW_some] <;> rfl), by repeat (first | (with_reducible first | exact HB.out | apply bA | apply bN | apply bD) | exact HB.out)⟩
                   ·rw [if_neg c56] at H
                    exact absurd H (by simp)
                  ·rw [if_neg c53] at H
                   exact absurd H (by simp)
                ·rw [if_neg c22] at H
                 exact absurd H (by simp)
               ·rw [if_neg c21] at H
                exact absurd H (by simp)
              ·rw [if_neg c20] at H
               exact absurd H (by simp)
             ·rw [if_neg c18] at H
              exact absurd H (by simp)
            ·rw [if_neg c17] at H
             exact absurd H (by simp)
           ·rw [if_neg c16] at H
            exact absurd H (by simp)
          ·rw [if_neg c15] at H
           exact absurd H (by simp)

end Go.Proofs.Ytcmalglippmocaa.G
end
