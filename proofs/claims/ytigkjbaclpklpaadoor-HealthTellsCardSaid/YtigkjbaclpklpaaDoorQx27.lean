/- The calls of these Go functions answer what the Lean functions beside them answer; written by a program (wip/pr2.py, out of the print of the loaded program); under no condition but those that stand in the theorems. -/
import Derived.Test.YtigkjbaclpklpaaDoorQx0
import Derived.Test.YtigkjbaclpklpaaDoorQx1
import Derived.Test.YtigkjbaclpklpaaDoorQx2
import Derived.Test.YtigkjbaclpklpaaDoorQx3
namespace Go.Proofs.YtigkjbaclpklpaaDoor.Q
open Go.RowKit Go.Proofs.YtigkjbaclpklpaaDoorW.PrintWords Go.Proofs.YtigkjbaclpklpaaDoorW.PrintLast Go.Proofs.YtigkjbaclpklpaaDoorW.PrintMore
attribute [local go_sem] max2_int min2_int max_two min_two max_three min_three max_four min_four   -- for this text's walks alone
set_option linter.unusedVariables false
set_option linter.unusedSimpArgs false

attribute [local go_sem high] eqA25 eqA28 eqA82
/-! ### clepsydraref06_Tables: function 27 -/
def clepsydraref06_Tables.l0 : Nat → List (S82) → List (S82) → Int → Int → Option (Bool)
 | 0, _, _, _, _ => none
 | k + 1, x0, x1, x12, x13 => if x13 < x12 then (if 0 ≤ x13 then (if x13 < (x0.length : Int) then (if x13 < (x1.length : Int) then (if (!(((rd_T82 x0 x13).f0) == ((rd_T82 x1 x13).f0)) || (!(((rd_T82 x0 x13).f1) == ((rd_T82 x1 x13).f1)))) = true then (some false) else (clepsydraref06_Tables.l0 k x0 x1 x12 (wrap64 (x13 + 1)))) else (none)) else (none)) else (none)) else (some true)
def clepsydraref06_Tables.f (k : Nat) (l0 : List (S82)) (l1 : List (S82)) : Option (Bool) := if (l0.length : Int) = (l1.length : Int) then (clepsydraref06_Tables.l0 k l0 l1 (l0.length : Int) 0) else (some false)
theorem clepsydraref06_Tables.mono_l : ∀ k, (∀ y0 y1 y2 y3, LeO (clepsydraref06_Tables.l0 k y0 y1 y2 y3) (clepsydraref06_Tables.l0 (k + 1) y0 y1 y2 y3))
 | 0 => fun _ _ _ _ r h => by simp [clepsydraref06_Tables.l0] at h
 | k + 1 => by
  have ih0 := clepsydraref06_Tables.mono_l k
  intro y0 y1 y2 y3
  unfold clepsydraref06_Tables.l0
  repeat' first
  | (with_reducible exact ih0 _ _ _ _)
  | (with_reducible exact LeO.refl _)
  | (with_reducible exact LeO.none _)
  | (with_reducible refine LeO.ite ?_ ?_)
  | (with_reducible refine LeO.bind ?_ (fun _ => ?_))
  | exact ih0 _ _ _ _
  | exact LeO.none _
  | refine LeO.ite ?_ ?_
  | refine LeO.bind ?_ (fun _ => ?_)
theorem clepsydraref06_Tables.mono : ∀ a0 a1 k, LeO (clepsydraref06_Tables.f k a0 a1) (clepsydraref06_Tables.f (k + 1) a0 a1) := by
 intro a0 a1 k
 have ih0 := clepsydraref06_Tables.mono_l k
 unfold clepsydraref06_Tables.f
 repeat' first
   | (with_reducible exact ih0 _ _ _ _)
   | (with_reducible exact LeO.refl _)
   | (with_reducible exact LeO.none _)
   | (with_reducible refine LeO.ite ?_ ?_)
   | (with_reducible refine LeO.bind ?_ (fun _ => ?_))
   | exact ih0 _ _ _ _
   | exact LeO.none _
   | refine LeO.ite ?_ ?_
   | refine LeO.bind ?_ (fun _ => ?_)
set_option maxHeartbeats 8000000 in
set_option maxRecDepth 100000 in
theorem clepsydraref06_Tables.calls (k : Nat) (A0 : Option Addr) (c0 : Nat) (l0 : List (S82)) (A1 : Option Addr) (c1 : Nat) (l1 : List (S82)) (r : Bool) (w : World) (hr0 : Kd.C k82 w A0 l0.length l0) (hc0 : l0.length ≤ c0) (hr1 : Kd.C k82 w A1 l1.length l1) (hc1 : l1.length ≤ c1) (h : clepsydraref06_Tables.f k l0 l1 = some r) :
  Calls Tryd.prog 27 #[.slice A0 l0.length c0, .slice A1 l1.length c1] w fun e w' => e = .returned (.bool r) ∧ Drawn0 w w' := by
 have hu82 := Tryd.underlying82
 have HR0 := mk hr0
 have HC0 := mk hc0
 clear hr0 hc0
 have HR1 := mk hr1
 have HC1 := mk hc1
 clear hr1 hc1
 have H : (if (l0.length : Int) = (l1.length : Int) then (clepsydraref06_Tables.l0 k l0 l1 (l0.length : Int) 0) else (some false)) = some r := h
 clear h
 by_cases c3 : (l0.length : Int) = (l1.length : Int)
 ·rw [if_pos c3] at H
  have c3b0 : ((l0.length : Int) == (l1.length : Int)) = true := beq_iff_eq.mpr c3
  have c3b1 : ((l0.length : Int) != (l1.length : Int)) = false := bne_eq_false_iff_eq.mpr c3
  have c3b2 : (l0.length == l1.length) = true := by first | simpa using c3 | (simp at c3 ⊢; omega)
  clear c3
  have H' := mk H
  clear H
  go_enter Tryd.func27, Tryd.ntmps27
  go_wp2
  repeat (go_quiet (fail); try go_wp2)
  go_loopg [13] k (fun kq v13 w' => ∃ (x13_1 : Int), v13 = .int .i64 x13_1 ∧ Aside0 (clepsydraref06_Tables.l0 kq l0 l1 (l0.length : Int) x13_1 = some r) ∧ Aside0 (kq ≤ k) ∧ Drawn0 w w')
  case atStart => exact ⟨(0), zs, H', ⟨Nat.le_refl _⟩, by repeat (first | exact Drawn0.refl _ | apply Drawn0.step)⟩
  case round =>
   clear H'
   try clear c1
   try clear c2
   try clear p2
   try clear c3
   try clear c3b0
   try clear c3b1
   try clear c3b2
   obtain ⟨x13_1, rfl, HA, HK1, ⟨m1, rfl⟩⟩ := hrel
   cases gk with
   | zero => exact absurd HA.1 (by simp [clepsydraref06_Tables.l0])
   | succ k1 =>
    have H := HA.1
    clear HA
    simp only [clepsydraref06_Tables.l0] at H
    by_cases c4 : x13_1 < (l0.length : Int)
    ·rw [if_pos c4] at H
     have c4b0 : decide (x13_1 < (l0.length : Int)) = true := decide_eq_true c4
     clear c4
     by_cases c5 : 0 ≤ x13_1
     ·rw [if_pos c5] at H
      have c5b0 : decide (0 ≤ x13_1) = true := decide_eq_true c5
      clear c5
      by_cases c6 : x13_1 < (l0.length : Int)
      ·rw [if_pos c6] at H
       have c6b0 : decide (x13_1 < (l0.length : Int)) = true := decide_eq_true c6
       clear c6
       by_cases c7 : x13_1 < (l1.length : Int)
       ·rw [if_pos c7] at H
        have c7b0 : decide (x13_1 < (l1.length : Int)) = true := decide_eq_true c7
        clear c7
        by_cases c8 : (!(((rd_T82 l0 x13_1).f0) == ((rd_T82 l1 x13_1).f0)) || (!(((rd_T82 l0 x13_1).f1) == ((rd_T82 l1 x13_1).f1)))) = true
        ·rw [if_pos c8] at H
         have c8b0 : (!(((rd_T82 l0 x13_1).f0) == ((rd_T82 l1 x13_1).f0)) || (!(((rd_T82 l0 x13_1).f1) == ((rd_T82 l1 x13_1).f1)))) = true := c8
         clear c8
         obtain rfl := Option.some.inj H
         have p331 : 0 ≤ (x13_1 : Int) := of_decide_eq_true (by first | (with_reducible assumption) | assumption)
         have q331 : x13_1 < (l0.length : Int) := of_decide_eq_true (by first | (with_reducible assumption) | assumption)
         obtain ⟨ad331, e331, hx331_0, hx331_1⟩ := at_T82 HR0.1 x13_1 p331 q331
         cases e331
         replace p331 := eq_true p331
         replace q331 := eq_true q331
         have p332 : 0 ≤ (x13_1 : Int) := of_decide_eq_true (by first | (with_reducible assumption) | assumption)
         have q332 : x13_1 < (l1.length : Int) := of_decide_eq_true (by first | (with_reducible assumption) | assumption)
         obtain ⟨ad332, e332, hx332_0, hx332_1⟩ := at_T82 HR1.1 x13_1 p332 q332
         cases e332
         replace p332 := eq_true p332
         replace q332 := eq_true q332
         go_wp2
         repeat (go_quiet (fail); try go_wp2)
         go_ret
         exact ⟨by first | rfl | (simp; done) | (simp [*]; done) | (simp [Int.tdiv_eq_ediv_of_nonneg]; done) | (simp [Go.RowKit.wrap64]; done) | (simp [*, Go.RowKit.wrap64]; done), by repeat (first | exact Drawn0.refl _ | apply Drawn0.step)⟩
        rw [if_neg c8] at H
        have c8b0 : (!(((rd_T82 l0 x13_1).f0) == ((rd_T82 l1 x13_1).f0)) || (!(((rd_T82 l0 x13_1).f1) == ((rd_T82 l1 x13_1).f1)))) = false := by simpa using c8
        clear c8
        have H' := mk H
        clear H
        have p331 : 0 ≤ (x13_1 : Int) := of_decide_eq_true (by first | (with_reducible assumption) | assumption)
        have q331 : x13_1 < (l0.length : Int) := of_decide_eq_true (by first | (with_reducible assumption) | assumption)
        obtain ⟨ad331, e331, hx331_0, hx331_1⟩ := at_T82 HR0.1 x13_1 p331 q331
        cases e331
        replace p331 := eq_true p331
        replace q331 := eq_true q331
        have p332 : 0 ≤ (x13_1 : Int) := of_decide_eq_true (by first | (with_reducible assumption) | assumption)
        have q332 : x13_1 < (l1.length : Int) := of_decide_eq_true (by first | (with_reducible assumption) | assumption)
        obtain ⟨ad332, e332, hx332_0, hx332_1⟩ := at_T82 HR1.1 x13_1 p332 q332
        cases e332
        replace p332 := eq_true p332
        replace q332 := eq_true q332
        go_wp2
        repeat (go_quiet (fail); try go_wp2)
        go_roundg k1
        case measure => have := HK1.1; omega
        case rel => exact ⟨(wrap64 (x13_1 + 1)), zs, H', ⟨by have := HK1.1; omega⟩, by repeat (first | exact Drawn0.refl _ | apply Drawn0.step)⟩
       rw [if_neg c7] at H
       exact absurd H (by simp)
      rw [if_neg c6] at H
      exact absurd H (by simp)
     rw [if_neg c5] at H
     exact absurd H (by simp)
    rw [if_neg c4] at H
    have c4b0 : decide (x13_1 < (l0.length : Int)) = false := decide_eq_false c4
    clear c4
    obtain rfl := Option.some.inj H
    go_wp2
    repeat (go_quiet (fail); try go_wp2)
    go_ret
    exact ⟨by first | rfl | (simp; done) | (simp [*]; done) | (simp [Int.tdiv_eq_ediv_of_nonneg]; done) | (simp [Go.RowKit.wrap64]; done) | (simp [*, Go.RowKit.wrap64]; done), by repeat (first | exact Drawn0.refl _ | apply Drawn0.step)⟩
 rw [if_neg c3] at H
 have c3b0 : ((l0.length : Int) == (l1.length : Int)) = false := beq_eq_false_iff_ne.mpr c3
 have c3b1 : ((l0.length : Int) != (l1.length : Int)) = true := bne_iff_ne.mpr c3
 have c3b2 : (l0.length == l1.length) = false := by first | simpa using c3 | (simp at c3 ⊢; omega)
 obtain rfl := Option.some.inj H
 go_enter Tryd.func27, Tryd.ntmps27
 go_wp2
 repeat (go_quiet (fail); try go_wp2)
 go_ret
 exact ⟨by first | rfl | (simp; done) | (simp [*]; done) | (simp [Int.tdiv_eq_ediv_of_nonneg]; done) | (simp [Go.RowKit.wrap64]; done) | (simp [*, Go.RowKit.wrap64]; done), by repeat (first | exact Drawn0.refl _ | apply Drawn0.step)⟩

/-! ### clepsydraref21_Same: function 14 -/
def clepsydraref21_Same.f (k : Nat) (a0_0 : Int) (a0_1 : Int) (a0_2 : Int) (a0_3 : Bool) (a0_4 : Int) (a0_5 : Int) (a0_6 : Bool) (l0_7 : List (S82)) (a0_8 : Int) (a0_9 : Int) (a0_10 : Int) (a1_0 : Int) (a1_1 : Int) (a1_2 : Int) (a1_3 : Bool) (a1_4 : Int) (a1_5 : Int) (a1_6 : Bool) (l1_7 : List (S82)) (a1_8 : Int) (a1_9 : Int) (a1_10 : Int) : Option (Bool) := if (a0_0 == a1_0 && (a0_1 == a1_1)) = true then (if a0_2 = a1_2 then (if (a0_3 == a1_3) = true then (if a0_4 = a1_4 then (if a0_5 = a1_5 then (if (a0_6 == a1_6) = true then (if (a0_8 == a1_8 && (a0_9 == a1_9)) = true then (if a0_10 = a1_10 then ((clepsydraref06_Tables.f k l0_7 l1_7).bind fun t335 => (some t335)) else (some false)) else (some false)) else (some false)) else (some false)) else (some false)) else (some false)) else (some false)) else (some false)
theorem clepsydraref21_Same.mono : ∀ a0 a1 a2 a3 a4 a5 a6 a7 a8 a9 a10 a11 a12 a13 a14 a15 a16 a17 a18 a19 a20 a21 k, LeO (clepsydraref21_Same.f k a0 a1 a2 a3 a4 a5 a6 a7 a8 a9 a10 a11 a12 a13 a14 a15 a16 a17 a18 a19 a20 a21) (clepsydraref21_Same.f (k + 1) a0 a1 a2 a3 a4 a5 a6 a7 a8 a9 a10 a11 a12 a13 a14 a15 a16 a17 a18 a19 a20 a21) := by
 intro a0 a1 a2 a3 a4 a5 a6 a7 a8 a9 a10 a11 a12 a13 a14 a15 a16 a17 a18 a19 a20 a21 k
 unfold clepsydraref21_Same.f
 repeat' first
   | (with_reducible exact clepsydraref06_Tables.mono _ _ _)
   | (with_reducible exact LeO.refl _)
   | (with_reducible exact LeO.none _)
   | (with_reducible refine LeO.ite ?_ ?_)
   | (with_reducible refine LeO.bind ?_ (fun _ => ?_))
   | exact clepsydraref06_Tables.mono _ _ _
   | exact LeO.none _
   | refine LeO.ite ?_ ?_
   | refine LeO.bind ?_ (fun _ => ?_)
set_option maxHeartbeats 8000000 in
set_option maxRecDepth 100000 in
theorem clepsydraref21_Same.calls (k : Nat) (a0_0 : Int) (a0_1 : Int) (a0_2 : Int) (a0_3 : Bool) (a0_4 : Int) (a0_5 : Int) (a0_6 : Bool) (A0_7 : Option Addr) (c0_7 : Nat) (l0_7 : List (S82)) (a0_8 : Int) (a0_9 : Int) (a0_10 : Int) (a1_0 : Int) (a1_1 : Int) (a1_2 : Int) (a1_3 : Bool) (a1_4 : Int) (a1_5 : Int) (a1_6 : Bool) (A1_7 : Option Addr) (c1_7 : Nat) (l1_7 : List (S82)) (a1_8 : Int) (a1_9 : Int) (a1_10 : Int) (r : Bool) (w : World) (hr0_7 : Kd.C k82 w A0_7 l0_7.length l0_7) (hc0_7 : l0_7.length ≤ c0_7) (hr1_7 : Kd.C k82 w A1_7 l1_7.length l1_7) (hc1_7 : l1_7.length ≤ c1_7) (h : clepsydraref21_Same.f k a0_0 a0_1 a0_2 a0_3 a0_4 a0_5 a0_6 l0_7 a0_8 a0_9 a0_10 a1_0 a1_1 a1_2 a1_3 a1_4 a1_5 a1_6 l1_7 a1_8 a1_9 a1_10 = some r) :
  Calls Tryd.prog 14 #[.agg #[.int .i64 a0_0, .int .i64 a0_1, .int .i64 a0_2, .bool a0_3, .int .i64 a0_4, .int .i64 a0_5, .bool a0_6, .slice A0_7 l0_7.length c0_7, .int .i64 a0_8, .int .i64 a0_9, .int .i64 a0_10], .agg #[.int .i64 a1_0, .int .i64 a1_1, .int .i64 a1_2, .bool a1_3, .int .i64 a1_4, .int .i64 a1_5, .bool a1_6, .slice A1_7 l1_7.length c1_7, .int .i64 a1_8, .int .i64 a1_9, .int .i64 a1_10]] w fun e w' => e = .returned (.bool r) ∧ Below w.heap.size w w' := by
 have hu30 := Tryd.underlying30
 have hu25 := Tryd.underlying25
 have hu28 := Tryd.underlying28
 have HR0_7 := mk hr0_7
 have HC0_7 := mk hc0_7
 clear hr0_7 hc0_7
 have HR1_7 := mk hr1_7
 have HC1_7 := mk hc1_7
 clear hr1_7 hc1_7
 have HB := mk (Below.refl w.heap.size w)
 have H : (if (a0_0 == a1_0 && (a0_1 == a1_1)) = true then (if a0_2 = a1_2 then (if (a0_3 == a1_3) = true then (if a0_4 = a1_4 then (if a0_5 = a1_5 then (if (a0_6 == a1_6) = true then (if (a0_8 == a1_8 && (a0_9 == a1_9)) = true then (if a0_10 = a1_10 then ((clepsydraref06_Tables.f k l0_7 l1_7).bind fun t335 => (some t335)) else (some false)) else (some false)) else (some false)) else (some false)) else (some false)) else (some false)) else (some false)) else (some false)) = some r := h
 clear h
 by_cases c3 : (a0_0 == a1_0 && (a0_1 == a1_1)) = true
 ·rw [if_pos c3] at H
  have c3b0 : (a0_0 == a1_0 && (a0_1 == a1_1)) = true := c3
  (try (have c3b1 : decide (a0_0 = a1_0 && (a0_1 == a1_1)) = true := by simpa using c3))
  (try (have c3b2 : (a0_0 == a1_0 && (a0_1 == a1_1)) = true := by simpa using c3))
  clear c3
  by_cases c4 : a0_2 = a1_2
  ·rw [if_pos c4] at H
   have c4b0 : (a0_2 == a1_2) = true := beq_iff_eq.mpr c4
   have c4b1 : (a0_2 != a1_2) = false := bne_eq_false_iff_eq.mpr c4
   clear c4
   by_cases c5 : (a0_3 == a1_3) = true
   ·rw [if_pos c5] at H
    have c5b0 : (a0_3 == a1_3) = true := c5
    (try (have c5b1 : decide (a0_3 = a1_3) = true := by simpa using c5))
    (try (have c5b2 : (a0_3 == a1_3) = true := by simpa using c5))
    clear c5
    by_cases c6 : a0_4 = a1_4
    ·rw [if_pos c6] at H
     have c6b0 : (a0_4 == a1_4) = true := beq_iff_eq.mpr c6
     have c6b1 : (a0_4 != a1_4) = false := bne_eq_false_iff_eq.mpr c6
     clear c6
     by_cases c7 : a0_5 = a1_5
     ·rw [if_pos c7] at H
      have c7b0 : (a0_5 == a1_5) = true := beq_iff_eq.mpr c7
      have c7b1 : (a0_5 != a1_5) = false := bne_eq_false_iff_eq.mpr c7
      clear c7
      by_cases c8 : (a0_6 == a1_6) = true
      ·rw [if_pos c8] at H
       have c8b0 : (a0_6 == a1_6) = true := c8
       (try (have c8b1 : decide (a0_6 = a1_6) = true := by simpa using c8))
       (try (have c8b2 : (a0_6 == a1_6) = true := by simpa using c8))
       clear c8
       by_cases c9 : (a0_8 == a1_8 && (a0_9 == a1_9)) = true
       ·rw [if_pos c9] at H
        have c9b0 : (a0_8 == a1_8 && (a0_9 == a1_9)) = true := c9
        (try (have c9b1 : decide (a0_8 = a1_8 && (a0_9 == a1_9)) = true := by simpa using c9))
        (try (have c9b2 : (a0_8 == a1_8 && (a0_9 == a1_9)) = true := by simpa using c9))
        clear c9
        by_cases c10 : a0_10 = a1_10
        ·rw [if_pos c10] at H
         have c10b0 : (a0_10 == a1_10) = true := beq_iff_eq.mpr c10
         have c10b1 : (a0_10 != a1_10) = false := bne_eq_false_iff_eq.mpr c10
         clear c10
         replace H := Option.bind_eq_some_iff.mp H
         obtain ⟨t335, A110, H⟩ := H
         replace H : (some t335) = some r := H
         have A11 := mk A110
         clear A110
         obtain rfl := Option.some.inj H
         go_enter Tryd.func14, Tryd.ntmps14
         go_wp2_with (first | ((with_reducible refine gate_dst (N := 2) rfl ?_); refine bx 2 #[.int .i64 a0_0, .int .i64 a0_1, .int .i64 a0_2, .bool a0_3, .int .i64 a0_4, .int .i64 a0_5, .bool a0_6, .slice A0_7 l0_7.length c0_7, .int .i64 a0_8, .int .i64 a0_9, .int .i64 a0_10] 30 ?_; intro g0_ hg w12 hbox hb; have B0_ := mk (hbox); have W0_ := gl hg zq; have E0_ := gl hg zq; replace HB := mk (below_step zq hb); clear hb hbox hg) | ((with_reducible refine gate_dst (N := 3) rfl ?_); refine bx 3 #[.int .i64 a1_0, .int .i64 a1_1, .int .i64 a1_2, .bool a1_3, .int .i64 a1_4, .int .i64 a1_5, .bool a1_6, .slice A1_7 l1_7.length c1_7, .int .i64 a1_8, .int .i64 a1_9, .int .i64 a1_10] 30 ?_; intro g1_ hg w13 hbox hb; have B1_ := mk (hbox); have W1_ := gl hg zq; have E1_ := gl hg zq; replace HB := mk (below_step zq hb); have N01_ := nl hg B0_.1; have N10_ := ng hg B0_.1; replace B0_ := bb hb B0_.1; clear hb hbox hg; have hnb14 := N01_.1; have hnc14 := N10_.1; obtain ⟨hcz15_0, hcz15_1, hcz15_2, hcz15_3, hcz15_4, hcz15_5, hcz15_6, hcz15_7, hcz15_8, hcz15_9, hcz15_10⟩ := cc11 B0_.1; obtain ⟨hfz15_0, hfz15_1, hfz15_2, hfz15_3, hfz15_4, hfz15_5, hfz15_6, hfz15_7, hfz15_8, hfz15_9, hfz15_10⟩ := cf11 B0_.1; obtain ⟨hcz16_0, hcz16_1, hcz16_2, hcz16_3, hcz16_4, hcz16_5, hcz16_6, hcz16_7, hcz16_8, hcz16_9, hcz16_10⟩ := cc11 B1_.1; obtain ⟨hfz16_0, hfz16_1, hfz16_2, hfz16_3, hfz16_4, hfz16_5, hfz16_6, hfz16_7, hfz16_8, hfz16_9, hfz16_10⟩ := cf11 B1_.1) | (go_at_call 27; (with_reducible refine (clepsydraref06_Tables.calls k _ _ l0_7 _ _ l1_7 t335 _ ?side1 ?side2 ?side3 ?side4 A11.1).mono ?_); (case side1 => repeat (first | exact (Kd.C_below HR0_7.1 HB.1) | (with_reducible refine Kd.C_alloc ?_ _) | (with_reducible refine Kd.C_drewN ?_ _) | (with_reducible refine Kd.C_drew ?_))); (case side2 => exact HC0_7.1); (case side3 => repeat (first | exact (Kd.C_below HR1_7.1 HB.1) | (with_reducible refine Kd.C_alloc ?_ _) | (with_reducible refine Kd.C_drewN ?_ _) | (with_reducible refine Kd.C_drew ?_))); (case side4 => exact HC1_7.1); rintro e w' ⟨rfl, ⟨nd, rfl⟩⟩))
         go_ret
         exact ⟨by first | rfl | (simp [errW_none, errW_some] <;> rfl) | (simp [*, errW_none, errW_some] <;> rfl), by repeat (first | (with_reducible first | exact HB.1 | apply bA | apply pD | apply b1 | apply bS E0_.1 | apply bS E1_.1) | exact HB.1)⟩
        rw [if_neg c10] at H
        have c10b0 : (a0_10 == a1_10) = false := beq_eq_false_iff_ne.mpr c10
        have c10b1 : (a0_10 != a1_10) = true := bne_iff_ne.mpr c10
        obtain rfl := Option.some.inj H
        go_enter Tryd.func14, Tryd.ntmps14
        go_wp2_with (first | ((with_reducible refine gate_dst (N := 2) rfl ?_); refine bx 2 #[.int .i64 a0_0, .int .i64 a0_1, .int .i64 a0_2, .bool a0_3, .int .i64 a0_4, .int .i64 a0_5, .bool a0_6, .slice A0_7 l0_7.length c0_7, .int .i64 a0_8, .int .i64 a0_9, .int .i64 a0_10] 30 ?_; intro g0_ hg w17 hbox hb; have B0_ := mk (hbox); have W0_ := gl hg zq; have E0_ := gl hg zq; replace HB := mk (below_step zq hb); clear hb hbox hg) | ((with_reducible refine gate_dst (N := 3) rfl ?_); refine bx 3 #[.int .i64 a1_0, .int .i64 a1_1, .int .i64 a1_2, .bool a1_3, .int .i64 a1_4, .int .i64 a1_5, .bool a1_6, .slice A1_7 l1_7.length c1_7, .int .i64 a1_8, .int .i64 a1_9, .int .i64 a1_10] 30 ?_; intro g1_ hg w18 hbox hb; have B1_ := mk (hbox); have W1_ := gl hg zq; have E1_ := gl hg zq; replace HB := mk (below_step zq hb); have N01_ := nl hg B0_.1; have N10_ := ng hg B0_.1; replace B0_ := bb hb B0_.1; clear hb hbox hg; have hnb19 := N01_.1; have hnc19 := N10_.1; obtain ⟨hcz20_0, hcz20_1, hcz20_2, hcz20_3, hcz20_4, hcz20_5, hcz20_6⟩ := cc7 B0_.1; have hcz20_8 : w18.cell? ⟨g0_, 8, none⟩ = some (.int .i64 a0_8) := bQ B0_.1 8; have hcz20_9 : w18.cell? ⟨g0_, 9, none⟩ = some (.int .i64 a0_9) := bQ B0_.1 9; have hcz20_10 : w18.cell? ⟨g0_, 10, none⟩ = some (.int .i64 a0_10) := bQ B0_.1 10; obtain ⟨hfz20_0, hfz20_1, hfz20_2, hfz20_3, hfz20_4, hfz20_5, hfz20_6⟩ := cf7 B0_.1; have hfz20_8 := blk_frozen B0_.1 8; have hfz20_9 := blk_frozen B0_.1 9; have hfz20_10 := blk_frozen B0_.1 10; obtain ⟨hcz21_0, hcz21_1, hcz21_2, hcz21_3, hcz21_4, hcz21_5, hcz21_6⟩ := cc7 B1_.1; have hcz21_8 : w18.cell? ⟨g1_, 8, none⟩ = some (.int .i64 a1_8) := bQ B1_.1 8; have hcz21_9 : w18.cell? ⟨g1_, 9, none⟩ = some (.int .i64 a1_9) := bQ B1_.1 9; have hcz21_10 : w18.cell? ⟨g1_, 10, none⟩ = some (.int .i64 a1_10) := bQ B1_.1 10; obtain ⟨hfz21_0, hfz21_1, hfz21_2, hfz21_3, hfz21_4, hfz21_5, hfz21_6⟩ := cf7 B1_.1; have hfz21_8 := blk_frozen B1_.1 8; have hfz21_9 := blk_frozen B1_.1 9; have hfz21_10 := blk_frozen B1_.1 10))
        go_ret
        exact ⟨by first | rfl | (simp [errW_none, errW_some] <;> rfl) | (simp [*, errW_none, errW_some] <;> rfl), by repeat (first | (with_reducible first | exact HB.1 | apply bA | apply pD | apply b1 | apply bS E0_.1 | apply bS E1_.1) | exact HB.1)⟩
       rw [if_neg c9] at H
       have c9b0 : (a0_8 == a1_8 && (a0_9 == a1_9)) = false := by simpa using c9
       (try (have c9b1 : decide (a0_8 = a1_8 && (a0_9 == a1_9)) = false := by simpa using c9))
       (try (have c9b2 : (a0_8 == a1_8 && (a0_9 == a1_9)) = false := by simpa using c9))
       (try (have c9b3 : ¬ (a0_8 = a1_8 && (a0_9 == a1_9)) := by simpa using c9))
       clear c9
       obtain rfl := Option.some.inj H
       go_enter Tryd.func14, Tryd.ntmps14
       go_wp2_with (first | ((with_reducible refine gate_dst (N := 2) rfl ?_); refine bx 2 #[.int .i64 a0_0, .int .i64 a0_1, .int .i64 a0_2, .bool a0_3, .int .i64 a0_4, .int .i64 a0_5, .bool a0_6, .slice A0_7 l0_7.length c0_7, .int .i64 a0_8, .int .i64 a0_9, .int .i64 a0_10] 30 ?_; intro g0_ hg w22 hbox hb; have B0_ := mk (hbox); have W0_ := gl hg zq; have E0_ := gl hg zq; replace HB := mk (below_step zq hb); clear hb hbox hg) | ((with_reducible refine gate_dst (N := 3) rfl ?_); refine bx 3 #[.int .i64 a1_0, .int .i64 a1_1, .int .i64 a1_2, .bool a1_3, .int .i64 a1_4, .int .i64 a1_5, .bool a1_6, .slice A1_7 l1_7.length c1_7, .int .i64 a1_8, .int .i64 a1_9, .int .i64 a1_10] 30 ?_; intro g1_ hg w23 hbox hb; have B1_ := mk (hbox); have W1_ := gl hg zq; have E1_ := gl hg zq; replace HB := mk (below_step zq hb); have N01_ := nl hg B0_.1; have N10_ := ng hg B0_.1; replace B0_ := bb hb B0_.1; clear hb hbox hg; have hnb24 := N01_.1; have hnc24 := N10_.1; obtain ⟨hcz25_0, hcz25_1, hcz25_2, hcz25_3, hcz25_4, hcz25_5, hcz25_6⟩ := cc7 B0_.1; have hcz25_8 : w23.cell? ⟨g0_, 8, none⟩ = some (.int .i64 a0_8) := bQ B0_.1 8; have hcz25_9 : w23.cell? ⟨g0_, 9, none⟩ = some (.int .i64 a0_9) := bQ B0_.1 9; obtain ⟨hfz25_0, hfz25_1, hfz25_2, hfz25_3, hfz25_4, hfz25_5, hfz25_6⟩ := cf7 B0_.1; have hfz25_8 := blk_frozen B0_.1 8; have hfz25_9 := blk_frozen B0_.1 9; obtain ⟨hcz26_0, hcz26_1, hcz26_2, hcz26_3, hcz26_4, hcz26_5, hcz26_6⟩ := cc7 B1_.1; have hcz26_8 : w23.cell? ⟨g1_, 8, none⟩ = some (.int .i64 a1_8) := bQ B1_.1 8; have hcz26_9 : w23.cell? ⟨g1_, 9, none⟩ = some (.int .i64 a1_9) := bQ B1_.1 9; obtain ⟨hfz26_0, hfz26_1, hfz26_2, hfz26_3, hfz26_4, hfz26_5, hfz26_6⟩ := cf7 B1_.1; have hfz26_8 := blk_frozen B1_.1 8; have hfz26_9 := blk_frozen B1_.1 9))
       go_ret
       exact ⟨by first | rfl | (simp [errW_none, errW_some] <;> rfl) | (simp [*, errW_none, errW_some] <;> rfl), by repeat (first | (with_reducible first | exact HB.1 | apply bA | apply pD | apply b1 | apply bS E0_.1 | apply bS E1_.1) | exact HB.1)⟩
      rw [if_neg c8] at H
      have c8b0 : (a0_6 == a1_6) = false := by simpa using c8
      (try (have c8b1 : decide (a0_6 = a1_6) = false := by simpa using c8))
      (try (have c8b2 : (a0_6 == a1_6) = false := by simpa using c8))
      (try (have c8b3 : ¬ (a0_6 = a1_6) := by simpa using c8))
      clear c8
      obtain rfl := Option.some.inj H
      go_enter Tryd.func14, Tryd.ntmps14
      go_wp2_with (first | ((with_reducible refine gate_dst (N := 2) rfl ?_); refine bx 2 #[.int .i64 a0_0, .int .i64 a0_1, .int .i64 a0_2, .bool a0_3, .int .i64 a0_4, .int .i64 a0_5, .bool a0_6, .slice A0_7 l0_7.length c0_7, .int .i64 a0_8, .int .i64 a0_9, .int .i64 a0_10] 30 ?_; intro g0_ hg w27 hbox hb; have B0_ := mk (hbox); have W0_ := gl hg zq; have E0_ := gl hg zq; replace HB := mk (below_step zq hb); clear hb hbox hg) | ((with_reducible refine gate_dst (N := 3) rfl ?_); refine bx 3 #[.int .i64 a1_0, .int .i64 a1_1, .int .i64 a1_2, .bool a1_3, .int .i64 a1_4, .int .i64 a1_5, .bool a1_6, .slice A1_7 l1_7.length c1_7, .int .i64 a1_8, .int .i64 a1_9, .int .i64 a1_10] 30 ?_; intro g1_ hg w28 hbox hb; have B1_ := mk (hbox); have W1_ := gl hg zq; have E1_ := gl hg zq; replace HB := mk (below_step zq hb); have N01_ := nl hg B0_.1; have N10_ := ng hg B0_.1; replace B0_ := bb hb B0_.1; clear hb hbox hg; have hnb29 := N01_.1; have hnc29 := N10_.1; obtain ⟨hcz30_0, hcz30_1, hcz30_2, hcz30_3, hcz30_4, hcz30_5, hcz30_6⟩ := cc7 B0_.1; obtain ⟨hfz30_0, hfz30_1, hfz30_2, hfz30_3, hfz30_4, hfz30_5, hfz30_6⟩ := cf7 B0_.1; obtain ⟨hcz31_0, hcz31_1, hcz31_2, hcz31_3, hcz31_4, hcz31_5, hcz31_6⟩ := cc7 B1_.1; obtain ⟨hfz31_0, hfz31_1, hfz31_2, hfz31_3, hfz31_4, hfz31_5, hfz31_6⟩ := cf7 B1_.1))
      go_ret
      exact ⟨by first | rfl | (simp [errW_none, errW_some] <;> rfl) | (simp [*, errW_none, errW_some] <;> rfl), by repeat (first | (with_reducible first | exact HB.1 | apply bA | apply pD | apply b1 | apply bS E0_.1 | apply bS E1_.1) | exact HB.1)⟩
     rw [if_neg c7] at H
     have c7b0 : (a0_5 == a1_5) = false := beq_eq_false_iff_ne.mpr c7
     have c7b1 : (a0_5 != a1_5) = true := bne_iff_ne.mpr c7
     obtain rfl := Option.some.inj H
     go_enter Tryd.func14, Tryd.ntmps14
     go_wp2_with (first | ((with_reducible refine gate_dst (N := 2) rfl ?_); refine bx 2 #[.int .i64 a0_0, .int .i64 a0_1, .int .i64 a0_2, .bool a0_3, .int .i64 a0_4, .int .i64 a0_5, .bool a0_6, .slice A0_7 l0_7.length c0_7, .int .i64 a0_8, .int .i64 a0_9, .int .i64 a0_10] 30 ?_; intro g0_ hg w32 hbox hb; have B0_ := mk (hbox); have W0_ := gl hg zq; have E0_ := gl hg zq; replace HB := mk (below_step zq hb); clear hb hbox hg) | ((with_reducible refine gate_dst (N := 3) rfl ?_); refine bx 3 #[.int .i64 a1_0, .int .i64 a1_1, .int .i64 a1_2, .bool a1_3, .int .i64 a1_4, .int .i64 a1_5, .bool a1_6, .slice A1_7 l1_7.length c1_7, .int .i64 a1_8, .int .i64 a1_9, .int .i64 a1_10] 30 ?_; intro g1_ hg w33 hbox hb; have B1_ := mk (hbox); have W1_ := gl hg zq; have E1_ := gl hg zq; replace HB := mk (below_step zq hb); have N01_ := nl hg B0_.1; have N10_ := ng hg B0_.1; replace B0_ := bb hb B0_.1; clear hb hbox hg; have hnb34 := N01_.1; have hnc34 := N10_.1; obtain ⟨hcz35_0, hcz35_1, hcz35_2, hcz35_3, hcz35_4, hcz35_5⟩ := cc6 B0_.1; obtain ⟨hfz35_0, hfz35_1, hfz35_2, hfz35_3, hfz35_4, hfz35_5⟩ := cf6 B0_.1; obtain ⟨hcz36_0, hcz36_1, hcz36_2, hcz36_3, hcz36_4, hcz36_5⟩ := cc6 B1_.1; obtain ⟨hfz36_0, hfz36_1, hfz36_2, hfz36_3, hfz36_4, hfz36_5⟩ := cf6 B1_.1))
     go_ret
     exact ⟨by first | rfl | (simp [errW_none, errW_some] <;> rfl) | (simp [*, errW_none, errW_some] <;> rfl), by repeat (first | (with_reducible first | exact HB.1 | apply bA | apply pD | apply b1 | apply bS E0_.1 | apply bS E1_.1) | exact HB.1)⟩
    rw [if_neg c6] at H
    have c6b0 : (a0_4 == a1_4) = false := beq_eq_false_iff_ne.mpr c6
    have c6b1 : (a0_4 != a1_4) = true := bne_iff_ne.mpr c6
    obtain rfl := Option.some.inj H
    go_enter Tryd.func14, Tryd.ntmps14
    go_wp2_with (first | ((with_reducible refine gate_dst (N := 2) rfl ?_); refine bx 2 #[.int .i64 a0_0, .int .i64 a0_1, .int .i64 a0_2, .bool a0_3, .int .i64 a0_4, .int .i64 a0_5, .bool a0_6, .slice A0_7 l0_7.length c0_7, .int .i64 a0_8, .int .i64 a0_9, .int .i64 a0_10] 30 ?_; intro g0_ hg w37 hbox hb; have B0_ := mk (hbox); have W0_ := gl hg zq; have E0_ := gl hg zq; replace HB := mk (below_step zq hb); clear hb hbox hg) | ((with_reducible refine gate_dst (N := 3) rfl ?_); refine bx 3 #[.int .i64 a1_0, .int .i64 a1_1, .int .i64 a1_2, .bool a1_3, .int .i64 a1_4, .int .i64 a1_5, .bool a1_6, .slice A1_7 l1_7.length c1_7, .int .i64 a1_8, .int .i64 a1_9, .int .i64 a1_10] 30 ?_; intro g1_ hg w38 hbox hb; have B1_ := mk (hbox); have W1_ := gl hg zq; have E1_ := gl hg zq; replace HB := mk (below_step zq hb); have N01_ := nl hg B0_.1; have N10_ := ng hg B0_.1; replace B0_ := bb hb B0_.1; clear hb hbox hg; have hnb39 := N01_.1; have hnc39 := N10_.1; obtain ⟨hcz40_0, hcz40_1, hcz40_2, hcz40_3, hcz40_4⟩ := cc5 B0_.1; obtain ⟨hfz40_0, hfz40_1, hfz40_2, hfz40_3, hfz40_4⟩ := cf5 B0_.1; obtain ⟨hcz41_0, hcz41_1, hcz41_2, hcz41_3, hcz41_4⟩ := cc5 B1_.1; obtain ⟨hfz41_0, hfz41_1, hfz41_2, hfz41_3, hfz41_4⟩ := cf5 B1_.1))
    go_ret
    exact ⟨by first | rfl | (simp [errW_none, errW_some] <;> rfl) | (simp [*, errW_none, errW_some] <;> rfl), by repeat (first | (with_reducible first | exact HB.1 | apply bA | apply pD | apply b1 | apply bS E0_.1 | apply bS E1_.1) | exact HB.1)⟩
   rw [if_neg c5] at H
   have c5b0 : (a0_3 == a1_3) = false := by simpa using c5
   (try (have c5b1 : decide (a0_3 = a1_3) = false := by simpa using c5))
   (try (have c5b2 : (a0_3 == a1_3) = false := by simpa using c5))
   (try (have c5b3 : ¬ (a0_3 = a1_3) := by simpa using c5))
   clear c5
   obtain rfl := Option.some.inj H
   go_enter Tryd.func14, Tryd.ntmps14
   go_wp2_with (first | ((with_reducible refine gate_dst (N := 2) rfl ?_); refine bx 2 #[.int .i64 a0_0, .int .i64 a0_1, .int .i64 a0_2, .bool a0_3, .int .i64 a0_4, .int .i64 a0_5, .bool a0_6, .slice A0_7 l0_7.length c0_7, .int .i64 a0_8, .int .i64 a0_9, .int .i64 a0_10] 30 ?_; intro g0_ hg w42 hbox hb; have B0_ := mk (hbox); have W0_ := gl hg zq; have E0_ := gl hg zq; replace HB := mk (below_step zq hb); clear hb hbox hg) | ((with_reducible refine gate_dst (N := 3) rfl ?_); refine bx 3 #[.int .i64 a1_0, .int .i64 a1_1, .int .i64 a1_2, .bool a1_3, .int .i64 a1_4, .int .i64 a1_5, .bool a1_6, .slice A1_7 l1_7.length c1_7, .int .i64 a1_8, .int .i64 a1_9, .int .i64 a1_10] 30 ?_; intro g1_ hg w43 hbox hb; have B1_ := mk (hbox); have W1_ := gl hg zq; have E1_ := gl hg zq; replace HB := mk (below_step zq hb); have N01_ := nl hg B0_.1; have N10_ := ng hg B0_.1; replace B0_ := bb hb B0_.1; clear hb hbox hg; have hnb44 := N01_.1; have hnc44 := N10_.1; obtain ⟨hcz45_0, hcz45_1, hcz45_2, hcz45_3⟩ := cc4 B0_.1; obtain ⟨hfz45_0, hfz45_1, hfz45_2, hfz45_3⟩ := cf4 B0_.1; obtain ⟨hcz46_0, hcz46_1, hcz46_2, hcz46_3⟩ := cc4 B1_.1; obtain ⟨hfz46_0, hfz46_1, hfz46_2, hfz46_3⟩ := cf4 B1_.1))
   go_ret
   exact ⟨by first | rfl | (simp [errW_none, errW_some] <;> rfl) | (simp [*, errW_none, errW_some] <;> rfl), by repeat (first | (with_reducible first | exact HB.1 | apply bA | apply pD | apply b1 | apply bS E0_.1 | apply bS E1_.1) | exact HB.1)⟩
  rw [if_neg c4] at H
  have c4b0 : (a0_2 == a1_2) = false := beq_eq_false_iff_ne.mpr c4
  have c4b1 : (a0_2 != a1_2) = true := bne_iff_ne.mpr c4
  obtain rfl := Option.some.inj H
  go_enter Tryd.func14, Tryd.ntmps14
  go_wp2_with (first | ((with_reducible refine gate_dst (N := 2) rfl ?_); refine bx 2 #[.int .i64 a0_0, .int .i64 a0_1, .int .i64 a0_2, .bool a0_3, .int .i64 a0_4, .int .i64 a0_5, .bool a0_6, .slice A0_7 l0_7.length c0_7, .int .i64 a0_8, .int .i64 a0_9, .int .i64 a0_10] 30 ?_; intro g0_ hg w47 hbox hb; have B0_ := mk (hbox); have W0_ := gl hg zq; have E0_ := gl hg zq; replace HB := mk (below_step zq hb); clear hb hbox hg) | ((with_reducible refine gate_dst (N := 3) rfl ?_); refine bx 3 #[.int .i64 a1_0, .int .i64 a1_1, .int .i64 a1_2, .bool a1_3, .int .i64 a1_4, .int .i64 a1_5, .bool a1_6, .slice A1_7 l1_7.length c1_7, .int .i64 a1_8, .int .i64 a1_9, .int .i64 a1_10] 30 ?_; intro g1_ hg w48 hbox hb; have B1_ := mk (hbox); have W1_ := gl hg zq; have E1_ := gl hg zq; replace HB := mk (below_step zq hb); have N01_ := nl hg B0_.1; have N10_ := ng hg B0_.1; replace B0_ := bb hb B0_.1; clear hb hbox hg; have hnb49 := N01_.1; have hnc49 := N10_.1; obtain ⟨hcz50_0, hcz50_1, hcz50_2⟩ := cc3 B0_.1; obtain ⟨hfz50_0, hfz50_1, hfz50_2⟩ := cf3 B0_.1; obtain ⟨hcz51_0, hcz51_1, hcz51_2⟩ := cc3 B1_.1; obtain ⟨hfz51_0, hfz51_1, hfz51_2⟩ := cf3 B1_.1))
  go_ret
  exact ⟨by first | rfl | (simp [errW_none, errW_some] <;> rfl) | (simp [*, errW_none, errW_some] <;> rfl), by repeat (first | (with_reducible first | exact HB.1 | apply bA | apply pD | apply b1 | apply bS E0_.1 | apply bS E1_.1) | exact HB.1)⟩
 rw [if_neg c3] at H
 have c3b0 : (a0_0 == a1_0 && (a0_1 == a1_1)) = false := by simpa using c3
 (try (have c3b1 : decide (a0_0 = a1_0 && (a0_1 == a1_1)) = false := by simpa using c3))
 (try (have c3b2 : (a0_0 == a1_0 && (a0_1 == a1_1)) = false := by simpa using c3))
 (try (have c3b3 : ¬ (a0_0 = a1_0 && (a0_1 == a1_1)) := by simpa using c3))
 clear c3
 obtain rfl := Option.some.inj H
 go_enter Tryd.func14, Tryd.ntmps14
 go_wp2_with (first | ((with_reducible refine gate_dst (N := 2) rfl ?_); refine bx 2 #[.int .i64 a0_0, .int .i64 a0_1, .int .i64 a0_2, .bool a0_3, .int .i64 a0_4, .int .i64 a0_5, .bool a0_6, .slice A0_7 l0_7.length c0_7, .int .i64 a0_8, .int .i64 a0_9, .int .i64 a0_10] 30 ?_; intro g0_ hg w52 hbox hb; have B0_ := mk (hbox); have W0_ := gl hg zq; have E0_ := gl hg zq; replace HB := mk (below_step zq hb); clear hb hbox hg) | ((with_reducible refine gate_dst (N := 3) rfl ?_); refine bx 3 #[.int .i64 a1_0, .int .i64 a1_1, .int .i64 a1_2, .bool a1_3, .int .i64 a1_4, .int .i64 a1_5, .bool a1_6, .slice A1_7 l1_7.length c1_7, .int .i64 a1_8, .int .i64 a1_9, .int .i64 a1_10] 30 ?_; intro g1_ hg w53 hbox hb; have B1_ := mk (hbox); have W1_ := gl hg zq; have E1_ := gl hg zq; replace HB := mk (below_step zq hb); have N01_ := nl hg B0_.1; have N10_ := ng hg B0_.1; replace B0_ := bb hb B0_.1; clear hb hbox hg; have hnb54 := N01_.1; have hnc54 := N10_.1; obtain ⟨hcz55_0, hcz55_1⟩ := cc2 B0_.1; obtain ⟨hfz55_0, hfz55_1⟩ := cf2 B0_.1; obtain ⟨hcz56_0, hcz56_1⟩ := cc2 B1_.1; obtain ⟨hfz56_0, hfz56_1⟩ := cf2 B1_.1))
 go_ret
 exact ⟨by first | rfl | (simp [errW_none, errW_some] <;> rfl) | (simp [*, errW_none, errW_some] <;> rfl), by repeat (first | (with_reducible first | exact HB.1 | apply bA | apply pD | apply b1 | apply bS E0_.1 | apply bS E1_.1) | exact HB.1)⟩

-- NOT PRINTED: function 15 (health_Front_Stamp)

/-! ### hlc_Less: function 68 -/
def hlc_Less.f (a0_0 : Int) (a0_1 : Int) (a1_0 : Int) (a1_1 : Int) : Option (Bool) := if a0_0 < a1_0 then (some true) else (if a0_0 = a1_0 then (some (decide (a0_1 < a1_1))) else (some false))
set_option maxHeartbeats 8000000 in
set_option maxRecDepth 100000 in
theorem hlc_Less.calls (a0_0 : Int) (a0_1 : Int) (a1_0 : Int) (a1_1 : Int) (r : Bool) (w : World) (h : hlc_Less.f a0_0 a0_1 a1_0 a1_1 = some r) :
  Calls Tryd.prog 68 #[.agg #[.int .i64 a0_0, .int .i64 a0_1], .agg #[.int .i64 a1_0, .int .i64 a1_1]] w fun e w' => e = .returned (.bool r) ∧ Below w.heap.size w w' := by
 have hu28 := Tryd.underlying28
 have HB := mk (Below.refl w.heap.size w)
 have H : (if a0_0 < a1_0 then (some true) else (if a0_0 = a1_0 then (some (decide (a0_1 < a1_1))) else (some false))) = some r := h
 clear h
 by_cases c3 : a0_0 < a1_0
 ·rw [if_pos c3] at H
  have c3b0 : decide (a0_0 < a1_0) = true := decide_eq_true c3
  clear c3
  obtain rfl := Option.some.inj H
  go_enter Tryd.func68, Tryd.ntmps68
  go_wp2_with (first | ((with_reducible refine gate_dst (N := 2) rfl ?_); refine bx 2 #[.int .i64 a0_0, .int .i64 a0_1] 28 ?_; intro g0_ hg w4 hbox hb; have B0_ := mk (hbox); have W0_ := gl hg zq; have E0_ := gl hg zq; replace HB := mk (below_step zq hb); clear hb hbox hg) | ((with_reducible refine gate_dst (N := 3) rfl ?_); refine bx 3 #[.int .i64 a1_0, .int .i64 a1_1] 28 ?_; intro g1_ hg w5 hbox hb; have B1_ := mk (hbox); have W1_ := gl hg zq; have E1_ := gl hg zq; replace HB := mk (below_step zq hb); have N01_ := nl hg B0_.1; have N10_ := ng hg B0_.1; replace B0_ := bb hb B0_.1; clear hb hbox hg; have hnb6 := N01_.1; have hnc6 := N10_.1; have hcz7_0 : w5.cell? ⟨g0_, 0, none⟩ = some (.int .i64 a0_0) := bQ B0_.1 0; have hfz7_0 := blk_frozen B0_.1 0; have hcz8_0 : w5.cell? ⟨g1_, 0, none⟩ = some (.int .i64 a1_0) := bQ B1_.1 0; have hfz8_0 := blk_frozen B1_.1 0))
  go_ret
  exact ⟨by first | rfl | (simp [errW_none, errW_some] <;> rfl) | (simp [*, errW_none, errW_some] <;> rfl), by repeat (first | (with_reducible first | exact HB.1 | apply bA | apply pD | apply b1 | apply bS E0_.1 | apply bS E1_.1) | exact HB.1)⟩
 rw [if_neg c3] at H
 have c3b0 : decide (a0_0 < a1_0) = false := decide_eq_false c3
 clear c3
 by_cases c9 : a0_0 = a1_0
 ·rw [if_pos c9] at H
  have c9b0 : (a0_0 == a1_0) = true := beq_iff_eq.mpr c9
  have c9b1 : (a0_0 != a1_0) = false := bne_eq_false_iff_eq.mpr c9
  clear c9
  obtain rfl := Option.some.inj H
  go_enter Tryd.func68, Tryd.ntmps68
  go_wp2_with (first | ((with_reducible refine gate_dst (N := 2) rfl ?_); refine bx 2 #[.int .i64 a0_0, .int .i64 a0_1] 28 ?_; intro g0_ hg w10 hbox hb; have B0_ := mk (hbox); have W0_ := gl hg zq; have E0_ := gl hg zq; replace HB := mk (below_step zq hb); clear hb hbox hg) | ((with_reducible refine gate_dst (N := 3) rfl ?_); refine bx 3 #[.int .i64 a1_0, .int .i64 a1_1] 28 ?_; intro g1_ hg w11 hbox hb; have B1_ := mk (hbox); have W1_ := gl hg zq; have E1_ := gl hg zq; replace HB := mk (below_step zq hb); have N01_ := nl hg B0_.1; have N10_ := ng hg B0_.1; replace B0_ := bb hb B0_.1; clear hb hbox hg; have hnb12 := N01_.1; have hnc12 := N10_.1; obtain ⟨hcz13_0, hcz13_1⟩ := cc2 B0_.1; obtain ⟨hfz13_0, hfz13_1⟩ := cf2 B0_.1; obtain ⟨hcz14_0, hcz14_1⟩ := cc2 B1_.1; obtain ⟨hfz14_0, hfz14_1⟩ := cf2 B1_.1))
  go_ret
  exact ⟨by first | rfl | (simp [errW_none, errW_some] <;> rfl) | (simp [*, errW_none, errW_some] <;> rfl), by repeat (first | (with_reducible first | exact HB.1 | apply bA | apply pD | apply b1 | apply bS E0_.1 | apply bS E1_.1) | exact HB.1)⟩
 rw [if_neg c9] at H
 have c9b0 : (a0_0 == a1_0) = false := beq_eq_false_iff_ne.mpr c9
 have c9b1 : (a0_0 != a1_0) = true := bne_iff_ne.mpr c9
 obtain rfl := Option.some.inj H
 go_enter Tryd.func68, Tryd.ntmps68
 go_wp2_with (first | ((with_reducible refine gate_dst (N := 2) rfl ?_); refine bx 2 #[.int .i64 a0_0, .int .i64 a0_1] 28 ?_; intro g0_ hg w15 hbox hb; have B0_ := mk (hbox); have W0_ := gl hg zq; have E0_ := gl hg zq; replace HB := mk (below_step zq hb); clear hb hbox hg) | ((with_reducible refine gate_dst (N := 3) rfl ?_); refine bx 3 #[.int .i64 a1_0, .int .i64 a1_1] 28 ?_; intro g1_ hg w16 hbox hb; have B1_ := mk (hbox); have W1_ := gl hg zq; have E1_ := gl hg zq; replace HB := mk (below_step zq hb); have N01_ := nl hg B0_.1; have N10_ := ng hg B0_.1; replace B0_ := bb hb B0_.1; clear hb hbox hg; have hnb17 := N01_.1; have hnc17 := N10_.1; have hcz18_0 : w16.cell? ⟨g0_, 0, none⟩ = some (.int .i64 a0_0) := bQ B0_.1 0; have hfz18_0 := blk_frozen B0_.1 0; have hcz19_0 : w16.cell? ⟨g1_, 0, none⟩ = some (.int .i64 a1_0) := bQ B1_.1 0; have hfz19_0 := blk_frozen B1_.1 0))
 go_ret
 exact ⟨by first | rfl | (simp [errW_none, errW_some] <;> rfl) | (simp [*, errW_none, errW_some] <;> rfl), by repeat (first | (with_reducible first | exact HB.1 | apply bA | apply pD | apply b1 | apply bS E0_.1 | apply bS E1_.1) | exact HB.1)⟩

end Go.Proofs.YtigkjbaclpklpaaDoor.Q
