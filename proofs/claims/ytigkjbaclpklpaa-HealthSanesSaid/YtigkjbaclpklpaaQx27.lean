/- The calls of these Go functions answer what the Lean functions beside them answer; written by a program (wip/pr2.py, out of the print of the loaded program); under no condition but those that stand in the theorems. -/
import Derived.Test.YtigkjbaclpklpaaQx0
import Derived.Test.YtigkjbaclpklpaaQx8
import Derived.Test.YtigkjbaclpklpaaQx9
import Derived.Test.YtigkjbaclpklpaaQx13
import Derived.Test.YtigkjbaclpklpaaQx18
import Derived.Test.YtigkjbaclpklpaaQx22
import Derived.Test.YtigkjbaclpklpaaQx23
import Derived.Test.YtigkjbaclpklpaaQx26
namespace Go.Proofs.Ytigkjbaclpklpaa.Q
open Go.RowKit Go.Proofs.YtigkjbaclpklpaaW.PrintWords Go.Proofs.YtigkjbaclpklpaaW.PrintLast Go.Proofs.YtigkjbaclpklpaaW.PrintMore
attribute [local go_sem] max2_int min2_int max_two min_two max_three min_three max_four min_four   -- for this text's walks alone
set_option linter.unusedVariables false
set_option linter.unusedSimpArgs false

/-! ### clepsydralaw21_HealthSanes: function 3 -/
def clepsydralaw21_HealthSanes.f (k : Nat) (a0_0 : Int) (a0_1 : Int) (a0_2 : Int) (a0_3 : Int) (a0_4 : Int) (a0_5 : Int) (a0_6 : Int) (a0_7 : Int) (a0_8 : Int) (a0_9 : Int) (a0_10 : Int) (a0_11 : Int) (a1_0 : Int) (a1_1 : Int) (a1_2 : Int) (a1_3 : Bool) (a1_4 : Int) (a1_5 : Int) (a1_6 : Bool) (l1_7 : List (S42)) (a1_8 : Int) (a1_9 : Int) (a1_10 : Int) : Option (Bool) := (clepsydralaw21_alive.f).bind fun t300 => (if t300 = true then ((clepsydralaw21_long.f a1_0 a1_1 a1_2 a1_3 a1_4 a1_5 a1_6 l1_7 a1_8 a1_9 a1_10 a1_0 a1_1 a1_2 a1_3 a1_4 a1_5 a1_6 l1_7 a1_8 a1_9 a1_10).bind fun t301 => (if t301 = true then (some true) else ((health_Sane.f k a0_0 a0_1 a0_2 a0_3 a0_4 a0_5 a0_6 a0_7 a0_8 a0_9 a0_10 a0_11 a1_0 a1_1 a1_2 a1_3 a1_4 a1_5 a1_6 l1_7 a1_8 a1_9 a1_10).bind fun bt302 => ((clepsydraref21_Sane.f k a0_0 a0_1 a0_2 a0_3 a0_4 a0_5 a0_6 a0_7 a0_8 a0_9 a0_10 a0_11 a1_0 a1_1 a1_2 a1_3 a1_4 a1_5 a1_6 l1_7 a1_8 a1_9 a1_10).bind fun bt316 => ((clepsydraref21_Same.f k bt302.1 bt302.2.1 bt302.2.2.1 bt302.2.2.2.1 bt302.2.2.2.2.1 bt302.2.2.2.2.2.1 bt302.2.2.2.2.2.2.1 bt302.2.2.2.2.2.2.2.1 bt302.2.2.2.2.2.2.2.2.1 bt302.2.2.2.2.2.2.2.2.2.1 bt302.2.2.2.2.2.2.2.2.2.2 bt316.1 bt316.2.1 bt316.2.2.1 bt316.2.2.2.1 bt316.2.2.2.2.1 bt316.2.2.2.2.2.1 bt316.2.2.2.2.2.2.1 bt316.2.2.2.2.2.2.2.1 bt316.2.2.2.2.2.2.2.2.1 bt316.2.2.2.2.2.2.2.2.2.1 bt316.2.2.2.2.2.2.2.2.2.2).bind fun t329 => (if t329 = true then ((health_Sane.f k a0_0 a0_1 a0_2 a0_3 a0_4 a0_5 a0_6 a0_7 a0_8 a0_9 a0_10 a0_11 bt302.1 bt302.2.1 bt302.2.2.1 bt302.2.2.2.1 bt302.2.2.2.2.1 bt302.2.2.2.2.2.1 bt302.2.2.2.2.2.2.1 bt302.2.2.2.2.2.2.2.1 bt302.2.2.2.2.2.2.2.2.1 bt302.2.2.2.2.2.2.2.2.2.1 bt302.2.2.2.2.2.2.2.2.2.2).bind fun bt330 => ((clepsydraref21_Same.f k bt330.1 bt330.2.1 bt330.2.2.1 bt330.2.2.2.1 bt330.2.2.2.2.1 bt330.2.2.2.2.2.1 bt330.2.2.2.2.2.2.1 bt330.2.2.2.2.2.2.2.1 bt330.2.2.2.2.2.2.2.2.1 bt330.2.2.2.2.2.2.2.2.2.1 bt330.2.2.2.2.2.2.2.2.2.2 bt302.1 bt302.2.1 bt302.2.2.1 bt302.2.2.2.1 bt302.2.2.2.2.1 bt302.2.2.2.2.2.1 bt302.2.2.2.2.2.2.1 bt302.2.2.2.2.2.2.2.1 bt302.2.2.2.2.2.2.2.2.1 bt302.2.2.2.2.2.2.2.2.2.1 bt302.2.2.2.2.2.2.2.2.2.2).bind fun t343 => (if t343 = true then ((health_Of.f k a0_0 a0_1 a0_2 a0_3 a0_4 a0_5 a0_6 a0_7 a0_8 a0_9 a0_10 a0_11 a1_0 a1_1 a1_2 a1_3 a1_4 a1_5 a1_6 l1_7 a1_8 a1_9 a1_10).bind fun t344 => ((clepsydraref21_Of.f k a0_0 a0_1 a0_2 a0_3 a0_4 a0_5 a0_6 a0_7 a0_8 a0_9 a0_10 a0_11 a1_0 a1_1 a1_2 a1_3 a1_4 a1_5 a1_6 l1_7 a1_8 a1_9 a1_10).bind fun t345 => (if t344 = t345 then ((health_Far.f k a0_0 a0_1 a0_2 a0_3 a0_4 a0_5 a0_6 a0_7 a0_8 a0_9 a0_10 a0_11 a1_4).bind fun t346 => ((clepsydraref21_Far.f k a0_0 a0_1 a0_2 a0_3 a0_4 a0_5 a0_6 a0_7 a0_8 a0_9 a0_10 a0_11 a1_4).bind fun t347 => (some (t346 == t347)))) else (some false)))) else (some false)))) else (some false))))))) else (some false))
theorem clepsydralaw21_HealthSanes.mono : ∀ a0 a1 a2 a3 a4 a5 a6 a7 a8 a9 a10 a11 a12 a13 a14 a15 a16 a17 a18 a19 a20 a21 a22 k, LeO (clepsydralaw21_HealthSanes.f k a0 a1 a2 a3 a4 a5 a6 a7 a8 a9 a10 a11 a12 a13 a14 a15 a16 a17 a18 a19 a20 a21 a22) (clepsydralaw21_HealthSanes.f (k + 1) a0 a1 a2 a3 a4 a5 a6 a7 a8 a9 a10 a11 a12 a13 a14 a15 a16 a17 a18 a19 a20 a21 a22) := by
 intro a0 a1 a2 a3 a4 a5 a6 a7 a8 a9 a10 a11 a12 a13 a14 a15 a16 a17 a18 a19 a20 a21 a22 k
 unfold clepsydralaw21_HealthSanes.f
 repeat' first
   | (with_reducible exact clepsydraref21_Far.mono _ _ _ _ _ _ _ _ _ _ _ _ _ _)
   | (with_reducible exact clepsydraref21_Of.mono _ _ _ _ _ _ _ _ _ _ _ _ _ _ _ _ _ _ _ _ _ _ _ _)
   | (with_reducible exact clepsydraref21_Same.mono _ _ _ _ _ _ _ _ _ _ _ _ _ _ _ _ _ _ _ _ _ _ _)
   | (with_reducible exact clepsydraref21_Sane.mono _ _ _ _ _ _ _ _ _ _ _ _ _ _ _ _ _ _ _ _ _ _ _ _)
   | (with_reducible exact health_Far.mono _ _ _ _ _ _ _ _ _ _ _ _ _ _)
   | (with_reducible exact health_Of.mono _ _ _ _ _ _ _ _ _ _ _ _ _ _ _ _ _ _ _ _ _ _ _ _)
   | (with_reducible exact health_Sane.mono _ _ _ _ _ _ _ _ _ _ _ _ _ _ _ _ _ _ _ _ _ _ _ _)
   | (with_reducible exact LeO.refl _)
   | (with_reducible exact LeO.none _)
   | (with_reducible refine LeO.ite ?_ ?_)
   | (with_reducible refine LeO.bind ?_ (fun _ => ?_))
   | exact clepsydraref21_Far.mono _ _ _ _ _ _ _ _ _ _ _ _ _ _
   | exact clepsydraref21_Of.mono _ _ _ _ _ _ _ _ _ _ _ _ _ _ _ _ _ _ _ _ _ _ _ _
   | exact clepsydraref21_Same.mono _ _ _ _ _ _ _ _ _ _ _ _ _ _ _ _ _ _ _ _ _ _ _
   | exact clepsydraref21_Sane.mono _ _ _ _ _ _ _ _ _ _ _ _ _ _ _ _ _ _ _ _ _ _ _ _
   | exact health_Far.mono _ _ _ _ _ _ _ _ _ _ _ _ _ _
   | exact health_Of.mono _ _ _ _ _ _ _ _ _ _ _ _ _ _ _ _ _ _ _ _ _ _ _ _
   | exact health_Sane.mono _ _ _ _ _ _ _ _ _ _ _ _ _ _ _ _ _ _ _ _ _ _ _ _
   | exact LeO.none _
   | refine LeO.ite ?_ ?_
   | refine LeO.bind ?_ (fun _ => ?_)
def clepsydralaw21_HealthSanes.T6 : Bool × List (List Nat × List Nat) := (true, [([], []), ([], []), ([], []), ([1, 2], [1, 2]), ([0, 3, 3], [0, 3]), ([4, 4], [4]), ([5], [5]), ([5], [5]), ([6, 7, 5, 5], [5, 6, 7]), ([5], [5]), ([8, 9, 8, 5], [5, 8, 9]), ([5, 10], [5, 10]), ([11, 10], [11]), ([12], [12]), ([12], [12]), ([13, 14, 12, 12], [12, 13, 14]), ([12], [12]), ([12], [12]), ([16, 17, 15, 12], [12, 16, 17]), ([15, 18, 12], [12, 15, 18]), ([12, 19], [12, 19]), ([20, 18], [20]), ([21], [21]), ([21], [21]), ([23, 21], [21, 23]), ([22, 24, 21, 21], [21, 22, 24]), ([21], [21]), ([21], [21]), ([27, 21], [21, 27]), ([26, 28, 25, 21], [21, 26, 28]), ([25, 29, 21], [21, 25, 29]), ([21, 30], [21, 30]), ([31, 29, 0, 1, 2, 3, 4, 5, 6, 7, 8, 9, 10, 11, 12, 13, 14, 15, 16, 17, 18, 19, 20, 21, 22, 23, 24, 25, 26, 27, 28, 29, 30, 31], [31])])
def clepsydralaw21_HealthSanes.B6 : List Nat := [0, 0, 0, 6, 15, 31, 63, 63, 255, 63, 1023, 2047, 4095, 8191, 8191, 32767, 8191, 8191, 262143, 524287, 1048575, 2097151, 4194303, 4194303, 12582911, 33554431, 4194303, 4194303, 138412031, 536870911, 1073741823, 2147483647, 4294967295]
theorem clepsydralaw21_HealthSanes.tab6 : rtab .any (opsOf Try.f3 6) = clepsydralaw21_HealthSanes.T6 := by kernel_rfl
theorem clepsydralaw21_HealthSanes.bits6 : waitsOk clepsydralaw21_HealthSanes.T6.2 clepsydralaw21_HealthSanes.B6 = true := by kernel_rfl
set_option maxHeartbeats 8000000 in
set_option maxRecDepth 100000 in
theorem clepsydralaw21_HealthSanes.calls (k : Nat) (a0_0 : Int) (a0_1 : Int) (a0_2 : Int) (a0_3 : Int) (a0_4 : Int) (a0_5 : Int) (a0_6 : Int) (a0_7 : Int) (a0_8 : Int) (a0_9 : Int) (a0_10 : Int) (a0_11 : Int) (a1_0 : Int) (a1_1 : Int) (a1_2 : Int) (a1_3 : Bool) (a1_4 : Int) (a1_5 : Int) (a1_6 : Bool) (A1_7 : Option Addr) (c1_7 : Nat) (l1_7 : List (S42)) (a1_8 : Int) (a1_9 : Int) (a1_10 : Int) (r : Bool) (w : World) (hr1_7 : Kd.C k42 w A1_7 l1_7.length l1_7) (hc1_7 : l1_7.length ≤ c1_7) (hT : Aside0 (r = true)) (h : clepsydralaw21_HealthSanes.f k a0_0 a0_1 a0_2 a0_3 a0_4 a0_5 a0_6 a0_7 a0_8 a0_9 a0_10 a0_11 a1_0 a1_1 a1_2 a1_3 a1_4 a1_5 a1_6 l1_7 a1_8 a1_9 a1_10 = some r) :
  Calls Try.prog 3 #[.agg #[.int .i64 a0_0, .int .i64 a0_1, .int .i64 a0_2, .int .i64 a0_3, .int .i64 a0_4, .int .i64 a0_5, .int .i64 a0_6, .int .i64 a0_7, .int .i64 a0_8, .int .i64 a0_9, .int .i64 a0_10, .int .i64 a0_11], .agg #[.int .i64 a1_0, .int .i64 a1_1, .int .i64 a1_2, .bool a1_3, .int .i64 a1_4, .int .i64 a1_5, .bool a1_6, .slice A1_7 l1_7.length c1_7, .int .i64 a1_8, .int .i64 a1_9, .int .i64 a1_10]] w fun e w' => e = .returned (.bool r) ∧ Below w.heap.size w w' := by
 have hu23 := Try.underlying23
 have hu30 := Try.underlying30
 have HR1_7 := mk hr1_7
 have HC1_7 := mk hc1_7
 clear hr1_7 hc1_7
 have HB := mk (Below.refl w.heap.size w)
 have H : ((clepsydralaw21_alive.f).bind fun t300 => (if t300 = true then ((clepsydralaw21_long.f a1_0 a1_1 a1_2 a1_3 a1_4 a1_5 a1_6 l1_7 a1_8 a1_9 a1_10 a1_0 a1_1 a1_2 a1_3 a1_4 a1_5 a1_6 l1_7 a1_8 a1_9 a1_10).bind fun t301 => (if t301 = true then (some true) else ((health_Sane.f k a0_0 a0_1 a0_2 a0_3 a0_4 a0_5 a0_6 a0_7 a0_8 a0_9 a0_10 a0_11 a1_0 a1_1 a1_2 a1_3 a1_4 a1_5 a1_6 l1_7 a1_8 a1_9 a1_10).bind fun bt302 => ((clepsydraref21_Sane.f k a0_0 a0_1 a0_2 a0_3 a0_4 a0_5 a0_6 a0_7 a0_8 a0_9 a0_10 a0_11 a1_0 a1_1 a1_2 a1_3 a1_4 a1_5 a1_6 l1_7 a1_8 a1_9 a1_10).bind fun bt316 => ((clepsydraref21_Same.f k bt302.1 bt302.2.1 bt302.2.2.1 bt302.2.2.2.1 bt302.2.2.2.2.1 bt302.2.2.2.2.2.1 bt302.2.2.2.2.2.2.1 bt302.2.2.2.2.2.2.2.1 bt302.2.2.2.2.2.2.2.2.1 bt302.2.2.2.2.2.2.2.2.2.1 bt302.2.2.2.2.2.2.2.2.2.2 bt316.1 bt316.2.1 bt316.2.2.1 bt316.2.2.2.1 bt316.2.2.2.2.1 bt316.2.2.2.2.2.1 bt316.2.2.2.2.2.2.1 bt316.2.2.2.2.2.2.2.1 bt316.2.2.2.2.2.2.2.2.1 bt316.2.2.2.2.2.2.2.2.2.1 bt316.2.2.2.2.2.2.2.2.2.2).bind fun t329 => (if t329 = true then ((health_Sane.f k a0_0 a0_1 a0_2 a0_3 a0_4 a0_5 a0_6 a0_7 a0_8 a0_9 a0_10 a0_11 bt302.1 bt302.2.1 bt302.2.2.1 bt302.2.2.2.1 bt302.2.2.2.2.1 bt302.2.2.2.2.2.1 bt302.2.2.2.2.2.2.1 bt302.2.2.2.2.2.2.2.1 bt302.2.2.2.2.2.2.2.2.1 bt302.2.2.2.2.2.2.2.2.2.1 bt302.2.2.2.2.2.2.2.2.2.2).bind fun bt330 => ((clepsydraref21_Same.f k bt330.1 bt330.2.1 bt330.2.2.1 bt330.2.2.2.1 bt330.2.2.2.2.1 bt330.2.2.2.2.2.1 bt330.2.2.2.2.2.2.1 bt330.2.2.2.2.2.2.2.1 bt330.2.2.2.2.2.2.2.2.1 bt330.2.2.2.2.2.2.2.2.2.1 bt330.2.2.2.2.2.2.2.2.2.2 bt302.1 bt302.2.1 bt302.2.2.1 bt302.2.2.2.1 bt302.2.2.2.2.1 bt302.2.2.2.2.2.1 bt302.2.2.2.2.2.2.1 bt302.2.2.2.2.2.2.2.1 bt302.2.2.2.2.2.2.2.2.1 bt302.2.2.2.2.2.2.2.2.2.1 bt302.2.2.2.2.2.2.2.2.2.2).bind fun t343 => (if t343 = true then ((health_Of.f k a0_0 a0_1 a0_2 a0_3 a0_4 a0_5 a0_6 a0_7 a0_8 a0_9 a0_10 a0_11 a1_0 a1_1 a1_2 a1_3 a1_4 a1_5 a1_6 l1_7 a1_8 a1_9 a1_10).bind fun t344 => ((clepsydraref21_Of.f k a0_0 a0_1 a0_2 a0_3 a0_4 a0_5 a0_6 a0_7 a0_8 a0_9 a0_10 a0_11 a1_0 a1_1 a1_2 a1_3 a1_4 a1_5 a1_6 l1_7 a1_8 a1_9 a1_10).bind fun t345 => (if t344 = t345 then ((health_Far.f k a0_0 a0_1 a0_2 a0_3 a0_4 a0_5 a0_6 a0_7 a0_8 a0_9 a0_10 a0_11 a1_4).bind fun t346 => ((clepsydraref21_Far.f k a0_0 a0_1 a0_2 a0_3 a0_4 a0_5 a0_6 a0_7 a0_8 a0_9 a0_10 a0_11 a1_4).bind fun t347 => (some (t346 == t347)))) else (some false)))) else (some false)))) else (some false))))))) else (some false))) = some r := h
 clear h
 replace H := Option.bind_eq_some_iff.mp H
 obtain ⟨t300, A30, H⟩ := H
 replace H : (if t300 = true then ((clepsydralaw21_long.f a1_0 a1_1 a1_2 a1_3 a1_4 a1_5 a1_6 l1_7 a1_8 a1_9 a1_10 a1_0 a1_1 a1_2 a1_3 a1_4 a1_5 a1_6 l1_7 a1_8 a1_9 a1_10).bind fun t301 => (if t301 = true then (some true) else ((health_Sane.f k a0_0 a0_1 a0_2 a0_3 a0_4 a0_5 a0_6 a0_7 a0_8 a0_9 a0_10 a0_11 a1_0 a1_1 a1_2 a1_3 a1_4 a1_5 a1_6 l1_7 a1_8 a1_9 a1_10).bind fun bt302 => ((clepsydraref21_Sane.f k a0_0 a0_1 a0_2 a0_3 a0_4 a0_5 a0_6 a0_7 a0_8 a0_9 a0_10 a0_11 a1_0 a1_1 a1_2 a1_3 a1_4 a1_5 a1_6 l1_7 a1_8 a1_9 a1_10).bind fun bt316 => ((clepsydraref21_Same.f k bt302.1 bt302.2.1 bt302.2.2.1 bt302.2.2.2.1 bt302.2.2.2.2.1 bt302.2.2.2.2.2.1 bt302.2.2.2.2.2.2.1 bt302.2.2.2.2.2.2.2.1 bt302.2.2.2.2.2.2.2.2.1 bt302.2.2.2.2.2.2.2.2.2.1 bt302.2.2.2.2.2.2.2.2.2.2 bt316.1 bt316.2.1 bt316.2.2.1 bt316.2.2.2.1 bt316.2.2.2.2.1 bt316.2.2.2.2.2.1 bt316.2.2.2.2.2.2.1 bt316.2.2.2.2.2.2.2.1 bt316.2.2.2.2.2.2.2.2.1 bt316.2.2.2.2.2.2.2.2.2.1 bt316.2.2.2.2.2.2.2.2.2.2).bind fun t329 => (if t329 = true then ((health_Sane.f k a0_0 a0_1 a0_2 a0_3 a0_4 a0_5 a0_6 a0_7 a0_8 a0_9 a0_10 a0_11 bt302.1 bt302.2.1 bt302.2.2.1 bt302.2.2.2.1 bt302.2.2.2.2.1 bt302.2.2.2.2.2.1 bt302.2.2.2.2.2.2.1 bt302.2.2.2.2.2.2.2.1 bt302.2.2.2.2.2.2.2.2.1 bt302.2.2.2.2.2.2.2.2.2.1 bt302.2.2.2.2.2.2.2.2.2.2).bind fun bt330 => ((clepsydraref21_Same.f k bt330.1 bt330.2.1 bt330.2.2.1 bt330.2.2.2.1 bt330.2.2.2.2.1 bt330.2.2.2.2.2.1 bt330.2.2.2.2.2.2.1 bt330.2.2.2.2.2.2.2.1 bt330.2.2.2.2.2.2.2.2.1 bt330.2.2.2.2.2.2.2.2.2.1 bt330.2.2.2.2.2.2.2.2.2.2 bt302.1 bt302.2.1 bt302.2.2.1 bt302.2.2.2.1 bt302.2.2.2.2.1 bt302.2.2.2.2.2.1 bt302.2.2.2.2.2.2.1 bt302.2.2.2.2.2.2.2.1 bt302.2.2.2.2.2.2.2.2.1 bt302.2.2.2.2.2.2.2.2.2.1 bt302.2.2.2.2.2.2.2.2.2.2).bind fun t343 => (if t343 = true then ((health_Of.f k a0_0 a0_1 a0_2 a0_3 a0_4 a0_5 a0_6 a0_7 a0_8 a0_9 a0_10 a0_11 a1_0 a1_1 a1_2 a1_3 a1_4 a1_5 a1_6 l1_7 a1_8 a1_9 a1_10).bind fun t344 => ((clepsydraref21_Of.f k a0_0 a0_1 a0_2 a0_3 a0_4 a0_5 a0_6 a0_7 a0_8 a0_9 a0_10 a0_11 a1_0 a1_1 a1_2 a1_3 a1_4 a1_5 a1_6 l1_7 a1_8 a1_9 a1_10).bind fun t345 => (if t344 = t345 then ((health_Far.f k a0_0 a0_1 a0_2 a0_3 a0_4 a0_5 a0_6 a0_7 a0_8 a0_9 a0_10 a0_11 a1_4).bind fun t346 => ((clepsydraref21_Far.f k a0_0 a0_1 a0_2 a0_3 a0_4 a0_5 a0_6 a0_7 a0_8 a0_9 a0_10 a0_11 a1_4).bind fun t347 => (some (t346 == t347)))) else (some false)))) else (some false)))) else (some false))))))) else (some false)) = some r := H
 have A3 := mk A30
 clear A30
 by_cases c4 : t300 = true
 ·subst c4
  have H1 : ((clepsydralaw21_long.f a1_0 a1_1 a1_2 a1_3 a1_4 a1_5 a1_6 l1_7 a1_8 a1_9 a1_10 a1_0 a1_1 a1_2 a1_3 a1_4 a1_5 a1_6 l1_7 a1_8 a1_9 a1_10).bind fun t301 => (if t301 = true then (some true) else ((health_Sane.f k a0_0 a0_1 a0_2 a0_3 a0_4 a0_5 a0_6 a0_7 a0_8 a0_9 a0_10 a0_11 a1_0 a1_1 a1_2 a1_3 a1_4 a1_5 a1_6 l1_7 a1_8 a1_9 a1_10).bind fun bt302 => ((clepsydraref21_Sane.f k a0_0 a0_1 a0_2 a0_3 a0_4 a0_5 a0_6 a0_7 a0_8 a0_9 a0_10 a0_11 a1_0 a1_1 a1_2 a1_3 a1_4 a1_5 a1_6 l1_7 a1_8 a1_9 a1_10).bind fun bt316 => ((clepsydraref21_Same.f k bt302.1 bt302.2.1 bt302.2.2.1 bt302.2.2.2.1 bt302.2.2.2.2.1 bt302.2.2.2.2.2.1 bt302.2.2.2.2.2.2.1 bt302.2.2.2.2.2.2.2.1 bt302.2.2.2.2.2.2.2.2.1 bt302.2.2.2.2.2.2.2.2.2.1 bt302.2.2.2.2.2.2.2.2.2.2 bt316.1 bt316.2.1 bt316.2.2.1 bt316.2.2.2.1 bt316.2.2.2.2.1 bt316.2.2.2.2.2.1 bt316.2.2.2.2.2.2.1 bt316.2.2.2.2.2.2.2.1 bt316.2.2.2.2.2.2.2.2.1 bt316.2.2.2.2.2.2.2.2.2.1 bt316.2.2.2.2.2.2.2.2.2.2).bind fun t329 => (if t329 = true then ((health_Sane.f k a0_0 a0_1 a0_2 a0_3 a0_4 a0_5 a0_6 a0_7 a0_8 a0_9 a0_10 a0_11 bt302.1 bt302.2.1 bt302.2.2.1 bt302.2.2.2.1 bt302.2.2.2.2.1 bt302.2.2.2.2.2.1 bt302.2.2.2.2.2.2.1 bt302.2.2.2.2.2.2.2.1 bt302.2.2.2.2.2.2.2.2.1 bt302.2.2.2.2.2.2.2.2.2.1 bt302.2.2.2.2.2.2.2.2.2.2).bind fun bt330 => ((clepsydraref21_Same.f k bt330.1 bt330.2.1 bt330.2.2.1 bt330.2.2.2.1 bt330.2.2.2.2.1 bt330.2.2.2.2.2.1 bt330.2.2.2.2.2.2.1 bt330.2.2.2.2.2.2.2.1 bt330.2.2.2.2.2.2.2.2.1 bt330.2.2.2.2.2.2.2.2.2.1 bt330.2.2.2.2.2.2.2.2.2.2 bt302.1 bt302.2.1 bt302.2.2.1 bt302.2.2.2.1 bt302.2.2.2.2.1 bt302.2.2.2.2.2.1 bt302.2.2.2.2.2.2.1 bt302.2.2.2.2.2.2.2.1 bt302.2.2.2.2.2.2.2.2.1 bt302.2.2.2.2.2.2.2.2.2.1 bt302.2.2.2.2.2.2.2.2.2.2).bind fun t343 => (if t343 = true then ((health_Of.f k a0_0 a0_1 a0_2 a0_3 a0_4 a0_5 a0_6 a0_7 a0_8 a0_9 a0_10 a0_11 a1_0 a1_1 a1_2 a1_3 a1_4 a1_5 a1_6 l1_7 a1_8 a1_9 a1_10).bind fun t344 => ((clepsydraref21_Of.f k a0_0 a0_1 a0_2 a0_3 a0_4 a0_5 a0_6 a0_7 a0_8 a0_9 a0_10 a0_11 a1_0 a1_1 a1_2 a1_3 a1_4 a1_5 a1_6 l1_7 a1_8 a1_9 a1_10).bind fun t345 => (if t344 = t345 then ((health_Far.f k a0_0 a0_1 a0_2 a0_3 a0_4 a0_5 a0_6 a0_7 a0_8 a0_9 a0_10 a0_11 a1_4).bind fun t346 => ((clepsydraref21_Far.f k a0_0 a0_1 a0_2 a0_3 a0_4 a0_5 a0_6 a0_7 a0_8 a0_9 a0_10 a0_11 a1_4).bind fun t347 => (some (t346 == t347)))) else (some false)))) else (some false)))) else (some false))))))) = some r := by rw [if_pos rfl] at H; exact H
  clear H
  have H := H1
  clear H1
  replace H := Option.bind_eq_some_iff.mp H
  obtain ⟨t301, A50, H⟩ := H
  replace H : (if t301 = true then (some true) else ((health_Sane.f k a0_0 a0_1 a0_2 a0_3 a0_4 a0_5 a0_6 a0_7 a0_8 a0_9 a0_10 a0_11 a1_0 a1_1 a1_2 a1_3 a1_4 a1_5 a1_6 l1_7 a1_8 a1_9 a1_10).bind fun bt302 => ((clepsydraref21_Sane.f k a0_0 a0_1 a0_2 a0_3 a0_4 a0_5 a0_6 a0_7 a0_8 a0_9 a0_10 a0_11 a1_0 a1_1 a1_2 a1_3 a1_4 a1_5 a1_6 l1_7 a1_8 a1_9 a1_10).bind fun bt316 => ((clepsydraref21_Same.f k bt302.1 bt302.2.1 bt302.2.2.1 bt302.2.2.2.1 bt302.2.2.2.2.1 bt302.2.2.2.2.2.1 bt302.2.2.2.2.2.2.1 bt302.2.2.2.2.2.2.2.1 bt302.2.2.2.2.2.2.2.2.1 bt302.2.2.2.2.2.2.2.2.2.1 bt302.2.2.2.2.2.2.2.2.2.2 bt316.1 bt316.2.1 bt316.2.2.1 bt316.2.2.2.1 bt316.2.2.2.2.1 bt316.2.2.2.2.2.1 bt316.2.2.2.2.2.2.1 bt316.2.2.2.2.2.2.2.1 bt316.2.2.2.2.2.2.2.2.1 bt316.2.2.2.2.2.2.2.2.2.1 bt316.2.2.2.2.2.2.2.2.2.2).bind fun t329 => (if t329 = true then ((health_Sane.f k a0_0 a0_1 a0_2 a0_3 a0_4 a0_5 a0_6 a0_7 a0_8 a0_9 a0_10 a0_11 bt302.1 bt302.2.1 bt302.2.2.1 bt302.2.2.2.1 bt302.2.2.2.2.1 bt302.2.2.2.2.2.1 bt302.2.2.2.2.2.2.1 bt302.2.2.2.2.2.2.2.1 bt302.2.2.2.2.2.2.2.2.1 bt302.2.2.2.2.2.2.2.2.2.1 bt302.2.2.2.2.2.2.2.2.2.2).bind fun bt330 => ((clepsydraref21_Same.f k bt330.1 bt330.2.1 bt330.2.2.1 bt330.2.2.2.1 bt330.2.2.2.2.1 bt330.2.2.2.2.2.1 bt330.2.2.2.2.2.2.1 bt330.2.2.2.2.2.2.2.1 bt330.2.2.2.2.2.2.2.2.1 bt330.2.2.2.2.2.2.2.2.2.1 bt330.2.2.2.2.2.2.2.2.2.2 bt302.1 bt302.2.1 bt302.2.2.1 bt302.2.2.2.1 bt302.2.2.2.2.1 bt302.2.2.2.2.2.1 bt302.2.2.2.2.2.2.1 bt302.2.2.2.2.2.2.2.1 bt302.2.2.2.2.2.2.2.2.1 bt302.2.2.2.2.2.2.2.2.2.1 bt302.2.2.2.2.2.2.2.2.2.2).bind fun t343 => (if t343 = true then ((health_Of.f k a0_0 a0_1 a0_2 a0_3 a0_4 a0_5 a0_6 a0_7 a0_8 a0_9 a0_10 a0_11 a1_0 a1_1 a1_2 a1_3 a1_4 a1_5 a1_6 l1_7 a1_8 a1_9 a1_10).bind fun t344 => ((clepsydraref21_Of.f k a0_0 a0_1 a0_2 a0_3 a0_4 a0_5 a0_6 a0_7 a0_8 a0_9 a0_10 a0_11 a1_0 a1_1 a1_2 a1_3 a1_4 a1_5 a1_6 l1_7 a1_8 a1_9 a1_10).bind fun t345 => (if t344 = t345 then ((health_Far.f k a0_0 a0_1 a0_2 a0_3 a0_4 a0_5 a0_6 a0_7 a0_8 a0_9 a0_10 a0_11 a1_4).bind fun t346 => ((clepsydraref21_Far.f k a0_0 a0_1 a0_2 a0_3 a0_4 a0_5 a0_6 a0_7 a0_8 a0_9 a0_10 a0_11 a1_4).bind fun t347 => (some (t346 == t347)))) else (some false)))) else (some false)))) else (some false)))))) = some r := H
  have A5 := mk A50
  clear A50
  by_cases c6 : t301 = true
  ·subst c6
   have H1 : (some true) = some r := by rw [if_pos rfl] at H; exact H
   clear H
   have H := H1
   clear H1
   obtain rfl := Option.some.inj H
   go_enter Try.func3, Try.ntmps3
   go_wp2_with (first | ((with_reducible refine gate_dst (N := 2) rfl ?_); refine box_event ?hg (N := 2) ?hd (cs := #[.int .i64 a0_0, .int .i64 a0_1, .int .i64 a0_2, .int .i64 a0_3, .int .i64 a0_4, .int .i64 a0_5, .int .i64 a0_6, .int .i64 a0_7, .int .i64 a0_8, .int .i64 a0_9, .int .i64 a0_10, .int .i64 a0_11]) (t := 23) ?hr ?_; (case hd => rfl); (case hg => rfl); (case hr => first | (go_simp; done) | (go_simp; rfl)); intro g0_ hg w7 hbox hb; have n0_ := mk (below_step (by repeat first | exact HB.1 | apply pD | apply b1 | refine bT (by assumption) ?_ | apply bA) hb); have n1_ := mk (hbox); have n2_ := gl hg (by repeat first | exact HB.1 | apply pD | apply b1 | refine bT (by assumption) ?_ | apply bA); have n3_ := gl hg (by repeat first | exact HB.1 | apply pD | apply b1 | refine bT (by assumption) ?_ | apply bA); clear HB; have HB := n0_; have B0_ := n1_; have W0_ := n2_; have E0_ := n3_; clear n0_ n1_ n2_ n3_; clear hb hbox hg) | ((with_reducible refine gate_dst (N := 3) rfl ?_); refine box_event ?hg (N := 3) ?hd (cs := #[.int .i64 a1_0, .int .i64 a1_1, .int .i64 a1_2, .bool a1_3, .int .i64 a1_4, .int .i64 a1_5, .bool a1_6, .slice A1_7 l1_7.length c1_7, .int .i64 a1_8, .int .i64 a1_9, .int .i64 a1_10]) (t := 30) ?hr ?_; (case hd => rfl); (case hg => rfl); (case hr => first | (go_simp; done) | (go_simp; rfl)); intro g1_ hg w8 hbox hb; have n0_ := bb hb B0_.1; have n1_ := mk (below_step (by repeat first | exact HB.1 | apply pD | apply b1 | refine bT (by assumption) ?_ | apply bA) hb); have n2_ := mk (hbox); have n3_ := gl hg (by repeat first | exact HB.1 | apply pD | apply b1 | refine bT (by assumption) ?_ | apply bA); have n4_ := gl hg (by repeat first | exact HB.1 | apply pD | apply b1 | refine bT (by assumption) ?_ | apply bA); have n5_ := nl hg B0_.1; have n6_ := ng hg B0_.1; clear B0_; clear HB; have B0_ := n0_; have HB := n1_; have B1_ := n2_; have W1_ := n3_; have E1_ := n4_; have N01_ := n5_; have N10_ := n6_; clear n0_ n1_ n2_ n3_ n4_ n5_ n6_; clear hb hbox hg) | ((with_reducible refine gate_callee (f := 8) rfl ?_); refine goesL_ (some 6) rfl rfl Try.func8 (by kernel_rfl) rfl #[] rfl (by (try simp only [List.map_toArray, List.map_cons, List.map_nil]); first | done | rfl | (simp only [List.length_drop, List.length_take]; rfl)) ?_; (with_reducible refine (clepsydralaw21_alive.calls  true _ A3.1).mono ?_); rintro e w9 ⟨rfl, hb⟩; refine ⟨_, rfl, ?_⟩; have n0_ := bb hb B0_.1; have n1_ := bb hb B1_.1; have n2_ := mk (below_step (by repeat first | exact HB.1 | apply pD | apply b1 | refine bT (by assumption) ?_ | apply bA) hb); clear B0_; clear B1_; clear HB; have B0_ := n0_; have B1_ := n1_; have HB := n2_; clear n0_ n1_ n2_; (try clear hb); (try clear hb2); (try clear hk); (try clear hi); have hnb10 := N10_.1; have hnc10 := N01_.1; have hcz11_0 : w9.cell? ⟨g1_, 0, none⟩ = some (.int .i64 a1_0) := bQ B1_.1 0; have hcz11_1 : w9.cell? ⟨g1_, 1, none⟩ = some (.int .i64 a1_1) := bQ B1_.1 1; have hcz11_2 : w9.cell? ⟨g1_, 2, none⟩ = some (.int .i64 a1_2) := bQ B1_.1 2; have hcz11_3 : w9.cell? ⟨g1_, 3, none⟩ = some (.bool a1_3) := bQ B1_.1 3; have hcz11_4 : w9.cell? ⟨g1_, 4, none⟩ = some (.int .i64 a1_4) := bQ B1_.1 4; have hcz11_5 : w9.cell? ⟨g1_, 5, none⟩ = some (.int .i64 a1_5) := bQ B1_.1 5; have hcz11_6 : w9.cell? ⟨g1_, 6, none⟩ = some (.bool a1_6) := bQ B1_.1 6; have hcz11_7 : w9.cell? ⟨g1_, 7, none⟩ = some (.slice A1_7 l1_7.length c1_7) := bQ B1_.1 7; have hcz11_8 : w9.cell? ⟨g1_, 8, none⟩ = some (.int .i64 a1_8) := bQ B1_.1 8; have hcz11_9 : w9.cell? ⟨g1_, 9, none⟩ = some (.int .i64 a1_9) := bQ B1_.1 9; have hcz11_10 : w9.cell? ⟨g1_, 10, none⟩ = some (.int .i64 a1_10) := bQ B1_.1 10; have hfz11_0 := blk_frozen B1_.1 0; have hfz11_1 := blk_frozen B1_.1 1; have hfz11_2 := blk_frozen B1_.1 2; have hfz11_3 := blk_frozen B1_.1 3; have hfz11_4 := blk_frozen B1_.1 4; have hfz11_5 := blk_frozen B1_.1 5; have hfz11_6 := blk_frozen B1_.1 6; have hfz11_7 := blk_frozen B1_.1 7; have hfz11_8 := blk_frozen B1_.1 8; have hfz11_9 := blk_frozen B1_.1 9; have hfz11_10 := blk_frozen B1_.1 10) | ((with_reducible refine gate_callee (f := 9) rfl ?_); refine goesL_ (some 10) rfl rfl Try.func9 (by kernel_rfl) rfl #[.agg #[.int .i64 a1_0, .int .i64 a1_1, .int .i64 a1_2, .bool a1_3, .int .i64 a1_4, .int .i64 a1_5, .bool a1_6, .slice A1_7 l1_7.length c1_7, .int .i64 a1_8, .int .i64 a1_9, .int .i64 a1_10], .agg #[.int .i64 a1_0, .int .i64 a1_1, .int .i64 a1_2, .bool a1_3, .int .i64 a1_4, .int .i64 a1_5, .bool a1_6, .slice A1_7 l1_7.length c1_7, .int .i64 a1_8, .int .i64 a1_9, .int .i64 a1_10]] rfl (by (try simp only [List.map_toArray, List.map_cons, List.map_nil]); first | done | rfl | (simp only [List.length_drop, List.length_take]; rfl)) ?_; (with_reducible refine (clepsydralaw21_long.calls a1_0 a1_1 a1_2 a1_3 a1_4 a1_5 a1_6 _ _ l1_7 a1_8 a1_9 a1_10 a1_0 a1_1 a1_2 a1_3 a1_4 a1_5 a1_6 _ _ l1_7 a1_8 a1_9 a1_10 true _ ?side1 ?side2 ?side3 ?side4 A5.1).mono ?_); (case side1 => repeat (first | exact (Kd.C_below HR1_7.out HB.1) | (with_reducible refine Kd.C_alloc ?_ _) | (with_reducible refine Kd.C_drewN ?_ _) | (with_reducible refine Kd.C_drew ?_))); (case side2 => exact HC1_7.out); (case side3 => repeat (first | exact (Kd.C_below HR1_7.out HB.1) | (with_reducible refine Kd.C_alloc ?_ _) | (with_reducible refine Kd.C_drewN ?_ _) | (with_reducible refine Kd.C_drew ?_))); (case side4 => exact HC1_7.out); rintro e w12 ⟨rfl, hb⟩; refine ⟨_, rfl, ?_⟩; have n0_ := bb hb B0_.1; have n1_ := bb hb B1_.1; have n2_ := mk (below_step (by repeat first | exact HB.1 | apply pD | apply b1 | refine bT (by assumption) ?_ | apply bA) hb); clear B0_; clear B1_; clear HB; have B0_ := n0_; have B1_ := n1_; have HB := n2_; clear n0_ n1_ n2_; (try clear hb); (try clear hb2); (try clear hk); (try clear hi)))
   go_ret
   exact ⟨by first | rfl | (simp [errW_none, errW_some] <;> rfl) | (simp [*, errW_none, errW_some] <;> rfl), by repeat (first | (with_reducible first | exact HB.1 | apply bA | apply pD | apply b1 | apply bS E0_.1 | apply bS E1_.1) | exact HB.1)⟩
  replace c6 := Bool.eq_false_iff.mpr c6
  subst c6
  have H1 : ((health_Sane.f k a0_0 a0_1 a0_2 a0_3 a0_4 a0_5 a0_6 a0_7 a0_8 a0_9 a0_10 a0_11 a1_0 a1_1 a1_2 a1_3 a1_4 a1_5 a1_6 l1_7 a1_8 a1_9 a1_10).bind fun bt302 => ((clepsydraref21_Sane.f k a0_0 a0_1 a0_2 a0_3 a0_4 a0_5 a0_6 a0_7 a0_8 a0_9 a0_10 a0_11 a1_0 a1_1 a1_2 a1_3 a1_4 a1_5 a1_6 l1_7 a1_8 a1_9 a1_10).bind fun bt316 => ((clepsydraref21_Same.f k bt302.1 bt302.2.1 bt302.2.2.1 bt302.2.2.2.1 bt302.2.2.2.2.1 bt302.2.2.2.2.2.1 bt302.2.2.2.2.2.2.1 bt302.2.2.2.2.2.2.2.1 bt302.2.2.2.2.2.2.2.2.1 bt302.2.2.2.2.2.2.2.2.2.1 bt302.2.2.2.2.2.2.2.2.2.2 bt316.1 bt316.2.1 bt316.2.2.1 bt316.2.2.2.1 bt316.2.2.2.2.1 bt316.2.2.2.2.2.1 bt316.2.2.2.2.2.2.1 bt316.2.2.2.2.2.2.2.1 bt316.2.2.2.2.2.2.2.2.1 bt316.2.2.2.2.2.2.2.2.2.1 bt316.2.2.2.2.2.2.2.2.2.2).bind fun t329 => (if t329 = true then ((health_Sane.f k a0_0 a0_1 a0_2 a0_3 a0_4 a0_5 a0_6 a0_7 a0_8 a0_9 a0_10 a0_11 bt302.1 bt302.2.1 bt302.2.2.1 bt302.2.2.2.1 bt302.2.2.2.2.1 bt302.2.2.2.2.2.1 bt302.2.2.2.2.2.2.1 bt302.2.2.2.2.2.2.2.1 bt302.2.2.2.2.2.2.2.2.1 bt302.2.2.2.2.2.2.2.2.2.1 bt302.2.2.2.2.2.2.2.2.2.2).bind fun bt330 => ((clepsydraref21_Same.f k bt330.1 bt330.2.1 bt330.2.2.1 bt330.2.2.2.1 bt330.2.2.2.2.1 bt330.2.2.2.2.2.1 bt330.2.2.2.2.2.2.1 bt330.2.2.2.2.2.2.2.1 bt330.2.2.2.2.2.2.2.2.1 bt330.2.2.2.2.2.2.2.2.2.1 bt330.2.2.2.2.2.2.2.2.2.2 bt302.1 bt302.2.1 bt302.2.2.1 bt302.2.2.2.1 bt302.2.2.2.2.1 bt302.2.2.2.2.2.1 bt302.2.2.2.2.2.2.1 bt302.2.2.2.2.2.2.2.1 bt302.2.2.2.2.2.2.2.2.1 bt302.2.2.2.2.2.2.2.2.2.1 bt302.2.2.2.2.2.2.2.2.2.2).bind fun t343 => (if t343 = true then ((health_Of.f k a0_0 a0_1 a0_2 a0_3 a0_4 a0_5 a0_6 a0_7 a0_8 a0_9 a0_10 a0_11 a1_0 a1_1 a1_2 a1_3 a1_4 a1_5 a1_6 l1_7 a1_8 a1_9 a1_10).bind fun t344 => ((clepsydraref21_Of.f k a0_0 a0_1 a0_2 a0_3 a0_4 a0_5 a0_6 a0_7 a0_8 a0_9 a0_10 a0_11 a1_0 a1_1 a1_2 a1_3 a1_4 a1_5 a1_6 l1_7 a1_8 a1_9 a1_10).bind fun t345 => (if t344 = t345 then ((health_Far.f k a0_0 a0_1 a0_2 a0_3 a0_4 a0_5 a0_6 a0_7 a0_8 a0_9 a0_10 a0_11 a1_4).bind fun t346 => ((clepsydraref21_Far.f k a0_0 a0_1 a0_2 a0_3 a0_4 a0_5 a0_6 a0_7 a0_8 a0_9 a0_10 a0_11 a1_4).bind fun t347 => (some (t346 == t347)))) else (some false)))) else (some false)))) else (some false))))) = some r := by rw [if_neg (show ¬ (false = true) by decide)] at H; exact H
  clear H
  have H := H1
  clear H1
  replace H := Option.bind_eq_some_iff.mp H
  obtain ⟨⟨t302, t303, t304, t305, t306, t307, t308, t309, t312, t313, t314⟩, A130, H⟩ := H
  replace H : ((clepsydraref21_Sane.f k a0_0 a0_1 a0_2 a0_3 a0_4 a0_5 a0_6 a0_7 a0_8 a0_9 a0_10 a0_11 a1_0 a1_1 a1_2 a1_3 a1_4 a1_5 a1_6 l1_7 a1_8 a1_9 a1_10).bind fun bt316 => ((clepsydraref21_Same.f k t302 t303 t304 t305 t306 t307 t308 t309 t312 t313 t314 bt316.1 bt316.2.1 bt316.2.2.1 bt316.2.2.2.1 bt316.2.2.2.2.1 bt316.2.2.2.2.2.1 bt316.2.2.2.2.2.2.1 bt316.2.2.2.2.2.2.2.1 bt316.2.2.2.2.2.2.2.2.1 bt316.2.2.2.2.2.2.2.2.2.1 bt316.2.2.2.2.2.2.2.2.2.2).bind fun t329 => (if t329 = true then ((health_Sane.f k a0_0 a0_1 a0_2 a0_3 a0_4 a0_5 a0_6 a0_7 a0_8 a0_9 a0_10 a0_11 t302 t303 t304 t305 t306 t307 t308 t309 t312 t313 t314).bind fun bt330 => ((clepsydraref21_Same.f k bt330.1 bt330.2.1 bt330.2.2.1 bt330.2.2.2.1 bt330.2.2.2.2.1 bt330.2.2.2.2.2.1 bt330.2.2.2.2.2.2.1 bt330.2.2.2.2.2.2.2.1 bt330.2.2.2.2.2.2.2.2.1 bt330.2.2.2.2.2.2.2.2.2.1 bt330.2.2.2.2.2.2.2.2.2.2 t302 t303 t304 t305 t306 t307 t308 t309 t312 t313 t314).bind fun t343 => (if t343 = true then ((health_Of.f k a0_0 a0_1 a0_2 a0_3 a0_4 a0_5 a0_6 a0_7 a0_8 a0_9 a0_10 a0_11 a1_0 a1_1 a1_2 a1_3 a1_4 a1_5 a1_6 l1_7 a1_8 a1_9 a1_10).bind fun t344 => ((clepsydraref21_Of.f k a0_0 a0_1 a0_2 a0_3 a0_4 a0_5 a0_6 a0_7 a0_8 a0_9 a0_10 a0_11 a1_0 a1_1 a1_2 a1_3 a1_4 a1_5 a1_6 l1_7 a1_8 a1_9 a1_10).bind fun t345 => (if t344 = t345 then ((health_Far.f k a0_0 a0_1 a0_2 a0_3 a0_4 a0_5 a0_6 a0_7 a0_8 a0_9 a0_10 a0_11 a1_4).bind fun t346 => ((clepsydraref21_Far.f k a0_0 a0_1 a0_2 a0_3 a0_4 a0_5 a0_6 a0_7 a0_8 a0_9 a0_10 a0_11 a1_4).bind fun t347 => (some (t346 == t347)))) else (some false)))) else (some false)))) else (some false)))) = some r := H
  have A13 := mk A130
  clear A130
  replace H := Option.bind_eq_some_iff.mp H
  obtain ⟨⟨t316, t317, t318, t319, t320, t321, t322, t323, t326, t327, t328⟩, A140, H⟩ := H
  replace H : ((clepsydraref21_Same.f k t302 t303 t304 t305 t306 t307 t308 t309 t312 t313 t314 t316 t317 t318 t319 t320 t321 t322 t323 t326 t327 t328).bind fun t329 => (if t329 = true then ((health_Sane.f k a0_0 a0_1 a0_2 a0_3 a0_4 a0_5 a0_6 a0_7 a0_8 a0_9 a0_10 a0_11 t302 t303 t304 t305 t306 t307 t308 t309 t312 t313 t314).bind fun bt330 => ((clepsydraref21_Same.f k bt330.1 bt330.2.1 bt330.2.2.1 bt330.2.2.2.1 bt330.2.2.2.2.1 bt330.2.2.2.2.2.1 bt330.2.2.2.2.2.2.1 bt330.2.2.2.2.2.2.2.1 bt330.2.2.2.2.2.2.2.2.1 bt330.2.2.2.2.2.2.2.2.2.1 bt330.2.2.2.2.2.2.2.2.2.2 t302 t303 t304 t305 t306 t307 t308 t309 t312 t313 t314).bind fun t343 => (if t343 = true then ((health_Of.f k a0_0 a0_1 a0_2 a0_3 a0_4 a0_5 a0_6 a0_7 a0_8 a0_9 a0_10 a0_11 a1_0 a1_1 a1_2 a1_3 a1_4 a1_5 a1_6 l1_7 a1_8 a1_9 a1_10).bind fun t344 => ((clepsydraref21_Of.f k a0_0 a0_1 a0_2 a0_3 a0_4 a0_5 a0_6 a0_7 a0_8 a0_9 a0_10 a0_11 a1_0 a1_1 a1_2 a1_3 a1_4 a1_5 a1_6 l1_7 a1_8 a1_9 a1_10).bind fun t345 => (if t344 = t345 then ((health_Far.f k a0_0 a0_1 a0_2 a0_3 a0_4 a0_5 a0_6 a0_7 a0_8 a0_9 a0_10 a0_11 a1_4).bind fun t346 => ((clepsydraref21_Far.f k a0_0 a0_1 a0_2 a0_3 a0_4 a0_5 a0_6 a0_7 a0_8 a0_9 a0_10 a0_11 a1_4).bind fun t347 => (some (t346 == t347)))) else (some false)))) else (some false)))) else (some false))) = some r := H
  have A14 := mk A140
  clear A140
  replace H := Option.bind_eq_some_iff.mp H
  obtain ⟨t329, A150, H⟩ := H
  replace H : (if t329 = true then ((health_Sane.f k a0_0 a0_1 a0_2 a0_3 a0_4 a0_5 a0_6 a0_7 a0_8 a0_9 a0_10 a0_11 t302 t303 t304 t305 t306 t307 t308 t309 t312 t313 t314).bind fun bt330 => ((clepsydraref21_Same.f k bt330.1 bt330.2.1 bt330.2.2.1 bt330.2.2.2.1 bt330.2.2.2.2.1 bt330.2.2.2.2.2.1 bt330.2.2.2.2.2.2.1 bt330.2.2.2.2.2.2.2.1 bt330.2.2.2.2.2.2.2.2.1 bt330.2.2.2.2.2.2.2.2.2.1 bt330.2.2.2.2.2.2.2.2.2.2 t302 t303 t304 t305 t306 t307 t308 t309 t312 t313 t314).bind fun t343 => (if t343 = true then ((health_Of.f k a0_0 a0_1 a0_2 a0_3 a0_4 a0_5 a0_6 a0_7 a0_8 a0_9 a0_10 a0_11 a1_0 a1_1 a1_2 a1_3 a1_4 a1_5 a1_6 l1_7 a1_8 a1_9 a1_10).bind fun t344 => ((clepsydraref21_Of.f k a0_0 a0_1 a0_2 a0_3 a0_4 a0_5 a0_6 a0_7 a0_8 a0_9 a0_10 a0_11 a1_0 a1_1 a1_2 a1_3 a1_4 a1_5 a1_6 l1_7 a1_8 a1_9 a1_10).bind fun t345 => (if t344 = t345 then ((health_Far.f k a0_0 a0_1 a0_2 a0_3 a0_4 a0_5 a0_6 a0_7 a0_8 a0_9 a0_10 a0_11 a1_4).bind fun t346 => ((clepsydraref21_Far.f k a0_0 a0_1 a0_2 a0_3 a0_4 a0_5 a0_6 a0_7 a0_8 a0_9 a0_10 a0_11 a1_4).bind fun t347 => (some (t346 == t347)))) else (some false)))) else (some false)))) else (some false)) = some r := H
  have A15 := mk A150
  clear A150
  by_cases c16 : t329 = true
  ·subst c16
   have H1 : ((health_Sane.f k a0_0 a0_1 a0_2 a0_3 a0_4 a0_5 a0_6 a0_7 a0_8 a0_9 a0_10 a0_11 t302 t303 t304 t305 t306 t307 t308 t309 t312 t313 t314).bind fun bt330 => ((clepsydraref21_Same.f k bt330.1 bt330.2.1 bt330.2.2.1 bt330.2.2.2.1 bt330.2.2.2.2.1 bt330.2.2.2.2.2.1 bt330.2.2.2.2.2.2.1 bt330.2.2.2.2.2.2.2.1 bt330.2.2.2.2.2.2.2.2.1 bt330.2.2.2.2.2.2.2.2.2.1 bt330.2.2.2.2.2.2.2.2.2.2 t302 t303 t304 t305 t306 t307 t308 t309 t312 t313 t314).bind fun t343 => (if t343 = true then ((health_Of.f k a0_0 a0_1 a0_2 a0_3 a0_4 a0_5 a0_6 a0_7 a0_8 a0_9 a0_10 a0_11 a1_0 a1_1 a1_2 a1_3 a1_4 a1_5 a1_6 l1_7 a1_8 a1_9 a1_10).bind fun t344 => ((clepsydraref21_Of.f k a0_0 a0_1 a0_2 a0_3 a0_4 a0_5 a0_6 a0_7 a0_8 a0_9 a0_10 a0_11 a1_0 a1_1 a1_2 a1_3 a1_4 a1_5 a1_6 l1_7 a1_8 a1_9 a1_10).bind fun t345 => (if t344 = t345 then ((health_Far.f k a0_0 a0_1 a0_2 a0_3 a0_4 a0_5 a0_6 a0_7 a0_8 a0_9 a0_10 a0_11 a1_4).bind fun t346 => ((clepsydraref21_Far.f k a0_0 a0_1 a0_2 a0_3 a0_4 a0_5 a0_6 a0_7 a0_8 a0_9 a0_10 a0_11 a1_4).bind fun t347 => (some (t346 == t347)))) else (some false)))) else (some false)))) = some r := by rw [if_pos rfl] at H; exact H
   clear H
   have H := H1
   clear H1
   replace H := Option.bind_eq_some_iff.mp H
   obtain ⟨⟨t330, t331, t332, t333, t334, t335, t336, t337, t340, t341, t342⟩, A170, H⟩ := H
   replace H : ((clepsydraref21_Same.f k t330 t331 t332 t333 t334 t335 t336 t337 t340 t341 t342 t302 t303 t304 t305 t306 t307 t308 t309 t312 t313 t314).bind fun t343 => (if t343 = true then ((health_Of.f k a0_0 a0_1 a0_2 a0_3 a0_4 a0_5 a0_6 a0_7 a0_8 a0_9 a0_10 a0_11 a1_0 a1_1 a1_2 a1_3 a1_4 a1_5 a1_6 l1_7 a1_8 a1_9 a1_10).bind fun t344 => ((clepsydraref21_Of.f k a0_0 a0_1 a0_2 a0_3 a0_4 a0_5 a0_6 a0_7 a0_8 a0_9 a0_10 a0_11 a1_0 a1_1 a1_2 a1_3 a1_4 a1_5 a1_6 l1_7 a1_8 a1_9 a1_10).bind fun t345 => (if t344 = t345 then ((health_Far.f k a0_0 a0_1 a0_2 a0_3 a0_4 a0_5 a0_6 a0_7 a0_8 a0_9 a0_10 a0_11 a1_4).bind fun t346 => ((clepsydraref21_Far.f k a0_0 a0_1 a0_2 a0_3 a0_4 a0_5 a0_6 a0_7 a0_8 a0_9 a0_10 a0_11 a1_4).bind fun t347 => (some (t346 == t347)))) else (some false)))) else (some false))) = some r := H
   have A17 := mk A170
   clear A170
   replace H := Option.bind_eq_some_iff.mp H
   obtain ⟨t343, A180, H⟩ := H
   replace H : (if t343 = true then ((health_Of.f k a0_0 a0_1 a0_2 a0_3 a0_4 a0_5 a0_6 a0_7 a0_8 a0_9 a0_10 a0_11 a1_0 a1_1 a1_2 a1_3 a1_4 a1_5 a1_6 l1_7 a1_8 a1_9 a1_10).bind fun t344 => ((clepsydraref21_Of.f k a0_0 a0_1 a0_2 a0_3 a0_4 a0_5 a0_6 a0_7 a0_8 a0_9 a0_10 a0_11 a1_0 a1_1 a1_2 a1_3 a1_4 a1_5 a1_6 l1_7 a1_8 a1_9 a1_10).bind fun t345 => (if t344 = t345 then ((health_Far.f k a0_0 a0_1 a0_2 a0_3 a0_4 a0_5 a0_6 a0_7 a0_8 a0_9 a0_10 a0_11 a1_4).bind fun t346 => ((clepsydraref21_Far.f k a0_0 a0_1 a0_2 a0_3 a0_4 a0_5 a0_6 a0_7 a0_8 a0_9 a0_10 a0_11 a1_4).bind fun t347 => (some (t346 == t347)))) else (some false)))) else (some false)) = some r := H
   have A18 := mk A180
   clear A180
   by_cases c19 : t343 = true
   ·subst c19
    have H1 : ((health_Of.f k a0_0 a0_1 a0_2 a0_3 a0_4 a0_5 a0_6 a0_7 a0_8 a0_9 a0_10 a0_11 a1_0 a1_1 a1_2 a1_3 a1_4 a1_5 a1_6 l1_7 a1_8 a1_9 a1_10).bind fun t344 => ((clepsydraref21_Of.f k a0_0 a0_1 a0_2 a0_3 a0_4 a0_5 a0_6 a0_7 a0_8 a0_9 a0_10 a0_11 a1_0 a1_1 a1_2 a1_3 a1_4 a1_5 a1_6 l1_7 a1_8 a1_9 a1_10).bind fun t345 => (if t344 = t345 then ((health_Far.f k a0_0 a0_1 a0_2 a0_3 a0_4 a0_5 a0_6 a0_7 a0_8 a0_9 a0_10 a0_11 a1_4).bind fun t346 => ((clepsydraref21_Far.f k a0_0 a0_1 a0_2 a0_3 a0_4 a0_5 a0_6 a0_7 a0_8 a0_9 a0_10 a0_11 a1_4).bind fun t347 => (some (t346 == t347)))) else (some false)))) = some r := by rw [if_pos rfl] at H; exact H
    clear H
    have H := H1
    clear H1
    replace H := Option.bind_eq_some_iff.mp H
    obtain ⟨t344, A200, H⟩ := H
    replace H : ((clepsydraref21_Of.f k a0_0 a0_1 a0_2 a0_3 a0_4 a0_5 a0_6 a0_7 a0_8 a0_9 a0_10 a0_11 a1_0 a1_1 a1_2 a1_3 a1_4 a1_5 a1_6 l1_7 a1_8 a1_9 a1_10).bind fun t345 => (if t344 = t345 then ((health_Far.f k a0_0 a0_1 a0_2 a0_3 a0_4 a0_5 a0_6 a0_7 a0_8 a0_9 a0_10 a0_11 a1_4).bind fun t346 => ((clepsydraref21_Far.f k a0_0 a0_1 a0_2 a0_3 a0_4 a0_5 a0_6 a0_7 a0_8 a0_9 a0_10 a0_11 a1_4).bind fun t347 => (some (t346 == t347)))) else (some false))) = some r := H
    have A20 := mk A200
    clear A200
    replace H := Option.bind_eq_some_iff.mp H
    obtain ⟨t345, A210, H⟩ := H
    replace H : (if t344 = t345 then ((health_Far.f k a0_0 a0_1 a0_2 a0_3 a0_4 a0_5 a0_6 a0_7 a0_8 a0_9 a0_10 a0_11 a1_4).bind fun t346 => ((clepsydraref21_Far.f k a0_0 a0_1 a0_2 a0_3 a0_4 a0_5 a0_6 a0_7 a0_8 a0_9 a0_10 a0_11 a1_4).bind fun t347 => (some (t346 == t347)))) else (some false)) = some r := H
    have A21 := mk A210
    clear A210
    by_cases c22 : t344 = t345
    ·rw [if_pos c22] at H
     have c22b0 : (t344 == t345) = true := beq_iff_eq.mpr c22
     have c22b1 : (t344 != t345) = false := bne_eq_false_iff_eq.mpr c22
     clear c22
     replace H := Option.bind_eq_some_iff.mp H
     obtain ⟨t346, A230, H⟩ := H
     replace H : ((clepsydraref21_Far.f k a0_0 a0_1 a0_2 a0_3 a0_4 a0_5 a0_6 a0_7 a0_8 a0_9 a0_10 a0_11 a1_4).bind fun t347 => (some (t346 == t347))) = some r := H
     have A23 := mk A230
     clear A230
     replace H := Option.bind_eq_some_iff.mp H
     obtain ⟨t347, A240, H⟩ := H
     replace H : (some (t346 == t347)) = some r := H
     have A24 := mk A240
     clear A240
     obtain rfl := Option.some.inj H
     go_enter Try.func3, Try.ntmps3
     try go_wp2_with (first | ((with_reducible refine gate_dst (N := 2) rfl ?_); refine box_event ?hg (N := 2) ?hd (cs := #[.int .i64 a0_0, .int .i64 a0_1, .int .i64 a0_2, .int .i64 a0_3, .int .i64 a0_4, .int .i64 a0_5, .int .i64 a0_6, .int .i64 a0_7, .int .i64 a0_8, .int .i64 a0_9, .int .i64 a0_10, .int .i64 a0_11]) (t := 23) ?hr ?_; (case hd => rfl); (case hg => rfl); (case hr => first | (go_simp; done) | (go_simp; rfl)); intro g0_ hg w25 hbox hb; have n0_ := mk (below_step (by repeat first | exact HB.1 | apply pD | apply b1 | refine bT (by assumption) ?_ | apply bA) hb); have n1_ := mk (hbox); have n2_ := gl hg (by repeat first | exact HB.1 | apply pD | apply b1 | refine bT (by assumption) ?_ | apply bA); have n3_ := gl hg (by repeat first | exact HB.1 | apply pD | apply b1 | refine bT (by assumption) ?_ | apply bA); clear HB; have HB := n0_; have B0_ := n1_; have W0_ := n2_; have E0_ := n3_; clear n0_ n1_ n2_ n3_; clear hb hbox hg) | ((with_reducible refine gate_dst (N := 3) rfl ?_); refine box_event ?hg (N := 3) ?hd (cs := #[.int .i64 a1_0, .int .i64 a1_1, .int .i64 a1_2, .bool a1_3, .int .i64 a1_4, .int .i64 a1_5, .bool a1_6, .slice A1_7 l1_7.length c1_7, .int .i64 a1_8, .int .i64 a1_9, .int .i64 a1_10]) (t := 30) ?hr ?_; (case hd => rfl); (case hg => rfl); (case hr => first | (go_simp; done) | (go_simp; rfl)); intro g1_ hg w26 hbox hb; have n0_ := bb hb B0_.1; have n1_ := mk (below_step (by repeat first | exact HB.1 | apply pD | apply b1 | refine bT (by assumption) ?_ | apply bA) hb); have n2_ := mk (hbox); have n3_ := gl hg (by repeat first | exact HB.1 | apply pD | apply b1 | refine bT (by assumption) ?_ | apply bA); have n4_ := gl hg (by repeat first | exact HB.1 | apply pD | apply b1 | refine bT (by assumption) ?_ | apply bA); have n5_ := nl hg B0_.1; have n6_ := ng hg B0_.1; clear B0_; clear HB; have B0_ := n0_; have HB := n1_; have B1_ := n2_; have W1_ := n3_; have E1_ := n4_; have N01_ := n5_; have N10_ := n6_; clear n0_ n1_ n2_ n3_ n4_ n5_ n6_; clear hb hbox hg) | ((with_reducible refine gate_callee (f := 8) rfl ?_); refine goesL_ (some 6) rfl rfl Try.func8 (by kernel_rfl) rfl #[] rfl (by (try simp only [List.map_toArray, List.map_cons, List.map_nil]); first | done | rfl | (simp only [List.length_drop, List.length_take]; rfl)) ?_; (with_reducible refine (clepsydralaw21_alive.calls  true _ A3.1).mono ?_); rintro e w27 ⟨rfl, hb⟩; refine ⟨_, rfl, ?_⟩; have n0_ := bb hb B0_.1; have n1_ := bb hb B1_.1; have n2_ := mk (below_step (by repeat first | exact HB.1 | apply pD | apply b1 | refine bT (by assumption) ?_ | apply bA) hb); clear B0_; clear B1_; clear HB; have B0_ := n0_; have B1_ := n1_; have HB := n2_; clear n0_ n1_ n2_; (try clear hb); (try clear hb2); (try clear hk); (try clear hi); have hnb28 := N10_.1; have hnc28 := N01_.1; have hcz29_0 : w27.cell? ⟨g1_, 0, none⟩ = some (.int .i64 a1_0) := bQ B1_.1 0; have hcz29_1 : w27.cell? ⟨g1_, 1, none⟩ = some (.int .i64 a1_1) := bQ B1_.1 1; have hcz29_2 : w27.cell? ⟨g1_, 2, none⟩ = some (.int .i64 a1_2) := bQ B1_.1 2; have hcz29_3 : w27.cell? ⟨g1_, 3, none⟩ = some (.bool a1_3) := bQ B1_.1 3; have hcz29_4 : w27.cell? ⟨g1_, 4, none⟩ = some (.int .i64 a1_4) := bQ B1_.1 4; have hcz29_5 : w27.cell? ⟨g1_, 5, none⟩ = some (.int .i64 a1_5) := bQ B1_.1 5; have hcz29_6 : w27.cell? ⟨g1_, 6, none⟩ = some (.bool a1_6) := bQ B1_.1 6; have hcz29_7 : w27.cell? ⟨g1_, 7, none⟩ = some (.slice A1_7 l1_7.length c1_7) := bQ B1_.1 7; have hcz29_8 : w27.cell? ⟨g1_, 8, none⟩ = some (.int .i64 a1_8) := bQ B1_.1 8; have hcz29_9 : w27.cell? ⟨g1_, 9, none⟩ = some (.int .i64 a1_9) := bQ B1_.1 9; have hcz29_10 : w27.cell? ⟨g1_, 10, none⟩ = some (.int .i64 a1_10) := bQ B1_.1 10; have hfz29_0 := blk_frozen B1_.1 0; have hfz29_1 := blk_frozen B1_.1 1; have hfz29_2 := blk_frozen B1_.1 2; have hfz29_3 := blk_frozen B1_.1 3; have hfz29_4 := blk_frozen B1_.1 4; have hfz29_5 := blk_frozen B1_.1 5; have hfz29_6 := blk_frozen B1_.1 6; have hfz29_7 := blk_frozen B1_.1 7; have hfz29_8 := blk_frozen B1_.1 8; have hfz29_9 := blk_frozen B1_.1 9; have hfz29_10 := blk_frozen B1_.1 10) | ((with_reducible refine gate_callee (f := 9) rfl ?_); refine goesL_ (some 10) rfl rfl Try.func9 (by kernel_rfl) rfl #[.agg #[.int .i64 a1_0, .int .i64 a1_1, .int .i64 a1_2, .bool a1_3, .int .i64 a1_4, .int .i64 a1_5, .bool a1_6, .slice A1_7 l1_7.length c1_7, .int .i64 a1_8, .int .i64 a1_9, .int .i64 a1_10], .agg #[.int .i64 a1_0, .int .i64 a1_1, .int .i64 a1_2, .bool a1_3, .int .i64 a1_4, .int .i64 a1_5, .bool a1_6, .slice A1_7 l1_7.length c1_7, .int .i64 a1_8, .int .i64 a1_9, .int .i64 a1_10]] rfl (by (try simp only [List.map_toArray, List.map_cons, List.map_nil]); first | done | rfl | (simp only [List.length_drop, List.length_take]; rfl)) ?_; (with_reducible refine (clepsydralaw21_long.calls a1_0 a1_1 a1_2 a1_3 a1_4 a1_5 a1_6 _ _ l1_7 a1_8 a1_9 a1_10 a1_0 a1_1 a1_2 a1_3 a1_4 a1_5 a1_6 _ _ l1_7 a1_8 a1_9 a1_10 false _ ?side1 ?side2 ?side3 ?side4 A5.1).mono ?_); (case side1 => repeat (first | exact (Kd.C_below HR1_7.out HB.1) | (with_reducible refine Kd.C_alloc ?_ _) | (with_reducible refine Kd.C_drewN ?_ _) | (with_reducible refine Kd.C_drew ?_))); (case side2 => exact HC1_7.out); (case side3 => repeat (first | exact (Kd.C_below HR1_7.out HB.1) | (with_reducible refine Kd.C_alloc ?_ _) | (with_reducible refine Kd.C_drewN ?_ _) | (with_reducible refine Kd.C_drew ?_))); (case side4 => exact HC1_7.out); rintro e w30 ⟨rfl, hb⟩; refine ⟨_, rfl, ?_⟩; have n0_ := bb hb B0_.1; have n1_ := bb hb B1_.1; have n2_ := mk (below_step (by repeat first | exact HB.1 | apply pD | apply b1 | refine bT (by assumption) ?_ | apply bA) hb); clear B0_; clear B1_; clear HB; have B0_ := n0_; have B1_ := n1_; have HB := n2_; clear n0_ n1_ n2_; (try clear hb); (try clear hb2); (try clear hk); (try clear hi); have hcz31_0 : w30.cell? ⟨g0_, 0, none⟩ = some (.int .i64 a0_0) := bQ B0_.1 0; have hcz31_1 : w30.cell? ⟨g0_, 1, none⟩ = some (.int .i64 a0_1) := bQ B0_.1 1; have hcz31_2 : w30.cell? ⟨g0_, 2, none⟩ = some (.int .i64 a0_2) := bQ B0_.1 2; have hcz31_3 : w30.cell? ⟨g0_, 3, none⟩ = some (.int .i64 a0_3) := bQ B0_.1 3; have hcz31_4 : w30.cell? ⟨g0_, 4, none⟩ = some (.int .i64 a0_4) := bQ B0_.1 4; have hcz31_5 : w30.cell? ⟨g0_, 5, none⟩ = some (.int .i64 a0_5) := bQ B0_.1 5; have hcz31_6 : w30.cell? ⟨g0_, 6, none⟩ = some (.int .i64 a0_6) := bQ B0_.1 6; have hcz31_7 : w30.cell? ⟨g0_, 7, none⟩ = some (.int .i64 a0_7) := bQ B0_.1 7; have hcz31_8 : w30.cell? ⟨g0_, 8, none⟩ = some (.int .i64 a0_8) := bQ B0_.1 8; have hcz31_9 : w30.cell? ⟨g0_, 9, none⟩ = some (.int .i64 a0_9) := bQ B0_.1 9; have hcz31_10 : w30.cell? ⟨g0_, 10, none⟩ = some (.int .i64 a0_10) := bQ B0_.1 10; have hcz31_11 : w30.cell? ⟨g0_, 11, none⟩ = some (.int .i64 a0_11) := bQ B0_.1 11; have hfz31_0 := blk_frozen B0_.1 0; have hfz31_1 := blk_frozen B0_.1 1; have hfz31_2 := blk_frozen B0_.1 2; have hfz31_3 := blk_frozen B0_.1 3; have hfz31_4 := blk_frozen B0_.1 4; have hfz31_5 := blk_frozen B0_.1 5; have hfz31_6 := blk_frozen B0_.1 6; have hfz31_7 := blk_frozen B0_.1 7; have hfz31_8 := blk_frozen B0_.1 8; have hfz31_9 := blk_frozen B0_.1 9; have hfz31_10 := blk_frozen B0_.1 10; have hfz31_11 := blk_frozen B0_.1 11; have hcz32_0 : w30.cell? ⟨g1_, 0, none⟩ = some (.int .i64 a1_0) := bQ B1_.1 0; have hcz32_1 : w30.cell? ⟨g1_, 1, none⟩ = some (.int .i64 a1_1) := bQ B1_.1 1; have hcz32_2 : w30.cell? ⟨g1_, 2, none⟩ = some (.int .i64 a1_2) := bQ B1_.1 2; have hcz32_3 : w30.cell? ⟨g1_, 3, none⟩ = some (.bool a1_3) := bQ B1_.1 3; have hcz32_4 : w30.cell? ⟨g1_, 4, none⟩ = some (.int .i64 a1_4) := bQ B1_.1 4; have hcz32_5 : w30.cell? ⟨g1_, 5, none⟩ = some (.int .i64 a1_5) := bQ B1_.1 5; have hcz32_6 : w30.cell? ⟨g1_, 6, none⟩ = some (.bool a1_6) := bQ B1_.1 6; have hcz32_7 : w30.cell? ⟨g1_, 7, none⟩ = some (.slice A1_7 l1_7.length c1_7) := bQ B1_.1 7; have hcz32_8 : w30.cell? ⟨g1_, 8, none⟩ = some (.int .i64 a1_8) := bQ B1_.1 8; have hcz32_9 : w30.cell? ⟨g1_, 9, none⟩ = some (.int .i64 a1_9) := bQ B1_.1 9; have hcz32_10 : w30.cell? ⟨g1_, 10, none⟩ = some (.int .i64 a1_10) := bQ B1_.1 10; have hfz32_0 := blk_frozen B1_.1 0; have hfz32_1 := blk_frozen B1_.1 1; have hfz32_2 := blk_frozen B1_.1 2; have hfz32_3 := blk_frozen B1_.1 3; have hfz32_4 := blk_frozen B1_.1 4; have hfz32_5 := blk_frozen B1_.1 5; have hfz32_6 := blk_frozen B1_.1 6; have hfz32_7 := blk_frozen B1_.1 7; have hfz32_8 := blk_frozen B1_.1 8; have hfz32_9 := blk_frozen B1_.1 9; have hfz32_10 := blk_frozen B1_.1 10) | ((with_reducible refine gate_callee (f := 10) rfl ?_); refine goesL_ (some 13) rfl rfl Try.func10 (by kernel_rfl) rfl #[.agg #[.int .i64 a0_0, .int .i64 a0_1, .int .i64 a0_2, .int .i64 a0_3, .int .i64 a0_4, .int .i64 a0_5, .int .i64 a0_6, .int .i64 a0_7, .int .i64 a0_8, .int .i64 a0_9, .int .i64 a0_10, .int .i64 a0_11], .agg #[.int .i64 a1_0, .int .i64 a1_1, .int .i64 a1_2, .bool a1_3, .int .i64 a1_4, .int .i64 a1_5, .bool a1_6, .slice A1_7 l1_7.length c1_7, .int .i64 a1_8, .int .i64 a1_9, .int .i64 a1_10]] rfl (by (try simp only [List.map_toArray, List.map_cons, List.map_nil]); first | done | rfl | (simp only [List.length_drop, List.length_take]; rfl)) ?_; (with_reducible refine (health_Sane.calls k a0_0 a0_1 a0_2 a0_3 a0_4 a0_5 a0_6 a0_7 a0_8 a0_9 a0_10 a0_11 a1_0 a1_1 a1_2 a1_3 a1_4 a1_5 a1_6 _ _ l1_7 a1_8 a1_9 a1_10 t302 t303 t304 t305 t306 t307 t308 t309 t312 t313 t314 _ ?side1 ?side2 A13.1).mono ?_); (case side1 => repeat (first | exact (Kd.C_below HR1_7.out HB.1) | (with_reducible refine Kd.C_alloc ?_ _) | (with_reducible refine Kd.C_drewN ?_ _) | (with_reducible refine Kd.C_drew ?_))); (case side2 => exact HC1_7.out); rintro e w33 ⟨v310, rfl, ho0, hb⟩; refine ⟨_, rfl, ?_⟩; have n0_ := mk (Kd.R_lower ho0 (below_size (by repeat first | exact HB.1 | apply pD | apply b1 | refine bT (by assumption) ?_ | apply bA))); have n1_ := bb hb B0_.1; have n2_ := bb hb B1_.1; have n3_ := mk (below_step (by repeat first | exact HB.1 | apply pD | apply b1 | refine bT (by assumption) ?_ | apply bA) hb); clear B0_; clear B1_; clear HB; have HO311 := n0_; have B0_ := n1_; have B1_ := n2_; have HB := n3_; clear n0_ n1_ n2_ n3_; (try clear hb); (try clear hb2); (try clear hk); (try clear hi); (try clear ho0)) | ((with_reducible refine gate_dst (N := 5) rfl ?_); refine box_event ?hg (N := 5) ?hd (cs := #[.int .i64 0, .int .i64 0, .int .i64 0, .bool false, .int .i64 0, .int .i64 0, .bool false, .slice none 0 0, .int .i64 0, .int .i64 0, .int .i64 0]) (t := 30) ?hr ?_; (case hd => rfl); (case hg => rfl); (case hr => first | (go_simp; done) | (go_simp; rfl)); intro g2_ hg w34 hbox hb; have n0_ := mk (Kd.R_below (by (with_reducible repeat (first | apply Kd.R_alloc | apply Kd.R_drewN | apply Kd.R_drew)); exact HO311.1) hb); have n1_ := bb hb B0_.1; have n2_ := bb hb B1_.1; have n3_ := mk (below_step (by repeat first | exact HB.1 | apply pD | apply b1 | refine bT (by assumption) ?_ | apply bA) hb); have n4_ := mk (hbox); have n5_ := gl hg (by repeat first | exact HB.1 | apply pD | apply b1 | refine bT (by assumption) ?_ | apply bA); have n6_ := gl hg (by repeat first | exact HB.1 | apply pD | apply b1 | refine bT (by assumption) ?_ | apply bA); have n7_ := nl hg B0_.1; have n8_ := ng hg B0_.1; have n9_ := nl hg B1_.1; have n10_ := ng hg B1_.1; clear HO311; clear B0_; clear B1_; clear HB; have HO311 := n0_; have B0_ := n1_; have B1_ := n2_; have HB := n3_; have B2_ := n4_; have W2_ := n5_; have E2_ := n6_; have N02_ := n7_; have N20_ := n8_; have N12_ := n9_; have N21_ := n10_; clear n0_ n1_ n2_ n3_ n4_ n5_ n6_ n7_ n8_ n9_ n10_; clear hb hbox hg; have hnb35 := N20_.1; have hnc35 := N02_.1; have hnb36 := N21_.1; have hnc36 := N12_.1; have hcz37_0 : w34.cell? ⟨g2_, 0, none⟩ = some (.int .i64 0) := bQ B2_.1 0; have hcz37_1 : w34.cell? ⟨g2_, 1, none⟩ = some (.int .i64 0) := bQ B2_.1 1; have hcz37_2 : w34.cell? ⟨g2_, 2, none⟩ = some (.int .i64 0) := bQ B2_.1 2; have hcz37_3 : w34.cell? ⟨g2_, 3, none⟩ = some (.bool false) := bQ B2_.1 3; have hcz37_4 : w34.cell? ⟨g2_, 4, none⟩ = some (.int .i64 0) := bQ B2_.1 4; have hcz37_5 : w34.cell? ⟨g2_, 5, none⟩ = some (.int .i64 0) := bQ B2_.1 5; have hcz37_6 : w34.cell? ⟨g2_, 6, none⟩ = some (.bool false) := bQ B2_.1 6; have hcz37_7 : w34.cell? ⟨g2_, 7, none⟩ = some (.slice none 0 0) := bQ B2_.1 7; have hcz37_8 : w34.cell? ⟨g2_, 8, none⟩ = some (.int .i64 0) := bQ B2_.1 8; have hcz37_9 : w34.cell? ⟨g2_, 9, none⟩ = some (.int .i64 0) := bQ B2_.1 9; have hcz37_10 : w34.cell? ⟨g2_, 10, none⟩ = some (.int .i64 0) := bQ B2_.1 10; have hfz37_0 := blk_frozen B2_.1 0; have hfz37_1 := blk_frozen B2_.1 1; have hfz37_2 := blk_frozen B2_.1 2; have hfz37_3 := blk_frozen B2_.1 3; have hfz37_4 := blk_frozen B2_.1 4; have hfz37_5 := blk_frozen B2_.1 5; have hfz37_6 := blk_frozen B2_.1 6; have hfz37_7 := blk_frozen B2_.1 7; have hfz37_8 := blk_frozen B2_.1 8; have hfz37_9 := blk_frozen B2_.1 9; have hfz37_10 := blk_frozen B2_.1 10; obtain ⟨Ao38, co38, eo38⟩ := Kd.R_slice HO311.1; subst eo38))
     have n0_ : Aside0 (Kd.R k42 42 (((((((((((w34.setCell ⟨g2_, 0, none⟩ (.int .i64 t302)).setCell ⟨g2_, 1, none⟩ (.int .i64 t303)).setCell ⟨g2_, 2, none⟩ (.int .i64 t304)).setCell ⟨g2_, 3, none⟩ (.bool t305)).setCell ⟨g2_, 4, none⟩ (.int .i64 t306)).setCell ⟨g2_, 5, none⟩ (.int .i64 t307)).setCell ⟨g2_, 6, none⟩ (.bool t308)).setCell ⟨g2_, 7, none⟩ (.slice Ao38 t309.length co38)).setCell ⟨g2_, 8, none⟩ (.int .i64 t312)).setCell ⟨g2_, 9, none⟩ (.int .i64 t313)).setCell ⟨g2_, 10, none⟩ (.int .i64 t314)) w.heap.size (fun _ => True) (.slice Ao38 t309.length co38) t309) := ⟨by (with_reducible repeat (first | apply Kd.R_alloc | apply Kd.R_drewN | apply Kd.R_drew)); exact Kd.R_mono (Kd.R_far (p := ⟨g2_, 10, none⟩) (Kd.R_far (p := ⟨g2_, 9, none⟩) (Kd.R_far (p := ⟨g2_, 8, none⟩) (Kd.R_far (p := ⟨g2_, 7, none⟩) (Kd.R_far (p := ⟨g2_, 6, none⟩) (Kd.R_far (p := ⟨g2_, 5, none⟩) (Kd.R_far (p := ⟨g2_, 4, none⟩) (Kd.R_far (p := ⟨g2_, 3, none⟩) (Kd.R_far (p := ⟨g2_, 2, none⟩) (Kd.R_far (p := ⟨g2_, 1, none⟩) (Kd.R_far (p := ⟨g2_, 0, none⟩) (Kd.R_types HO311.1 B2_.1 (by decide)) (fun _ hk => hk.2) (.int .i64 t302)) (fun _ hk => hk.2) (.int .i64 t303)) (fun _ hk => hk.2) (.int .i64 t304)) (fun _ hk => hk.2) (.bool t305)) (fun _ hk => hk.2) (.int .i64 t306)) (fun _ hk => hk.2) (.int .i64 t307)) (fun _ hk => hk.2) (.bool t308)) (fun _ hk => hk.2) (.slice Ao38 t309.length co38)) (fun _ hk => hk.2) (.int .i64 t312)) (fun _ hk => hk.2) (.int .i64 t313)) (fun _ hk => hk.2) (.int .i64 t314)) (fun _ hk => trivial)⟩
     have n1_ : Aside0 ((((((((((((w34.setCell ⟨g2_, 0, none⟩ (.int .i64 t302)).setCell ⟨g2_, 1, none⟩ (.int .i64 t303)).setCell ⟨g2_, 2, none⟩ (.int .i64 t304)).setCell ⟨g2_, 3, none⟩ (.bool t305)).setCell ⟨g2_, 4, none⟩ (.int .i64 t306)).setCell ⟨g2_, 5, none⟩ (.int .i64 t307)).setCell ⟨g2_, 6, none⟩ (.bool t308)).setCell ⟨g2_, 7, none⟩ (.slice Ao38 t309.length co38)).setCell ⟨g2_, 8, none⟩ (.int .i64 t312)).setCell ⟨g2_, 9, none⟩ (.int .i64 t313)).setCell ⟨g2_, 10, none⟩ (.int .i64 t314)).heap[g0_]? = some (.cells #[.int .i64 a0_0, .int .i64 a0_1, .int .i64 a0_2, .int .i64 a0_3, .int .i64 a0_4, .int .i64 a0_5, .int .i64 a0_6, .int .i64 a0_7, .int .i64 a0_8, .int .i64 a0_9, .int .i64 a0_10, .int .i64 a0_11] 23 (0, 0))) := ⟨by (with_reducible repeat (first | refine blk_drewN ?_ _ | refine blk_drew ?_ | refine blk_alloc ?_ _)); refine blk_far ?_ N02_.1 _; (with_reducible repeat (first | refine blk_drewN ?_ _ | refine blk_drew ?_ | refine blk_alloc ?_ _)); refine blk_far ?_ N02_.1 _; (with_reducible repeat (first | refine blk_drewN ?_ _ | refine blk_drew ?_ | refine blk_alloc ?_ _)); refine blk_far ?_ N02_.1 _; (with_reducible repeat (first | refine blk_drewN ?_ _ | refine blk_drew ?_ | refine blk_alloc ?_ _)); refine blk_far ?_ N02_.1 _; (with_reducible repeat (first | refine blk_drewN ?_ _ | refine blk_drew ?_ | refine blk_alloc ?_ _)); refine blk_far ?_ N02_.1 _; (with_reducible repeat (first | refine blk_drewN ?_ _ | refine blk_drew ?_ | refine blk_alloc ?_ _)); refine blk_far ?_ N02_.1 _; (with_reducible repeat (first | refine blk_drewN ?_ _ | refine blk_drew ?_ | refine blk_alloc ?_ _)); refine blk_far ?_ N02_.1 _; (with_reducible repeat (first | refine blk_drewN ?_ _ | refine blk_drew ?_ | refine blk_alloc ?_ _)); refine blk_far ?_ N02_.1 _; (with_reducible repeat (first | refine blk_drewN ?_ _ | refine blk_drew ?_ | refine blk_alloc ?_ _)); refine blk_far ?_ N02_.1 _; (with_reducible repeat (first | refine blk_drewN ?_ _ | refine blk_drew ?_ | refine blk_alloc ?_ _)); refine blk_far ?_ N02_.1 _; (with_reducible repeat (first | refine blk_drewN ?_ _ | refine blk_drew ?_ | refine blk_alloc ?_ _)); refine blk_far ?_ N02_.1 _; (with_reducible repeat (first | refine blk_drewN ?_ _ | refine blk_drew ?_ | refine blk_alloc ?_ _)); exact B0_.1⟩
     have n2_ : Aside0 ((((((((((((w34.setCell ⟨g2_, 0, none⟩ (.int .i64 t302)).setCell ⟨g2_, 1, none⟩ (.int .i64 t303)).setCell ⟨g2_, 2, none⟩ (.int .i64 t304)).setCell ⟨g2_, 3, none⟩ (.bool t305)).setCell ⟨g2_, 4, none⟩ (.int .i64 t306)).setCell ⟨g2_, 5, none⟩ (.int .i64 t307)).setCell ⟨g2_, 6, none⟩ (.bool t308)).setCell ⟨g2_, 7, none⟩ (.slice Ao38 t309.length co38)).setCell ⟨g2_, 8, none⟩ (.int .i64 t312)).setCell ⟨g2_, 9, none⟩ (.int .i64 t313)).setCell ⟨g2_, 10, none⟩ (.int .i64 t314)).heap[g1_]? = some (.cells #[.int .i64 a1_0, .int .i64 a1_1, .int .i64 a1_2, .bool a1_3, .int .i64 a1_4, .int .i64 a1_5, .bool a1_6, .slice A1_7 l1_7.length c1_7, .int .i64 a1_8, .int .i64 a1_9, .int .i64 a1_10] 30 (0, 0))) := ⟨by (with_reducible repeat (first | refine blk_drewN ?_ _ | refine blk_drew ?_ | refine blk_alloc ?_ _)); refine blk_far ?_ N12_.1 _; (with_reducible repeat (first | refine blk_drewN ?_ _ | refine blk_drew ?_ | refine blk_alloc ?_ _)); refine blk_far ?_ N12_.1 _; (with_reducible repeat (first | refine blk_drewN ?_ _ | refine blk_drew ?_ | refine blk_alloc ?_ _)); refine blk_far ?_ N12_.1 _; (with_reducible repeat (first | refine blk_drewN ?_ _ | refine blk_drew ?_ | refine blk_alloc ?_ _)); refine blk_far ?_ N12_.1 _; (with_reducible repeat (first | refine blk_drewN ?_ _ | refine blk_drew ?_ | refine blk_alloc ?_ _)); refine blk_far ?_ N12_.1 _; (with_reducible repeat (first | refine blk_drewN ?_ _ | refine blk_drew ?_ | refine blk_alloc ?_ _)); refine blk_far ?_ N12_.1 _; (with_reducible repeat (first | refine blk_drewN ?_ _ | refine blk_drew ?_ | refine blk_alloc ?_ _)); refine blk_far ?_ N12_.1 _; (with_reducible repeat (first | refine blk_drewN ?_ _ | refine blk_drew ?_ | refine blk_alloc ?_ _)); refine blk_far ?_ N12_.1 _; (with_reducible repeat (first | refine blk_drewN ?_ _ | refine blk_drew ?_ | refine blk_alloc ?_ _)); refine blk_far ?_ N12_.1 _; (with_reducible repeat (first | refine blk_drewN ?_ _ | refine blk_drew ?_ | refine blk_alloc ?_ _)); refine blk_far ?_ N12_.1 _; (with_reducible repeat (first | refine blk_drewN ?_ _ | refine blk_drew ?_ | refine blk_alloc ?_ _)); refine blk_far ?_ N12_.1 _; (with_reducible repeat (first | refine blk_drewN ?_ _ | refine blk_drew ?_ | refine blk_alloc ?_ _)); exact B1_.1⟩
     have n3_ : Aside0 ((((((((((((w34.setCell ⟨g2_, 0, none⟩ (.int .i64 t302)).setCell ⟨g2_, 1, none⟩ (.int .i64 t303)).setCell ⟨g2_, 2, none⟩ (.int .i64 t304)).setCell ⟨g2_, 3, none⟩ (.bool t305)).setCell ⟨g2_, 4, none⟩ (.int .i64 t306)).setCell ⟨g2_, 5, none⟩ (.int .i64 t307)).setCell ⟨g2_, 6, none⟩ (.bool t308)).setCell ⟨g2_, 7, none⟩ (.slice Ao38 t309.length co38)).setCell ⟨g2_, 8, none⟩ (.int .i64 t312)).setCell ⟨g2_, 9, none⟩ (.int .i64 t313)).setCell ⟨g2_, 10, none⟩ (.int .i64 t314)).heap[g2_]? = some (.cells #[.int .i64 t302, .int .i64 t303, .int .i64 t304, .bool t305, .int .i64 t306, .int .i64 t307, .bool t308, .slice Ao38 t309.length co38, .int .i64 t312, .int .i64 t313, .int .i64 t314] 30 (0, 0))) := ⟨by (with_reducible repeat (first | refine blk_drewN ?_ _ | refine blk_drew ?_ | refine blk_alloc ?_ _)); refine blk_put (cs := #[.int .i64 t302, .int .i64 t303, .int .i64 t304, .bool t305, .int .i64 t306, .int .i64 t307, .bool t308, .slice Ao38 t309.length co38, .int .i64 t312, .int .i64 t313, .int .i64 0]) ?_ 10 _ rfl; (with_reducible repeat (first | refine blk_drewN ?_ _ | refine blk_drew ?_ | refine blk_alloc ?_ _)); refine blk_put (cs := #[.int .i64 t302, .int .i64 t303, .int .i64 t304, .bool t305, .int .i64 t306, .int .i64 t307, .bool t308, .slice Ao38 t309.length co38, .int .i64 t312, .int .i64 0, .int .i64 0]) ?_ 9 _ rfl; (with_reducible repeat (first | refine blk_drewN ?_ _ | refine blk_drew ?_ | refine blk_alloc ?_ _)); refine blk_put (cs := #[.int .i64 t302, .int .i64 t303, .int .i64 t304, .bool t305, .int .i64 t306, .int .i64 t307, .bool t308, .slice Ao38 t309.length co38, .int .i64 0, .int .i64 0, .int .i64 0]) ?_ 8 _ rfl; (with_reducible repeat (first | refine blk_drewN ?_ _ | refine blk_drew ?_ | refine blk_alloc ?_ _)); refine blk_put (cs := #[.int .i64 t302, .int .i64 t303, .int .i64 t304, .bool t305, .int .i64 t306, .int .i64 t307, .bool t308, .slice none 0 0, .int .i64 0, .int .i64 0, .int .i64 0]) ?_ 7 _ rfl; (with_reducible repeat (first | refine blk_drewN ?_ _ | refine blk_drew ?_ | refine blk_alloc ?_ _)); refine blk_put (cs := #[.int .i64 t302, .int .i64 t303, .int .i64 t304, .bool t305, .int .i64 t306, .int .i64 t307, .bool false, .slice none 0 0, .int .i64 0, .int .i64 0, .int .i64 0]) ?_ 6 _ rfl; (with_reducible repeat (first | refine blk_drewN ?_ _ | refine blk_drew ?_ | refine blk_alloc ?_ _)); refine blk_put (cs := #[.int .i64 t302, .int .i64 t303, .int .i64 t304, .bool t305, .int .i64 t306, .int .i64 0, .bool false, .slice none 0 0, .int .i64 0, .int .i64 0, .int .i64 0]) ?_ 5 _ rfl; (with_reducible repeat (first | refine blk_drewN ?_ _ | refine blk_drew ?_ | refine blk_alloc ?_ _)); refine blk_put (cs := #[.int .i64 t302, .int .i64 t303, .int .i64 t304, .bool t305, .int .i64 0, .int .i64 0, .bool false, .slice none 0 0, .int .i64 0, .int .i64 0, .int .i64 0]) ?_ 4 _ rfl; (with_reducible repeat (first | refine blk_drewN ?_ _ | refine blk_drew ?_ | refine blk_alloc ?_ _)); refine blk_put (cs := #[.int .i64 t302, .int .i64 t303, .int .i64 t304, .bool false, .int .i64 0, .int .i64 0, .bool false, .slice none 0 0, .int .i64 0, .int .i64 0, .int .i64 0]) ?_ 3 _ rfl; (with_reducible repeat (first | refine blk_drewN ?_ _ | refine blk_drew ?_ | refine blk_alloc ?_ _)); refine blk_put (cs := #[.int .i64 t302, .int .i64 t303, .int .i64 0, .bool false, .int .i64 0, .int .i64 0, .bool false, .slice none 0 0, .int .i64 0, .int .i64 0, .int .i64 0]) ?_ 2 _ rfl; (with_reducible repeat (first | refine blk_drewN ?_ _ | refine blk_drew ?_ | refine blk_alloc ?_ _)); refine blk_put (cs := #[.int .i64 t302, .int .i64 0, .int .i64 0, .bool false, .int .i64 0, .int .i64 0, .bool false, .slice none 0 0, .int .i64 0, .int .i64 0, .int .i64 0]) ?_ 1 _ rfl; (with_reducible repeat (first | refine blk_drewN ?_ _ | refine blk_drew ?_ | refine blk_alloc ?_ _)); refine blk_put (cs := #[.int .i64 0, .int .i64 0, .int .i64 0, .bool false, .int .i64 0, .int .i64 0, .bool false, .slice none 0 0, .int .i64 0, .int .i64 0, .int .i64 0]) ?_ 0 _ rfl; (with_reducible repeat (first | refine blk_drewN ?_ _ | refine blk_drew ?_ | refine blk_alloc ?_ _)); exact B2_.1⟩
     have n4_ : Aside0 (Below w.heap.size w (((((((((((w34.setCell ⟨g2_, 0, none⟩ (.int .i64 t302)).setCell ⟨g2_, 1, none⟩ (.int .i64 t303)).setCell ⟨g2_, 2, none⟩ (.int .i64 t304)).setCell ⟨g2_, 3, none⟩ (.bool t305)).setCell ⟨g2_, 4, none⟩ (.int .i64 t306)).setCell ⟨g2_, 5, none⟩ (.int .i64 t307)).setCell ⟨g2_, 6, none⟩ (.bool t308)).setCell ⟨g2_, 7, none⟩ (.slice Ao38 t309.length co38)).setCell ⟨g2_, 8, none⟩ (.int .i64 t312)).setCell ⟨g2_, 9, none⟩ (.int .i64 t313)).setCell ⟨g2_, 10, none⟩ (.int .i64 t314))) := ⟨by repeat (first | (with_reducible first | exact HB.1 | apply bA | apply pD | apply b1 | apply bS E0_.1 | apply bS E1_.1 | apply bS E2_.1) | exact HB.1)⟩
     (try clear HO311)
     (try clear B0_)
     (try clear B1_)
     (try clear B2_)
     (try clear HB)
     (try (repeat rw [sc_drewN]))
     generalize (((((((((((w34.setCell ⟨g2_, 0, none⟩ (.int .i64 t302)).setCell ⟨g2_, 1, none⟩ (.int .i64 t303)).setCell ⟨g2_, 2, none⟩ (.int .i64 t304)).setCell ⟨g2_, 3, none⟩ (.bool t305)).setCell ⟨g2_, 4, none⟩ (.int .i64 t306)).setCell ⟨g2_, 5, none⟩ (.int .i64 t307)).setCell ⟨g2_, 6, none⟩ (.bool t308)).setCell ⟨g2_, 7, none⟩ (.slice Ao38 t309.length co38)).setCell ⟨g2_, 8, none⟩ (.int .i64 t312)).setCell ⟨g2_, 9, none⟩ (.int .i64 t313)).setCell ⟨g2_, 10, none⟩ (.int .i64 t314)) = w39 at n0_ n1_ n2_ n3_ n4_ ⊢
     have HO311 := n0_
     have B0_ := n1_
     have B1_ := n2_
     have B2_ := n3_
     have HB := n4_
     clear n0_ n1_ n2_ n3_ n4_
     have n0_ := mk (Kd.R_drew HO311.1)
     have n1_ := mk (blk_drew B0_.1)
     have n2_ := mk (blk_drew B1_.1)
     have n3_ := mk (blk_drew B2_.1)
     have n4_ := mk (below_drew1 HB.1)
     clear HO311 B0_ B1_ B2_ HB
     have HO311 := n0_
     have B0_ := n1_
     have B1_ := n2_
     have B2_ := n3_
     have HB := n4_
     clear n0_ n1_ n2_ n3_ n4_
     refine start_ (n := 33) (S := fun w' => w'.cell? ⟨g2_, 0, none⟩ = some (.int .i64 t302) ∧ w'.cell? ⟨g2_, 1, none⟩ = some (.int .i64 t303) ∧ w'.cell? ⟨g2_, 2, none⟩ = some (.int .i64 t304) ∧ w'.cell? ⟨g2_, 3, none⟩ = some (.bool t305) ∧ w'.cell? ⟨g2_, 4, none⟩ = some (.int .i64 t306) ∧ w'.cell? ⟨g2_, 5, none⟩ = some (.int .i64 t307) ∧ w'.cell? ⟨g2_, 6, none⟩ = some (.bool t308) ∧ w'.cell? ⟨g2_, 7, none⟩ = some (.slice Ao38 t309.length co38) ∧ w'.cell? ⟨g2_, 8, none⟩ = some (.int .i64 t312) ∧ w'.cell? ⟨g2_, 9, none⟩ = some (.int .i64 t313) ∧ w'.cell? ⟨g2_, 10, none⟩ = some (.int .i64 t314) ∧ w'.cell? ⟨g0_, 0, none⟩ = some (.int .i64 a0_0) ∧ w'.cell? ⟨g0_, 1, none⟩ = some (.int .i64 a0_1) ∧ w'.cell? ⟨g0_, 2, none⟩ = some (.int .i64 a0_2) ∧ w'.cell? ⟨g0_, 3, none⟩ = some (.int .i64 a0_3) ∧ w'.cell? ⟨g0_, 4, none⟩ = some (.int .i64 a0_4) ∧ w'.cell? ⟨g0_, 5, none⟩ = some (.int .i64 a0_5) ∧ w'.cell? ⟨g0_, 6, none⟩ = some (.int .i64 a0_6) ∧ w'.cell? ⟨g0_, 7, none⟩ = some (.int .i64 a0_7) ∧ w'.cell? ⟨g0_, 8, none⟩ = some (.int .i64 a0_8) ∧ w'.cell? ⟨g0_, 9, none⟩ = some (.int .i64 a0_9) ∧ w'.cell? ⟨g0_, 10, none⟩ = some (.int .i64 a0_10) ∧ w'.cell? ⟨g0_, 11, none⟩ = some (.int .i64 a0_11) ∧ w'.cell? ⟨g1_, 0, none⟩ = some (.int .i64 a1_0) ∧ w'.cell? ⟨g1_, 1, none⟩ = some (.int .i64 a1_1) ∧ w'.cell? ⟨g1_, 2, none⟩ = some (.int .i64 a1_2) ∧ w'.cell? ⟨g1_, 3, none⟩ = some (.bool a1_3) ∧ w'.cell? ⟨g1_, 4, none⟩ = some (.int .i64 a1_4) ∧ w'.cell? ⟨g1_, 5, none⟩ = some (.int .i64 a1_5) ∧ w'.cell? ⟨g1_, 6, none⟩ = some (.bool a1_6) ∧ w'.cell? ⟨g1_, 7, none⟩ = some (.slice A1_7 l1_7.length c1_7) ∧ w'.cell? ⟨g1_, 8, none⟩ = some (.int .i64 a1_8) ∧ w'.cell? ⟨g1_, 9, none⟩ = some (.int .i64 a1_9) ∧ w'.cell? ⟨g1_, 10, none⟩ = some (.int .i64 a1_10)) (ds := []) (bs 33 0) (by kernel_rfl) rfl rfl ⟨bQ B2_.1 0, bQ B2_.1 1, bQ B2_.1 2, bQ B2_.1 3, bQ B2_.1 4, bQ B2_.1 5, bQ B2_.1 6, bQ B2_.1 7, bQ B2_.1 8, bQ B2_.1 9, bQ B2_.1 10, c12t B0_.1 ⟨bQ B1_.1 0, bQ B1_.1 1, bQ B1_.1 2, bQ B1_.1 3, bQ B1_.1 4, bQ B1_.1 5, bQ B1_.1 6, bQ B1_.1 7, bQ B1_.1 8, bQ B1_.1 9, bQ B1_.1 10⟩⟩ (fun hHeld => ?_); refine with_tabW clepsydralaw21_HealthSanes.tab6 clepsydralaw21_HealthSanes.bits6 (fun HT_ HW_ => ?_)
     generalize w39.drew = w40 at HO311 B0_ B1_ B2_ HB hHeld ⊢
     refine take_ (i := 0) (N := some 14) (v := ?_) (a' := ?_) (bs 33 1) rfl rfl (take_ofW HT_.out HW_.out (by kernel_rfl)) (fun _ _ _ h => h) (Or.inl ⟨by rfl, ?_⟩) hHeld ?_ ?_
     rotate_left
     ·rintro w' ⟨s0, s1, s2, s3, s4, s5, s6, s7, s8, s9, s10, s11, s12, s13, s14, s15, s16, s17, s18, s19, s20, s21, s22, s23, s24, s25, s26, s27, s28, s29, s30, s31, s32, s33⟩
      go_simp
      with_reducible rfl
     rotate_left
     ·simp only [Act.put, List.setIfInBounds_toArray, List.set_cons_zero, List.set_cons_succ, i64_w, i32_w]
      rfl
     refine take_ (i := 1) (N := some 15) (v := ?_) (a' := ?_) (bs 33 3) rfl rfl (take_ofW HT_.out HW_.out (by kernel_rfl)) (fun _ _ _ h => h) (Or.inl ⟨by rfl, ?_⟩) hHeld ?_ ?_
     rotate_left
     ·rintro w' ⟨s0, s1, s2, s3, s4, s5, s6, s7, s8, s9, s10, s11, s12, s13, s14, s15, s16, s17, s18, s19, s20, s21, s22, s23, s24, s25, s26, s27, s28, s29, s30, s31, s32, s33⟩
      go_simp
      with_reducible rfl
     rotate_left
     ·simp only [Act.put, List.setIfInBounds_toArray, List.set_cons_zero, List.set_cons_succ, i64_w, i32_w]
      rfl
     refine take_ (i := 2) (N := some 16) (v := ?_) (a' := ?_) (bs 33 7) rfl rfl (take_ofW HT_.out HW_.out (by kernel_rfl)) (fun _ _ _ h => h) (Or.inl ⟨by rfl, ?_⟩) hHeld ?_ ?_
     rotate_left
     ·rintro w' ⟨s0, s1, s2, s3, s4, s5, s6, s7, s8, s9, s10, s11, s12, s13, s14, s15, s16, s17, s18, s19, s20, s21, s22, s23, s24, s25, s26, s27, s28, s29, s30, s31, s32, s33⟩
      go_simp
      with_reducible rfl
     rotate_left
     ·simp only [Act.put, List.setIfInBounds_toArray, List.set_cons_zero, List.set_cons_succ, i64_w, i32_w]
      rfl
     refine one_ (i := 3) (N := some 17) (bs 33 15) rfl rfl (one_of HT_.out (by kernel_rfl)) (by decide) (fun K hK => ?_)
     refine goes_ Try.func12 (by kernel_rfl) rfl #[.agg #[.int .i64 a0_0, .int .i64 a0_1, .int .i64 a0_2, .int .i64 a0_3, .int .i64 a0_4, .int .i64 a0_5, .int .i64 a0_6, .int .i64 a0_7, .int .i64 a0_8, .int .i64 a0_9, .int .i64 a0_10, .int .i64 a0_11], .agg #[.int .i64 a1_0, .int .i64 a1_1, .int .i64 a1_2, .bool a1_3, .int .i64 a1_4, .int .i64 a1_5, .bool a1_6, .slice A1_7 l1_7.length c1_7, .int .i64 a1_8, .int .i64 a1_9, .int .i64 a1_10]] (by rfl) rfl rfl (by (try simp only [List.map_toArray, List.map_cons, List.map_nil]); first | done | rfl | (simp only [List.length_drop, List.length_take]; rfl)) ?_
     with_reducible refine (clepsydraref21_Sane.calls k a0_0 a0_1 a0_2 a0_3 a0_4 a0_5 a0_6 a0_7 a0_8 a0_9 a0_10 a0_11 a1_0 a1_1 a1_2 a1_3 a1_4 a1_5 a1_6 _ _ l1_7 a1_8 a1_9 a1_10 t316 t317 t318 t319 t320 t321 t322 t323 t326 t327 t328 _ ?side1 ?side2 A14.1).mono ?_
     (case side1 => repeat (first | exact (Kd.C_below HR1_7.out HB.1) | (with_reducible refine Kd.C_alloc ?_ _) | (with_reducible refine Kd.C_drewN ?_ _) | (with_reducible refine Kd.C_drew ?_)))
     (case side2 => exact HC1_7.out)
     rintro e w41 ⟨v324, rfl, ho0, hb⟩
     refine ⟨_, rfl, ?_⟩
     have n0_ := mk (Kd.R_elder' (by (with_reducible repeat (first | apply Kd.R_alloc | apply Kd.R_drewN | apply Kd.R_drew)); exact HO311.1) (Kd.R_base ho0) hb)
     have HO325 := mk (Kd.R_lower (Kd.R_new' ho0 (Kd.R_lt (by (with_reducible repeat (first | apply Kd.R_alloc | apply Kd.R_drewN | apply Kd.R_drew)); exact HO311.1))) (below_size (by repeat first | exact HB.1 | apply pD | apply b1 | refine bT (by assumption) ?_ | apply bA)))
     have n2_ := bb hb B0_.1
     have n3_ := bb hb B1_.1
     have n4_ := bb hb B2_.1
     have n5_ := mk (below_step (by repeat first | exact HB.1 | apply pD | apply b1 | refine bT (by assumption) ?_ | apply bA) hb)
     clear HO311 B0_ B1_ B2_ HB
     have HO311 := n0_
     have B0_ := n2_
     have B1_ := n3_
     have B2_ := n4_
     have HB := n5_
     clear n0_ n2_ n3_ n4_ n5_
     (try clear hb)
     (try clear hb2)
     (try clear hk)
     (try clear hi)
     (try clear ho0)
     obtain ⟨Ao42, co42, eo42⟩ := Kd.R_slice HO325.1
     (first | subst eo42 | (injection eo42 with f1_ f2_ f3_; have f4_ := f1_.symm; have f5_ := f3_.symm; clear f1_ f2_ f3_; subst f4_; subst f5_))
     refine hK.out _ _ ⟨bQ B2_.1 0, bQ B2_.1 1, bQ B2_.1 2, bQ B2_.1 3, bQ B2_.1 4, bQ B2_.1 5, bQ B2_.1 6, bQ B2_.1 7, bQ B2_.1 8, bQ B2_.1 9, bQ B2_.1 10, c12t B0_.1 ⟨bQ B1_.1 0, bQ B1_.1 1, bQ B1_.1 2, bQ B1_.1 3, bQ B1_.1 4, bQ B1_.1 5, bQ B1_.1 6, bQ B1_.1 7, bQ B1_.1 8, bQ B1_.1 9, bQ B1_.1 10⟩⟩ (fun hHeld => ?_)
     clear hK K
     refine norm_ (a' := ?_) ?_ ?_
     rotate_left
     ·show Act.put _ (some 17) _ = _
      simp only [Act.put, List.setIfInBounds_toArray, List.set_cons_zero, List.set_cons_succ, i64_w, i32_w]
      rfl
     refine one_ (i := 4) (N := some 18) (bs 33 31) rfl rfl (one_of HT_.out (by kernel_rfl)) (by decide) (fun K hK => ?_)
     refine goes_ Try.func11 (by kernel_rfl) rfl #[.agg #[.int .i64 t302, .int .i64 t303, .int .i64 t304, .bool t305, .int .i64 t306, .int .i64 t307, .bool t308, .slice Ao38 t309.length co38, .int .i64 t312, .int .i64 t313, .int .i64 t314], .agg #[.int .i64 t316, .int .i64 t317, .int .i64 t318, .bool t319, .int .i64 t320, .int .i64 t321, .bool t322, .slice Ao42 t323.length co42, .int .i64 t326, .int .i64 t327, .int .i64 t328]] (by rfl) rfl rfl (by (try simp only [List.map_toArray, List.map_cons, List.map_nil]); first | done | rfl | (simp only [List.length_drop, List.length_take]; rfl)) ?_
     with_reducible refine (clepsydraref21_Same.calls k t302 t303 t304 t305 t306 t307 t308 _ _ t309 t312 t313 t314 t316 t317 t318 t319 t320 t321 t322 _ _ t323 t326 t327 t328 true _ ?side1 ?side2 ?side3 ?side4 A15.1).mono ?_
     (case side1 => repeat (first | exact (Kd.R_reads' HO311.1).2.2 | (with_reducible refine Kd.C_alloc ?_ _) | (with_reducible refine Kd.C_drewN ?_ _) | (with_reducible refine Kd.C_drew ?_)))
     (case side2 => exact (Kd.R_reads' HO311.1).2.1)
     (case side3 => repeat (first | exact (Kd.R_reads' HO325.1).2.2 | (with_reducible refine Kd.C_alloc ?_ _) | (with_reducible refine Kd.C_drewN ?_ _) | (with_reducible refine Kd.C_drew ?_)))
     (case side4 => exact (Kd.R_reads' HO325.1).2.1)
     rintro e w43 ⟨rfl, hb⟩
     refine ⟨_, rfl, ?_⟩
     have n0_ := mk (Kd.R_below (by (with_reducible repeat (first | apply Kd.R_alloc | apply Kd.R_drewN | apply Kd.R_drew)); exact HO311.1) hb)
     have n1_ := mk (Kd.R_below (by (with_reducible repeat (first | apply Kd.R_alloc | apply Kd.R_drewN | apply Kd.R_drew)); exact HO325.1) hb)
     have n2_ := bb hb B0_.1
     have n3_ := bb hb B1_.1
     have n4_ := bb hb B2_.1
     have n5_ := mk (below_step (by repeat first | exact HB.1 | apply pD | apply b1 | refine bT (by assumption) ?_ | apply bA) hb)
     clear HO311 HO325 B0_ B1_ B2_ HB
     have HO311 := n0_
     have HO325 := n1_
     have B0_ := n2_
     have B1_ := n3_
     have B2_ := n4_
     have HB := n5_
     clear n0_ n1_ n2_ n3_ n4_ n5_
     (try clear hb)
     (try clear hb2)
     (try clear hk)
     (try clear hi)
     refine hK.out _ _ ⟨bQ B2_.1 0, bQ B2_.1 1, bQ B2_.1 2, bQ B2_.1 3, bQ B2_.1 4, bQ B2_.1 5, bQ B2_.1 6, bQ B2_.1 7, bQ B2_.1 8, bQ B2_.1 9, bQ B2_.1 10, c12t B0_.1 ⟨bQ B1_.1 0, bQ B1_.1 1, bQ B1_.1 2, bQ B1_.1 3, bQ B1_.1 4, bQ B1_.1 5, bQ B1_.1 6, bQ B1_.1 7, bQ B1_.1 8, bQ B1_.1 9, bQ B1_.1 10⟩⟩ (fun hHeld => ?_)
     clear hK K
     refine norm_ (a' := ?_) ?_ ?_
     rotate_left
     ·show Act.put _ (some 18) _ = _
      simp only [Act.put, List.setIfInBounds_toArray, List.set_cons_zero, List.set_cons_succ, i64_w, i32_w]
      rfl
     refine pure_ (i := 5) (N := some 19) (v := ?_) (a' := ?_) (bs 33 63) rfl rfl (any_of HT_.out (by kernel_rfl)) (fun _ _ _ h => h) (Or.inl ⟨by rfl, ?_⟩) ?_ ?_
     rotate_left
     ·intro w'
      go_simp
      with_reducible rfl
     rotate_left
     ·simp only [Act.put, List.setIfInBounds_toArray, List.set_cons_zero, List.set_cons_succ, i64_w, i32_w]
      rfl
     refine take_ (i := 6) (N := some 20) (v := ?_) (a' := ?_) (bs 33 127) rfl rfl (take_ofW HT_.out HW_.out (by kernel_rfl)) (fun _ _ _ h => h) (Or.inl ⟨by rfl, ?_⟩) hHeld ?_ ?_
     rotate_left
     ·rintro w' ⟨s0, s1, s2, s3, s4, s5, s6, s7, s8, s9, s10, s11, s12, s13, s14, s15, s16, s17, s18, s19, s20, s21, s22, s23, s24, s25, s26, s27, s28, s29, s30, s31, s32, s33⟩
      go_simp
      with_reducible rfl
     rotate_left
     ·simp only [Act.put, List.setIfInBounds_toArray, List.set_cons_zero, List.set_cons_succ, i64_w, i32_w]
      rfl
     refine take_ (i := 7) (N := some 21) (v := ?_) (a' := ?_) (bs 33 255) rfl rfl (take_ofW HT_.out HW_.out (by kernel_rfl)) (fun _ _ _ h => h) (Or.inl ⟨by rfl, ?_⟩) hHeld ?_ ?_
     rotate_left
     ·rintro w' ⟨s0, s1, s2, s3, s4, s5, s6, s7, s8, s9, s10, s11, s12, s13, s14, s15, s16, s17, s18, s19, s20, s21, s22, s23, s24, s25, s26, s27, s28, s29, s30, s31, s32, s33⟩
      go_simp
      with_reducible rfl
     rotate_left
     ·simp only [Act.put, List.setIfInBounds_toArray, List.set_cons_zero, List.set_cons_succ, i64_w, i32_w]
      rfl
     refine take_ (i := 9) (N := some 23) (v := ?_) (a' := ?_) (bs 33 767) rfl rfl (take_ofW HT_.out HW_.out (by kernel_rfl)) (fun _ _ _ h => h) (Or.inl ⟨by rfl, ?_⟩) hHeld ?_ ?_
     rotate_left
     ·rintro w' ⟨s0, s1, s2, s3, s4, s5, s6, s7, s8, s9, s10, s11, s12, s13, s14, s15, s16, s17, s18, s19, s20, s21, s22, s23, s24, s25, s26, s27, s28, s29, s30, s31, s32, s33⟩
      go_simp
      with_reducible rfl
     rotate_left
     ·simp only [Act.put, List.setIfInBounds_toArray, List.set_cons_zero, List.set_cons_succ, i64_w, i32_w]
      rfl
     refine one_ (i := 8) (N := some 22) (bs 33 1023) rfl rfl (one_of HT_.out (by kernel_rfl)) (by decide) (fun K hK => ?_)
     refine goes_ Try.func10 (by kernel_rfl) rfl #[.agg #[.int .i64 a0_0, .int .i64 a0_1, .int .i64 a0_2, .int .i64 a0_3, .int .i64 a0_4, .int .i64 a0_5, .int .i64 a0_6, .int .i64 a0_7, .int .i64 a0_8, .int .i64 a0_9, .int .i64 a0_10, .int .i64 a0_11], .agg #[.int .i64 t302, .int .i64 t303, .int .i64 t304, .bool t305, .int .i64 t306, .int .i64 t307, .bool t308, .slice Ao38 t309.length co38, .int .i64 t312, .int .i64 t313, .int .i64 t314]] (by rfl) rfl rfl (by (try simp only [List.map_toArray, List.map_cons, List.map_nil]); first | done | rfl | (simp only [List.length_drop, List.length_take]; rfl)) ?_
     with_reducible refine (health_Sane.calls k a0_0 a0_1 a0_2 a0_3 a0_4 a0_5 a0_6 a0_7 a0_8 a0_9 a0_10 a0_11 t302 t303 t304 t305 t306 t307 t308 _ _ t309 t312 t313 t314 t330 t331 t332 t333 t334 t335 t336 t337 t340 t341 t342 _ ?side1 ?side2 A17.1).mono ?_
     (case side1 => repeat (first | exact (Kd.R_reads' HO311.1).2.2 | (with_reducible refine Kd.C_alloc ?_ _) | (with_reducible refine Kd.C_drewN ?_ _) | (with_reducible refine Kd.C_drew ?_)))
     (case side2 => exact (Kd.R_reads' HO311.1).2.1)
     rintro e w44 ⟨v338, rfl, ho0, hb⟩
     refine ⟨_, rfl, ?_⟩
     have n0_ := mk (Kd.R_elder' (by (with_reducible repeat (first | apply Kd.R_alloc | apply Kd.R_drewN | apply Kd.R_drew)); exact HO311.1) (Kd.R_base ho0) hb)
     have n1_ := mk (Kd.R_elder' (by (with_reducible repeat (first | apply Kd.R_alloc | apply Kd.R_drewN | apply Kd.R_drew)); exact HO325.1) (Kd.R_base ho0) hb)
     have HO339 := mk (Kd.R_lower (Kd.R_new' (Kd.R_new' ho0 (Kd.R_lt (by (with_reducible repeat (first | apply Kd.R_alloc | apply Kd.R_drewN | apply Kd.R_drew)); exact HO311.1))) (Kd.R_lt (by (with_reducible repeat (first | apply Kd.R_alloc | apply Kd.R_drewN | apply Kd.R_drew)); exact HO325.1))) (below_size (by repeat first | exact HB.1 | apply pD | apply b1 | refine bT (by assumption) ?_ | apply bA)))
     have n3_ := bb hb B0_.1
     have n4_ := bb hb B1_.1
     have n5_ := bb hb B2_.1
     have n6_ := mk (below_step (by repeat first | exact HB.1 | apply pD | apply b1 | refine bT (by assumption) ?_ | apply bA) hb)
     clear HO311 HO325 B0_ B1_ B2_ HB
     have HO311 := n0_
     have HO325 := n1_
     have B0_ := n3_
     have B1_ := n4_
     have B2_ := n5_
     have HB := n6_
     clear n0_ n1_ n3_ n4_ n5_ n6_
     (try clear hb)
     (try clear hb2)
     (try clear hk)
     (try clear hi)
     (try clear ho0)
     obtain ⟨Ao45, co45, eo45⟩ := Kd.R_slice HO339.1
     (first | subst eo45 | (injection eo45 with f1_ f2_ f3_; have f4_ := f1_.symm; have f5_ := f3_.symm; clear f1_ f2_ f3_; subst f4_; subst f5_))
     refine hK.out _ _ ⟨bQ B2_.1 0, bQ B2_.1 1, bQ B2_.1 2, bQ B2_.1 3, bQ B2_.1 4, bQ B2_.1 5, bQ B2_.1 6, bQ B2_.1 7, bQ B2_.1 8, bQ B2_.1 9, bQ B2_.1 10, c12t B0_.1 ⟨bQ B1_.1 0, bQ B1_.1 1, bQ B1_.1 2, bQ B1_.1 3, bQ B1_.1 4, bQ B1_.1 5, bQ B1_.1 6, bQ B1_.1 7, bQ B1_.1 8, bQ B1_.1 9, bQ B1_.1 10⟩⟩ (fun hHeld => ?_)
     clear hK K
     refine norm_ (a' := ?_) ?_ ?_
     rotate_left
     ·show Act.put _ (some 22) _ = _
      simp only [Act.put, List.setIfInBounds_toArray, List.set_cons_zero, List.set_cons_succ, i64_w, i32_w]
      rfl
     refine one_ (i := 10) (N := some 24) (bs 33 2047) rfl rfl (one_of HT_.out (by kernel_rfl)) (by decide) (fun K hK => ?_)
     refine goes_ Try.func11 (by kernel_rfl) rfl #[.agg #[.int .i64 t330, .int .i64 t331, .int .i64 t332, .bool t333, .int .i64 t334, .int .i64 t335, .bool t336, .slice Ao45 t337.length co45, .int .i64 t340, .int .i64 t341, .int .i64 t342], .agg #[.int .i64 t302, .int .i64 t303, .int .i64 t304, .bool t305, .int .i64 t306, .int .i64 t307, .bool t308, .slice Ao38 t309.length co38, .int .i64 t312, .int .i64 t313, .int .i64 t314]] (by rfl) rfl rfl (by (try simp only [List.map_toArray, List.map_cons, List.map_nil]); first | done | rfl | (simp only [List.length_drop, List.length_take]; rfl)) ?_
     with_reducible refine (clepsydraref21_Same.calls k t330 t331 t332 t333 t334 t335 t336 _ _ t337 t340 t341 t342 t302 t303 t304 t305 t306 t307 t308 _ _ t309 t312 t313 t314 true _ ?side1 ?side2 ?side3 ?side4 A18.1).mono ?_
     (case side1 => repeat (first | exact (Kd.R_reads' HO339.1).2.2 | (with_reducible refine Kd.C_alloc ?_ _) | (with_reducible refine Kd.C_drewN ?_ _) | (with_reducible refine Kd.C_drew ?_)))
     (case side2 => exact (Kd.R_reads' HO339.1).2.1)
     (case side3 => repeat (first | exact (Kd.R_reads' HO311.1).2.2 | (with_reducible refine Kd.C_alloc ?_ _) | (with_reducible refine Kd.C_drewN ?_ _) | (with_reducible refine Kd.C_drew ?_)))
     (case side4 => exact (Kd.R_reads' HO311.1).2.1)
     rintro e w46 ⟨rfl, hb⟩
     refine ⟨_, rfl, ?_⟩
     have n0_ := mk (Kd.R_below (by (with_reducible repeat (first | apply Kd.R_alloc | apply Kd.R_drewN | apply Kd.R_drew)); exact HO311.1) hb)
     have n1_ := mk (Kd.R_below (by (with_reducible repeat (first | apply Kd.R_alloc | apply Kd.R_drewN | apply Kd.R_drew)); exact HO325.1) hb)
     have n2_ := mk (Kd.R_below (by (with_reducible repeat (first | apply Kd.R_alloc | apply Kd.R_drewN | apply Kd.R_drew)); exact HO339.1) hb)
     have n3_ := bb hb B0_.1
     have n4_ := bb hb B1_.1
     have n5_ := bb hb B2_.1
     have n6_ := mk (below_step (by repeat first | exact HB.1 | apply pD | apply b1 | refine bT (by assumption) ?_ | apply bA) hb)
     clear HO311 HO325 HO339 B0_ B1_ B2_ HB
     have HO311 := n0_
     have HO325 := n1_
     have HO339 := n2_
     have B0_ := n3_
     have B1_ := n4_
     have B2_ := n5_
     have HB := n6_
     clear n0_ n1_ n2_ n3_ n4_ n5_ n6_
     (try clear hb)
     (try clear hb2)
     (try clear hk)
     (try clear hi)
     refine hK.out _ _ ⟨bQ B2_.1 0, bQ B2_.1 1, bQ B2_.1 2, bQ B2_.1 3, bQ B2_.1 4, bQ B2_.1 5, bQ B2_.1 6, bQ B2_.1 7, bQ B2_.1 8, bQ B2_.1 9, bQ B2_.1 10, c12t B0_.1 ⟨bQ B1_.1 0, bQ B1_.1 1, bQ B1_.1 2, bQ B1_.1 3, bQ B1_.1 4, bQ B1_.1 5, bQ B1_.1 6, bQ B1_.1 7, bQ B1_.1 8, bQ B1_.1 9, bQ B1_.1 10⟩⟩ (fun hHeld => ?_)
     clear hK K
     refine norm_ (a' := ?_) ?_ ?_
     rotate_left
     ·show Act.put _ (some 24) _ = _
      simp only [Act.put, List.setIfInBounds_toArray, List.set_cons_zero, List.set_cons_succ, i64_w, i32_w]
      rfl
     refine pure_ (i := 11) (N := some 25) (v := ?_) (a' := ?_) (bs 33 4095) rfl rfl (any_of HT_.out (by kernel_rfl)) (fun _ _ _ h => h) (Or.inl ⟨by rfl, ?_⟩) ?_ ?_
     rotate_left
     ·intro w'
      go_simp
      with_reducible rfl
     rotate_left
     ·simp only [Act.put, List.setIfInBounds_toArray, List.set_cons_zero, List.set_cons_succ, i64_w, i32_w]
      rfl
     refine pure_ (i := 12) (N := some 26) (v := ?_) (a' := ?_) (bs 33 8191) rfl rfl (any_of HT_.out (by kernel_rfl)) (fun _ _ _ h => h) (Or.inl ⟨by rfl, ?_⟩) ?_ ?_
     rotate_left
     ·intro w'
      go_simp
      with_reducible rfl
     rotate_left
     ·simp only [Act.put, List.setIfInBounds_toArray, List.set_cons_zero, List.set_cons_succ, i64_w, i32_w]
      rfl
     refine take_ (i := 13) (N := some 27) (v := ?_) (a' := ?_) (bs 33 16383) rfl rfl (take_ofW HT_.out HW_.out (by kernel_rfl)) (fun _ _ _ h => h) (Or.inl ⟨by rfl, ?_⟩) hHeld ?_ ?_
     rotate_left
     ·rintro w' ⟨s0, s1, s2, s3, s4, s5, s6, s7, s8, s9, s10, s11, s12, s13, s14, s15, s16, s17, s18, s19, s20, s21, s22, s23, s24, s25, s26, s27, s28, s29, s30, s31, s32, s33⟩
      go_simp
      with_reducible rfl
     rotate_left
     ·simp only [Act.put, List.setIfInBounds_toArray, List.set_cons_zero, List.set_cons_succ, i64_w, i32_w]
      rfl
     refine take_ (i := 14) (N := some 28) (v := ?_) (a' := ?_) (bs 33 32767) rfl rfl (take_ofW HT_.out HW_.out (by kernel_rfl)) (fun _ _ _ h => h) (Or.inl ⟨by rfl, ?_⟩) hHeld ?_ ?_
     rotate_left
     ·rintro w' ⟨s0, s1, s2, s3, s4, s5, s6, s7, s8, s9, s10, s11, s12, s13, s14, s15, s16, s17, s18, s19, s20, s21, s22, s23, s24, s25, s26, s27, s28, s29, s30, s31, s32, s33⟩
      go_simp
      with_reducible rfl
     rotate_left
     ·simp only [Act.put, List.setIfInBounds_toArray, List.set_cons_zero, List.set_cons_succ, i64_w, i32_w]
      rfl
     refine take_ (i := 16) (N := some 30) (v := ?_) (a' := ?_) (bs 33 98303) rfl rfl (take_ofW HT_.out HW_.out (by kernel_rfl)) (fun _ _ _ h => h) (Or.inl ⟨by rfl, ?_⟩) hHeld ?_ ?_
     rotate_left
     ·rintro w' ⟨s0, s1, s2, s3, s4, s5, s6, s7, s8, s9, s10, s11, s12, s13, s14, s15, s16, s17, s18, s19, s20, s21, s22, s23, s24, s25, s26, s27, s28, s29, s30, s31, s32, s33⟩
      go_simp
      with_reducible rfl
     rotate_left
     ·simp only [Act.put, List.setIfInBounds_toArray, List.set_cons_zero, List.set_cons_succ, i64_w, i32_w]
      rfl
     refine take_ (i := 17) (N := some 31) (v := ?_) (a' := ?_) (bs 33 229375) rfl rfl (take_ofW HT_.out HW_.out (by kernel_rfl)) (fun _ _ _ h => h) (Or.inl ⟨by rfl, ?_⟩) hHeld ?_ ?_
     rotate_left
     ·rintro w' ⟨s0, s1, s2, s3, s4, s5, s6, s7, s8, s9, s10, s11, s12, s13, s14, s15, s16, s17, s18, s19, s20, s21, s22, s23, s24, s25, s26, s27, s28, s29, s30, s31, s32, s33⟩
      go_simp
      with_reducible rfl
     rotate_left
     ·simp only [Act.put, List.setIfInBounds_toArray, List.set_cons_zero, List.set_cons_succ, i64_w, i32_w]
      rfl
     refine one_ (i := 15) (N := some 29) (bs 33 262143) rfl rfl (one_of HT_.out (by kernel_rfl)) (by decide) (fun K hK => ?_)
     refine goes_ Try.func13 (by kernel_rfl) rfl #[.agg #[.int .i64 a0_0, .int .i64 a0_1, .int .i64 a0_2, .int .i64 a0_3, .int .i64 a0_4, .int .i64 a0_5, .int .i64 a0_6, .int .i64 a0_7, .int .i64 a0_8, .int .i64 a0_9, .int .i64 a0_10, .int .i64 a0_11], .agg #[.int .i64 a1_0, .int .i64 a1_1, .int .i64 a1_2, .bool a1_3, .int .i64 a1_4, .int .i64 a1_5, .bool a1_6, .slice A1_7 l1_7.length c1_7, .int .i64 a1_8, .int .i64 a1_9, .int .i64 a1_10]] (by rfl) rfl rfl (by (try simp only [List.map_toArray, List.map_cons, List.map_nil]); first | done | rfl | (simp only [List.length_drop, List.length_take]; rfl)) ?_
     with_reducible refine (health_Of.calls k a0_0 a0_1 a0_2 a0_3 a0_4 a0_5 a0_6 a0_7 a0_8 a0_9 a0_10 a0_11 a1_0 a1_1 a1_2 a1_3 a1_4 a1_5 a1_6 _ _ l1_7 a1_8 a1_9 a1_10 t344 _ ?side1 ?side2 A20.1).mono ?_
     (case side1 => repeat (first | exact (Kd.C_below HR1_7.out HB.1) | (with_reducible refine Kd.C_alloc ?_ _) | (with_reducible refine Kd.C_drewN ?_ _) | (with_reducible refine Kd.C_drew ?_)))
     (case side2 => exact HC1_7.out)
     rintro e w47 ⟨rfl, hb⟩
     refine ⟨_, rfl, ?_⟩
     have n0_ := mk (Kd.R_below (by (with_reducible repeat (first | apply Kd.R_alloc | apply Kd.R_drewN | apply Kd.R_drew)); exact HO311.1) hb)
     have n1_ := mk (Kd.R_below (by (with_reducible repeat (first | apply Kd.R_alloc | apply Kd.R_drewN | apply Kd.R_drew)); exact HO325.1) hb)
     have n2_ := mk (Kd.R_below (by (with_reducible repeat (first | apply Kd.R_alloc | apply Kd.R_drewN | apply Kd.R_drew)); exact HO339.1) hb)
     have n3_ := bb hb B0_.1
     have n4_ := bb hb B1_.1
     have n5_ := bb hb B2_.1
     have n6_ := mk (below_step (by repeat first | exact HB.1 | apply pD | apply b1 | refine bT (by assumption) ?_ | apply bA) hb)
     clear HO311 HO325 HO339 B0_ B1_ B2_ HB
     have HO311 := n0_
     have HO325 := n1_
     have HO339 := n2_
     have B0_ := n3_
     have B1_ := n4_
     have B2_ := n5_
     have HB := n6_
     clear n0_ n1_ n2_ n3_ n4_ n5_ n6_
     (try clear hb)
     (try clear hb2)
     (try clear hk)
     (try clear hi)
     refine hK.out _ _ ⟨bQ B2_.1 0, bQ B2_.1 1, bQ B2_.1 2, bQ B2_.1 3, bQ B2_.1 4, bQ B2_.1 5, bQ B2_.1 6, bQ B2_.1 7, bQ B2_.1 8, bQ B2_.1 9, bQ B2_.1 10, c12t B0_.1 ⟨bQ B1_.1 0, bQ B1_.1 1, bQ B1_.1 2, bQ B1_.1 3, bQ B1_.1 4, bQ B1_.1 5, bQ B1_.1 6, bQ B1_.1 7, bQ B1_.1 8, bQ B1_.1 9, bQ B1_.1 10⟩⟩ (fun hHeld => ?_)
     clear hK K
     refine norm_ (a' := ?_) ?_ ?_
     rotate_left
     ·show Act.put _ (some 29) _ = _
      simp only [Act.put, List.setIfInBounds_toArray, List.set_cons_zero, List.set_cons_succ, i64_w, i32_w]
      rfl
     refine one_ (i := 18) (N := some 32) (bs 33 524287) rfl rfl (one_of HT_.out (by kernel_rfl)) (by decide) (fun K hK => ?_)
     refine goes_ Try.func14 (by kernel_rfl) rfl #[.agg #[.int .i64 a0_0, .int .i64 a0_1, .int .i64 a0_2, .int .i64 a0_3, .int .i64 a0_4, .int .i64 a0_5, .int .i64 a0_6, .int .i64 a0_7, .int .i64 a0_8, .int .i64 a0_9, .int .i64 a0_10, .int .i64 a0_11], .agg #[.int .i64 a1_0, .int .i64 a1_1, .int .i64 a1_2, .bool a1_3, .int .i64 a1_4, .int .i64 a1_5, .bool a1_6, .slice A1_7 l1_7.length c1_7, .int .i64 a1_8, .int .i64 a1_9, .int .i64 a1_10]] (by rfl) rfl rfl (by (try simp only [List.map_toArray, List.map_cons, List.map_nil]); first | done | rfl | (simp only [List.length_drop, List.length_take]; rfl)) ?_
     with_reducible refine (clepsydraref21_Of.calls k a0_0 a0_1 a0_2 a0_3 a0_4 a0_5 a0_6 a0_7 a0_8 a0_9 a0_10 a0_11 a1_0 a1_1 a1_2 a1_3 a1_4 a1_5 a1_6 _ _ l1_7 a1_8 a1_9 a1_10 t345 _ ?side1 ?side2 A21.1).mono ?_
     (case side1 => repeat (first | exact (Kd.C_below HR1_7.out HB.1) | (with_reducible refine Kd.C_alloc ?_ _) | (with_reducible refine Kd.C_drewN ?_ _) | (with_reducible refine Kd.C_drew ?_)))
     (case side2 => exact HC1_7.out)
     rintro e w48 ⟨rfl, hb⟩
     refine ⟨_, rfl, ?_⟩
     have n0_ := mk (Kd.R_below (by (with_reducible repeat (first | apply Kd.R_alloc | apply Kd.R_drewN | apply Kd.R_drew)); exact HO311.1) hb)
     have n1_ := mk (Kd.R_below (by (with_reducible repeat (first | apply Kd.R_alloc | apply Kd.R_drewN | apply Kd.R_drew)); exact HO325.1) hb)
     have n2_ := mk (Kd.R_below (by (with_reducible repeat (first | apply Kd.R_alloc | apply Kd.R_drewN | apply Kd.R_drew)); exact HO339.1) hb)
     have n3_ := bb hb B0_.1
     have n4_ := bb hb B1_.1
     have n5_ := bb hb B2_.1
     have n6_ := mk (below_step (by repeat first | exact HB.1 | apply pD | apply b1 | refine bT (by assumption) ?_ | apply bA) hb)
     clear HO311 HO325 HO339 B0_ B1_ B2_ HB
     have HO311 := n0_
     have HO325 := n1_
     have HO339 := n2_
     have B0_ := n3_
     have B1_ := n4_
     have B2_ := n5_
     have HB := n6_
     clear n0_ n1_ n2_ n3_ n4_ n5_ n6_
     (try clear hb)
     (try clear hb2)
     (try clear hk)
     (try clear hi)
     refine hK.out _ _ ⟨bQ B2_.1 0, bQ B2_.1 1, bQ B2_.1 2, bQ B2_.1 3, bQ B2_.1 4, bQ B2_.1 5, bQ B2_.1 6, bQ B2_.1 7, bQ B2_.1 8, bQ B2_.1 9, bQ B2_.1 10, c12t B0_.1 ⟨bQ B1_.1 0, bQ B1_.1 1, bQ B1_.1 2, bQ B1_.1 3, bQ B1_.1 4, bQ B1_.1 5, bQ B1_.1 6, bQ B1_.1 7, bQ B1_.1 8, bQ B1_.1 9, bQ B1_.1 10⟩⟩ (fun hHeld => ?_)
     clear hK K
     refine norm_ (a' := ?_) ?_ ?_
     rotate_left
     ·show Act.put _ (some 32) _ = _
      simp only [Act.put, List.setIfInBounds_toArray, List.set_cons_zero, List.set_cons_succ, i64_w, i32_w]
      rfl
     refine pure_ (i := 19) (N := some 33) (v := ?_) (a' := ?_) (bs 33 1048575) rfl rfl (any_of HT_.out (by kernel_rfl)) (fun _ _ _ h => h) (Or.inl ⟨by rfl, ?_⟩) ?_ ?_
     rotate_left
     ·intro w'
      go_simp
      with_reducible rfl
     rotate_left
     ·simp only [Act.put, List.setIfInBounds_toArray, List.set_cons_zero, List.set_cons_succ, i64_w, i32_w]
      rfl
     refine pure_ (i := 20) (N := some 34) (v := ?_) (a' := ?_) (bs 33 2097151) rfl rfl (any_of HT_.out (by kernel_rfl)) (fun _ _ _ h => h) (Or.inl ⟨by rfl, ?_⟩) ?_ ?_
     rotate_left
     ·intro w'
      go_simp
      with_reducible rfl
     rotate_left
     ·simp only [Act.put, List.setIfInBounds_toArray, List.set_cons_zero, List.set_cons_succ, i64_w, i32_w]
      rfl
     refine pure_ (i := 21) (N := some 35) (v := ?_) (a' := ?_) (bs 33 4194303) rfl rfl (any_of HT_.out (by kernel_rfl)) (fun _ _ _ h => h) (Or.inl ⟨by rfl, ?_⟩) ?_ ?_
     rotate_left
     ·intro w'
      go_simp
      with_reducible rfl
     rotate_left
     ·simp only [Act.put, List.setIfInBounds_toArray, List.set_cons_zero, List.set_cons_succ, i64_w, i32_w]
      rfl
     refine pure_ (i := 23) (N := some 37) (v := ?_) (a' := ?_) (bs 33 12582911) rfl rfl (any_of HT_.out (by kernel_rfl)) (fun _ _ _ h => h) (Or.inl ⟨by rfl, ?_⟩) ?_ ?_
     rotate_left
     ·intro w'
      go_simp
      with_reducible rfl
     rotate_left
     ·simp only [Act.put, List.setIfInBounds_toArray, List.set_cons_zero, List.set_cons_succ, i64_w, i32_w]
      rfl
     refine pure_ (i := 27) (N := some 41) (v := ?_) (a' := ?_) (bs 33 146800639) rfl rfl (any_of HT_.out (by kernel_rfl)) (fun _ _ _ h => h) (Or.inl ⟨by rfl, ?_⟩) ?_ ?_
     rotate_left
     ·intro w'
      go_simp
      with_reducible rfl
     rotate_left
     ·simp only [Act.put, List.setIfInBounds_toArray, List.set_cons_zero, List.set_cons_succ, i64_w, i32_w]
      rfl
     refine take_ (i := 22) (N := some 36) (v := ?_) (a' := ?_) (bs 33 150994943) rfl rfl (take_ofW HT_.out HW_.out (by kernel_rfl)) (fun _ _ _ h => h) (Or.inl ⟨by rfl, ?_⟩) hHeld ?_ ?_
     rotate_left
     ·rintro w' ⟨s0, s1, s2, s3, s4, s5, s6, s7, s8, s9, s10, s11, s12, s13, s14, s15, s16, s17, s18, s19, s20, s21, s22, s23, s24, s25, s26, s27, s28, s29, s30, s31, s32, s33⟩
      go_simp
      with_reducible rfl
     rotate_left
     ·simp only [Act.put, List.setIfInBounds_toArray, List.set_cons_zero, List.set_cons_succ, i64_w, i32_w]
      rfl
     refine take_ (i := 24) (N := some 38) (v := ?_) (a' := ?_) (bs 33 167772159) rfl rfl (take_ofW HT_.out HW_.out (by kernel_rfl)) (fun _ _ _ h => h) (Or.inl ⟨by rfl, ?_⟩) hHeld ?_ ?_
     rotate_left
     ·rintro w' ⟨s0, s1, s2, s3, s4, s5, s6, s7, s8, s9, s10, s11, s12, s13, s14, s15, s16, s17, s18, s19, s20, s21, s22, s23, s24, s25, s26, s27, s28, s29, s30, s31, s32, s33⟩
      go_simp
      with_reducible rfl
     rotate_left
     ·simp only [Act.put, List.setIfInBounds_toArray, List.set_cons_zero, List.set_cons_succ, i64_w, i32_w]
      rfl
     refine take_ (i := 26) (N := some 40) (v := ?_) (a' := ?_) (bs 33 234881023) rfl rfl (take_ofW HT_.out HW_.out (by kernel_rfl)) (fun _ _ _ h => h) (Or.inl ⟨by rfl, ?_⟩) hHeld ?_ ?_
     rotate_left
     ·rintro w' ⟨s0, s1, s2, s3, s4, s5, s6, s7, s8, s9, s10, s11, s12, s13, s14, s15, s16, s17, s18, s19, s20, s21, s22, s23, s24, s25, s26, s27, s28, s29, s30, s31, s32, s33⟩
      go_simp
      with_reducible rfl
     rotate_left
     ·simp only [Act.put, List.setIfInBounds_toArray, List.set_cons_zero, List.set_cons_succ, i64_w, i32_w]
      rfl
     refine take_ (i := 28) (N := some 42) (v := ?_) (a' := ?_) (bs 33 503316479) rfl rfl (take_ofW HT_.out HW_.out (by kernel_rfl)) (fun _ _ _ h => h) (Or.inl ⟨by rfl, ?_⟩) hHeld ?_ ?_
     rotate_left
     ·rintro w' ⟨s0, s1, s2, s3, s4, s5, s6, s7, s8, s9, s10, s11, s12, s13, s14, s15, s16, s17, s18, s19, s20, s21, s22, s23, s24, s25, s26, s27, s28, s29, s30, s31, s32, s33⟩
      go_simp
      with_reducible rfl
     rotate_left
     ·simp only [Act.put, List.setIfInBounds_toArray, List.set_cons_zero, List.set_cons_succ, i64_w, i32_w]
      rfl
     refine one_ (i := 25) (N := some 39) (bs 33 536870911) rfl rfl (one_of HT_.out (by kernel_rfl)) (by decide) (fun K hK => ?_)
     refine goes_ Try.func15 (by kernel_rfl) rfl #[.agg #[.int .i64 a0_0, .int .i64 a0_1, .int .i64 a0_2, .int .i64 a0_3, .int .i64 a0_4, .int .i64 a0_5, .int .i64 a0_6, .int .i64 a0_7, .int .i64 a0_8, .int .i64 a0_9, .int .i64 a0_10, .int .i64 a0_11], .int .i64 a1_4] (by rfl) rfl rfl (by (try simp only [List.map_toArray, List.map_cons, List.map_nil]); first | done | rfl | (simp only [List.length_drop, List.length_take]; rfl)) ?_
     with_reducible refine (health_Far.calls k a0_0 a0_1 a0_2 a0_3 a0_4 a0_5 a0_6 a0_7 a0_8 a0_9 a0_10 a0_11 a1_4 t346 _ A23.1).mono ?_
     rintro e w49 ⟨rfl, hb⟩
     refine ⟨_, rfl, ?_⟩
     have n0_ := mk (Kd.R_below (by (with_reducible repeat (first | apply Kd.R_alloc | apply Kd.R_drewN | apply Kd.R_drew)); exact HO311.1) hb)
     have n1_ := mk (Kd.R_below (by (with_reducible repeat (first | apply Kd.R_alloc | apply Kd.R_drewN | apply Kd.R_drew)); exact HO325.1) hb)
     have n2_ := mk (Kd.R_below (by (with_reducible repeat (first | apply Kd.R_alloc | apply Kd.R_drewN | apply Kd.R_drew)); exact HO339.1) hb)
     have n3_ := bb hb B0_.1
     have n4_ := bb hb B1_.1
     have n5_ := bb hb B2_.1
     have n6_ := mk (below_step (by repeat first | exact HB.1 | apply pD | apply b1 | refine bT (by assumption) ?_ | apply bA) hb)
     clear HO311 HO325 HO339 B0_ B1_ B2_ HB
     have HO311 := n0_
     have HO325 := n1_
     have HO339 := n2_
     have B0_ := n3_
     have B1_ := n4_
     have B2_ := n5_
     have HB := n6_
     clear n0_ n1_ n2_ n3_ n4_ n5_ n6_
     (try clear hb)
     (try clear hb2)
     (try clear hk)
     (try clear hi)
     refine hK.out _ _ ⟨bQ B2_.1 0, bQ B2_.1 1, bQ B2_.1 2, bQ B2_.1 3, bQ B2_.1 4, bQ B2_.1 5, bQ B2_.1 6, bQ B2_.1 7, bQ B2_.1 8, bQ B2_.1 9, bQ B2_.1 10, c12t B0_.1 ⟨bQ B1_.1 0, bQ B1_.1 1, bQ B1_.1 2, bQ B1_.1 3, bQ B1_.1 4, bQ B1_.1 5, bQ B1_.1 6, bQ B1_.1 7, bQ B1_.1 8, bQ B1_.1 9, bQ B1_.1 10⟩⟩ (fun hHeld => ?_)
     clear hK K
     refine norm_ (a' := ?_) ?_ ?_
     rotate_left
     ·show Act.put _ (some 39) _ = _
      simp only [Act.put, List.setIfInBounds_toArray, List.set_cons_zero, List.set_cons_succ, i64_w, i32_w]
      rfl
     refine one_ (i := 29) (N := some 43) (bs 33 1073741823) rfl rfl (one_of HT_.out (by kernel_rfl)) (by decide) (fun K hK => ?_)
     refine goes_ Try.func16 (by kernel_rfl) rfl #[.agg #[.int .i64 a0_0, .int .i64 a0_1, .int .i64 a0_2, .int .i64 a0_3, .int .i64 a0_4, .int .i64 a0_5, .int .i64 a0_6, .int .i64 a0_7, .int .i64 a0_8, .int .i64 a0_9, .int .i64 a0_10, .int .i64 a0_11], .int .i64 a1_4] (by rfl) rfl rfl (by (try simp only [List.map_toArray, List.map_cons, List.map_nil]); first | done | rfl | (simp only [List.length_drop, List.length_take]; rfl)) ?_
     with_reducible refine (clepsydraref21_Far.calls k a0_0 a0_1 a0_2 a0_3 a0_4 a0_5 a0_6 a0_7 a0_8 a0_9 a0_10 a0_11 a1_4 t347 _ A24.1).mono ?_
     rintro e w50 ⟨rfl, hb⟩
     refine ⟨_, rfl, ?_⟩
     have n0_ := mk (Kd.R_below (by (with_reducible repeat (first | apply Kd.R_alloc | apply Kd.R_drewN | apply Kd.R_drew)); exact HO311.1) hb)
     have n1_ := mk (Kd.R_below (by (with_reducible repeat (first | apply Kd.R_alloc | apply Kd.R_drewN | apply Kd.R_drew)); exact HO325.1) hb)
     have n2_ := mk (Kd.R_below (by (with_reducible repeat (first | apply Kd.R_alloc | apply Kd.R_drewN | apply Kd.R_drew)); exact HO339.1) hb)
     have n3_ := bb hb B0_.1
     have n4_ := bb hb B1_.1
     have n5_ := bb hb B2_.1
     have n6_ := mk (below_step (by repeat first | exact HB.1 | apply pD | apply b1 | refine bT (by assumption) ?_ | apply bA) hb)
     clear HO311 HO325 HO339 B0_ B1_ B2_ HB
     have HO311 := n0_
     have HO325 := n1_
     have HO339 := n2_
     have B0_ := n3_
     have B1_ := n4_
     have B2_ := n5_
     have HB := n6_
     clear n0_ n1_ n2_ n3_ n4_ n5_ n6_
     (try clear hb)
     (try clear hb2)
     (try clear hk)
     (try clear hi)
     refine hK.out _ _ ⟨bQ B2_.1 0, bQ B2_.1 1, bQ B2_.1 2, bQ B2_.1 3, bQ B2_.1 4, bQ B2_.1 5, bQ B2_.1 6, bQ B2_.1 7, bQ B2_.1 8, bQ B2_.1 9, bQ B2_.1 10, c12t B0_.1 ⟨bQ B1_.1 0, bQ B1_.1 1, bQ B1_.1 2, bQ B1_.1 3, bQ B1_.1 4, bQ B1_.1 5, bQ B1_.1 6, bQ B1_.1 7, bQ B1_.1 8, bQ B1_.1 9, bQ B1_.1 10⟩⟩ (fun hHeld => ?_)
     clear hK K
     refine norm_ (a' := ?_) ?_ ?_
     rotate_left
     ·show Act.put _ (some 43) _ = _
      simp only [Act.put, List.setIfInBounds_toArray, List.set_cons_zero, List.set_cons_succ, i64_w, i32_w]
      rfl
     refine pure_ (i := 30) (N := some 44) (v := ?_) (a' := ?_) (bs 33 2147483647) rfl rfl (any_of HT_.out (by kernel_rfl)) (fun _ _ _ h => h) (Or.inl ⟨by rfl, ?_⟩) ?_ ?_
     rotate_left
     ·intro w'
      go_simp
      with_reducible rfl
     rotate_left
     ·simp only [Act.put, List.setIfInBounds_toArray, List.set_cons_zero, List.set_cons_succ, i64_w, i32_w]
      rfl
     refine pure_ (i := 31) (N := some 45) (v := ?_) (a' := ?_) (bs 33 4294967295) rfl rfl (any_of HT_.out (by kernel_rfl)) (fun _ _ _ h => h) (Or.inl ⟨by rfl, ?_⟩) ?_ ?_
     rotate_left
     ·intro w'
      go_simp
      with_reducible rfl
     rotate_left
     ·simp only [Act.put, List.setIfInBounds_toArray, List.set_cons_zero, List.set_cons_succ, i64_w, i32_w]
      rfl
     refine pure_ (i := 32) (N := some 4) (v := ?_) (a' := ?_) (bs 33 8589934591) rfl rfl (any_of HT_.out (by kernel_rfl)) (fun _ _ _ h => h) (Or.inl ⟨by rfl, ?_⟩) ?_ ?_
     rotate_left
     ·intro w'
      go_simp
      with_reducible rfl
     rotate_left
     ·simp only [Act.put, List.setIfInBounds_toArray, List.set_cons_zero, List.set_cons_succ, i64_w, i32_w]
      rfl
     refine done_ (done_of HT_.out (by kernel_rfl)) ?_
     try go_wp2
     go_ret
     exact ⟨by first | rfl | (simp [errW_none, errW_some] <;> rfl) | (simp [*, errW_none, errW_some] <;> rfl), by repeat (first | (with_reducible first | exact HB.1 | apply bA | apply pD | apply b1 | apply bS E0_.1 | apply bS E1_.1 | apply bS E2_.1) | exact HB.1)⟩
    rw [if_neg c22] at H
    have c22b0 : (t344 == t345) = false := beq_eq_false_iff_ne.mpr c22
    have c22b1 : (t344 != t345) = true := bne_iff_ne.mpr c22
    exact absurd ((Option.some.inj H).trans hT.out) (by decide)
   replace c19 := Bool.eq_false_iff.mpr c19
   subst c19
   have H1 : (some false) = some r := by rw [if_neg (show ¬ (false = true) by decide)] at H; exact H
   clear H
   have H := H1
   clear H1
   exact absurd ((Option.some.inj H).trans hT.out) (by decide)
  replace c16 := Bool.eq_false_iff.mpr c16
  subst c16
  have H1 : (some false) = some r := by rw [if_neg (show ¬ (false = true) by decide)] at H; exact H
  clear H
  have H := H1
  clear H1
  exact absurd ((Option.some.inj H).trans hT.out) (by decide)
 replace c4 := Bool.eq_false_iff.mpr c4
 subst c4
 have H1 : (some false) = some r := by rw [if_neg (show ¬ (false = true) by decide)] at H; exact H
 clear H
 have H := H1
 clear H1
 exact absurd ((Option.some.inj H).trans hT.out) (by decide)

end Go.Proofs.Ytigkjbaclpklpaa.Q
