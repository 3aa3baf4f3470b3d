/- The calls of these Go functions answer what the Lean functions beside them answer; written by a program (wip/pr2.py, out of the print of the loaded program); under no condition but those that stand in the theorems. -/
import Derived.Test.YtigpigfoahlfjaaQx0
import Derived.Test.YtigpigfoahlfjaaQx3
import Derived.Test.YtigpigfoahlfjaaQx4
import Derived.Test.YtigpigfoahlfjaaQx5
import Derived.Test.YtigpigfoahlfjaaQx28
namespace Go.Proofs.Ytigpigfoahlfjaa.Q
open Go.RowKit Go.Proofs.YtigpigfoahlfjaaW.PrintWords Go.Proofs.YtigpigfoahlfjaaW.PrintLast Go.Proofs.YtigpigfoahlfjaaW.PrintMore
attribute [local go_sem] max2_int min2_int max_two min_two max_three min_three max_four min_four   -- for this text's walks alone
set_option linter.unusedVariables false
set_option linter.unusedSimpArgs false

/-! ### probe_Ahead: function 33 -/
def probe_Ahead.f (k : Nat) (a0_0 : Int) (a0_1 : Int) (a0_2 : Int) (a0_3 : Int) (a0_4 : Int) (a0_5 : Int) (a0_6 : Int) (a0_7 : Int) (a0_8 : Int) (a0_9 : Int) (a0_10 : Int) (a0_11 : Int) (a1_0 : Int) (a1_1 : Int) (a1_2 : Int) (a1_3 : Int) : Option (Int × Int) := (sat_Sub.f k a1_1 a1_0).bind fun t416 => ((sat_Sub.f k a1_2 a1_3).bind fun t417 => ((sat_Sub.f k t416 a0_5).bind fun t418 => ((probe_least.f k a0_0 a0_1 a0_2 a0_3 a0_4 a0_5 a0_6 a0_7 a0_8 a0_9 a0_10 a0_11).bind fun t419 => ((sat_Sub.f k t416 t419).bind fun t420 => ((probe_least.f k a0_0 a0_1 a0_2 a0_3 a0_4 a0_5 a0_6 a0_7 a0_8 a0_9 a0_10 a0_11).bind fun t422 => ((sat_Add.f k (([t417, t422] : List Int))).bind fun t426 => ((sat_Add.f k (([t417, a0_5] : List Int))).bind fun t430 => ((sat_Mul.f k 2 a0_4).bind fun t432 => ((sat_Neg.f k t432).bind fun t433 => ((span_Shift.f k t418 t420 t433 t432).bind fun bt434 => ((sat_Neg.f k t432).bind fun t436 => ((span_Shift.f k t426 t430 t436 t432).bind fun bt437 => ((span_Meet.f k (([(⟨bt434.1, bt434.2⟩ : S25), (⟨bt437.1, bt437.2⟩ : S25)] : List (S25)))).bind fun bt442 => (some (bt442.1, bt442.2)))))))))))))))
theorem probe_Ahead.mono : ∀ a0 a1 a2 a3 a4 a5 a6 a7 a8 a9 a10 a11 a12 a13 a14 a15 k, LeO (probe_Ahead.f k a0 a1 a2 a3 a4 a5 a6 a7 a8 a9 a10 a11 a12 a13 a14 a15) (probe_Ahead.f (k + 1) a0 a1 a2 a3 a4 a5 a6 a7 a8 a9 a10 a11 a12 a13 a14 a15) := by
 intro a0 a1 a2 a3 a4 a5 a6 a7 a8 a9 a10 a11 a12 a13 a14 a15 k
 unfold probe_Ahead.f
 repeat' first
   | (with_reducible exact probe_least.mono _ _ _ _ _ _ _ _ _ _ _ _ _)
   | (with_reducible exact sat_Add.mono _ _)
   | (with_reducible exact sat_Mul.mono _ _ _)
   | (with_reducible exact sat_Neg.mono _ _)
   | (with_reducible exact sat_Sub.mono _ _ _)
   | (with_reducible exact span_Meet.mono _ _)
   | (with_reducible exact span_Shift.mono _ _ _ _ _)
   | (with_reducible exact LeO.refl _)
   | (with_reducible exact LeO.none _)
   | (with_reducible refine LeO.ite ?_ ?_)
   | (with_reducible refine LeO.bind ?_ (fun _ => ?_))
   | exact probe_least.mono _ _ _ _ _ _ _ _ _ _ _ _ _
   | exact sat_Add.mono _ _
   | exact sat_Mul.mono _ _ _
   | exact sat_Neg.mono _ _
   | exact sat_Sub.mono _ _ _
   | exact span_Meet.mono _ _
   | exact span_Shift.mono _ _ _ _ _
   | exact LeO.none _
   | refine LeO.ite ?_ ?_
   | refine LeO.bind ?_ (fun _ => ?_)
def probe_Ahead.T1 : Bool × List (List Nat × List Nat) := (true, [([], []), ([0], [0]), ([], []), ([2], [2]), ([1, 3], [1, 3]), ([], []), ([5], [5]), ([], []), ([7], [7]), ([6, 8, 4], [6, 8]), ([4, 9, 0, 1, 2, 3, 4], [4]), ([9, 10, 0, 1, 2, 3, 4, 5, 6, 7, 8, 9, 10], [9])])
def probe_Ahead.B1 : List Nat := [0, 1, 0, 4, 15, 0, 32, 0, 128, 511, 1023, 2047]
theorem probe_Ahead.tab1 : rtab .any (opsOf Try.f33 1) = probe_Ahead.T1 := by kernel_rfl
theorem probe_Ahead.bits1 : waitsOk probe_Ahead.T1.2 probe_Ahead.B1 = true := by kernel_rfl
def probe_Ahead.T2 : Bool × List (List Nat × List Nat) := (true, [([], []), ([], []), ([1], [1]), ([0, 2], [0, 2]), ([], []), ([], []), ([5, 3], [5]), ([4, 6, 6], [4, 6]), ([3, 7], [3, 7]), ([], []), ([9, 8, 7, 0, 1, 2, 3, 4, 5, 6, 7, 8, 9], [8, 9])])
def probe_Ahead.B2 : List Nat := [0, 0, 2, 7, 0, 0, 47, 127, 255, 0, 1023]
theorem probe_Ahead.tab2 : rtab .any (opsOf Try.f33 2) = probe_Ahead.T2 := by kernel_rfl
theorem probe_Ahead.bits2 : waitsOk probe_Ahead.T2.2 probe_Ahead.B2 = true := by kernel_rfl
def probe_Ahead.T3 : Bool × List (List Nat × List Nat) := (true, [([], []), ([], []), ([1], [1]), ([0, 2], [0, 2]), ([3, 2], [3]), ([], []), ([], []), ([6], [6]), ([5, 7], [5, 7]), ([8, 4], [8]), ([4, 9], [4, 9]), ([], []), ([11, 10, 9, 0, 1, 2, 3, 4, 5, 6, 7, 8, 9, 10, 11], [10, 11])])
def probe_Ahead.B3 : List Nat := [0, 0, 2, 7, 15, 0, 0, 64, 224, 511, 1023, 0, 4095]
theorem probe_Ahead.tab3 : rtab .any (opsOf Try.f33 3) = probe_Ahead.T3 := by kernel_rfl
theorem probe_Ahead.bits3 : waitsOk probe_Ahead.T3.2 probe_Ahead.B3 = true := by kernel_rfl
def probe_Ahead.T5 : Bool × List (List Nat × List Nat) := (true, [([], []), ([], []), ([1], [1]), ([], []), ([0, 2, 3, 2], [0, 2, 3]), ([], []), ([], []), ([6, 4], [6]), ([], []), ([5, 7, 8, 7], [5, 7, 8]), ([4, 9], [4, 9]), ([10, 9], [10]), ([11, 11, 0, 1, 2, 3, 4, 5, 6, 7, 8, 9, 10, 11], [11])])
def probe_Ahead.B5 : List Nat := [0, 0, 2, 0, 15, 0, 0, 95, 0, 511, 1023, 2047, 4095]
theorem probe_Ahead.tab5 : rtab .any (opsOf Try.f33 5) = probe_Ahead.T5 := by kernel_rfl
theorem probe_Ahead.bits5 : waitsOk probe_Ahead.T5.2 probe_Ahead.B5 = true := by kernel_rfl
set_option maxHeartbeats 8000000 in
set_option maxRecDepth 100000 in
theorem probe_Ahead.calls (k : Nat) (a0_0 : Int) (a0_1 : Int) (a0_2 : Int) (a0_3 : Int) (a0_4 : Int) (a0_5 : Int) (a0_6 : Int) (a0_7 : Int) (a0_8 : Int) (a0_9 : Int) (a0_10 : Int) (a0_11 : Int) (a1_0 : Int) (a1_1 : Int) (a1_2 : Int) (a1_3 : Int) (r1 : Int) (r2 : Int) (w : World) (h : probe_Ahead.f k a0_0 a0_1 a0_2 a0_3 a0_4 a0_5 a0_6 a0_7 a0_8 a0_9 a0_10 a0_11 a1_0 a1_1 a1_2 a1_3 = some (r1, r2)) :
  Calls Try.prog 33 #[.agg #[.int .i64 a0_0, .int .i64 a0_1, .int .i64 a0_2, .int .i64 a0_3, .int .i64 a0_4, .int .i64 a0_5, .int .i64 a0_6, .int .i64 a0_7, .int .i64 a0_8, .int .i64 a0_9, .int .i64 a0_10, .int .i64 a0_11], .agg #[.int .i64 a1_0, .int .i64 a1_1, .int .i64 a1_2, .int .i64 a1_3]] w fun e w' => e = .returned (.agg #[.int .i64 r1, .int .i64 r2]) ∧ Below w.heap.size w w' := by
 have hu23 := Try.underlying23
 have hu57 := Try.underlying57
 have hu25 := Try.underlying25
 have HB := Aside0.mk (Below.refl w.heap.size w)
 have H : ((sat_Sub.f k a1_1 a1_0).bind fun t416 => ((sat_Sub.f k a1_2 a1_3).bind fun t417 => ((sat_Sub.f k t416 a0_5).bind fun t418 => ((probe_least.f k a0_0 a0_1 a0_2 a0_3 a0_4 a0_5 a0_6 a0_7 a0_8 a0_9 a0_10 a0_11).bind fun t419 => ((sat_Sub.f k t416 t419).bind fun t420 => ((probe_least.f k a0_0 a0_1 a0_2 a0_3 a0_4 a0_5 a0_6 a0_7 a0_8 a0_9 a0_10 a0_11).bind fun t422 => ((sat_Add.f k (([t417, t422] : List Int))).bind fun t426 => ((sat_Add.f k (([t417, a0_5] : List Int))).bind fun t430 => ((sat_Mul.f k 2 a0_4).bind fun t432 => ((sat_Neg.f k t432).bind fun t433 => ((span_Shift.f k t418 t420 t433 t432).bind fun bt434 => ((sat_Neg.f k t432).bind fun t436 => ((span_Shift.f k t426 t430 t436 t432).bind fun bt437 => ((span_Meet.f k (([(⟨bt434.1, bt434.2⟩ : S25), (⟨bt437.1, bt437.2⟩ : S25)] : List (S25)))).bind fun bt442 => (some (bt442.1, bt442.2)))))))))))))))) = some (r1, r2) := h
 clear h
 replace H := Option.bind_eq_some_iff.mp H
 obtain ⟨t416, A30, H⟩ := H
 replace H : ((sat_Sub.f k a1_2 a1_3).bind fun t417 => ((sat_Sub.f k t416 a0_5).bind fun t418 => ((probe_least.f k a0_0 a0_1 a0_2 a0_3 a0_4 a0_5 a0_6 a0_7 a0_8 a0_9 a0_10 a0_11).bind fun t419 => ((sat_Sub.f k t416 t419).bind fun t420 => ((probe_least.f k a0_0 a0_1 a0_2 a0_3 a0_4 a0_5 a0_6 a0_7 a0_8 a0_9 a0_10 a0_11).bind fun t422 => ((sat_Add.f k (([t417, t422] : List Int))).bind fun t426 => ((sat_Add.f k (([t417, a0_5] : List Int))).bind fun t430 => ((sat_Mul.f k 2 a0_4).bind fun t432 => ((sat_Neg.f k t432).bind fun t433 => ((span_Shift.f k t418 t420 t433 t432).bind fun bt434 => ((sat_Neg.f k t432).bind fun t436 => ((span_Shift.f k t426 t430 t436 t432).bind fun bt437 => ((span_Meet.f k (([(⟨bt434.1, bt434.2⟩ : S25), (⟨bt437.1, bt437.2⟩ : S25)] : List (S25)))).bind fun bt442 => (some (bt442.1, bt442.2))))))))))))))) = some (r1, r2) := H
 have A3 := Aside0.mk A30
 clear A30
 replace H := Option.bind_eq_some_iff.mp H
 obtain ⟨t417, A40, H⟩ := H
 replace H : ((sat_Sub.f k t416 a0_5).bind fun t418 => ((probe_least.f k a0_0 a0_1 a0_2 a0_3 a0_4 a0_5 a0_6 a0_7 a0_8 a0_9 a0_10 a0_11).bind fun t419 => ((sat_Sub.f k t416 t419).bind fun t420 => ((probe_least.f k a0_0 a0_1 a0_2 a0_3 a0_4 a0_5 a0_6 a0_7 a0_8 a0_9 a0_10 a0_11).bind fun t422 => ((sat_Add.f k (([t417, t422] : List Int))).bind fun t426 => ((sat_Add.f k (([t417, a0_5] : List Int))).bind fun t430 => ((sat_Mul.f k 2 a0_4).bind fun t432 => ((sat_Neg.f k t432).bind fun t433 => ((span_Shift.f k t418 t420 t433 t432).bind fun bt434 => ((sat_Neg.f k t432).bind fun t436 => ((span_Shift.f k t426 t430 t436 t432).bind fun bt437 => ((span_Meet.f k (([(⟨bt434.1, bt434.2⟩ : S25), (⟨bt437.1, bt437.2⟩ : S25)] : List (S25)))).bind fun bt442 => (some (bt442.1, bt442.2)))))))))))))) = some (r1, r2) := H
 have A4 := Aside0.mk A40
 clear A40
 replace H := Option.bind_eq_some_iff.mp H
 obtain ⟨t418, A50, H⟩ := H
 replace H : ((probe_least.f k a0_0 a0_1 a0_2 a0_3 a0_4 a0_5 a0_6 a0_7 a0_8 a0_9 a0_10 a0_11).bind fun t419 => ((sat_Sub.f k t416 t419).bind fun t420 => ((probe_least.f k a0_0 a0_1 a0_2 a0_3 a0_4 a0_5 a0_6 a0_7 a0_8 a0_9 a0_10 a0_11).bind fun t422 => ((sat_Add.f k (([t417, t422] : List Int))).bind fun t426 => ((sat_Add.f k (([t417, a0_5] : List Int))).bind fun t430 => ((sat_Mul.f k 2 a0_4).bind fun t432 => ((sat_Neg.f k t432).bind fun t433 => ((span_Shift.f k t418 t420 t433 t432).bind fun bt434 => ((sat_Neg.f k t432).bind fun t436 => ((span_Shift.f k t426 t430 t436 t432).bind fun bt437 => ((span_Meet.f k (([(⟨bt434.1, bt434.2⟩ : S25), (⟨bt437.1, bt437.2⟩ : S25)] : List (S25)))).bind fun bt442 => (some (bt442.1, bt442.2))))))))))))) = some (r1, r2) := H
 have A5 := Aside0.mk A50
 clear A50
 replace H := Option.bind_eq_some_iff.mp H
 obtain ⟨t419, A60, H⟩ := H
 replace H : ((sat_Sub.f k t416 t419).bind fun t420 => ((probe_least.f k a0_0 a0_1 a0_2 a0_3 a0_4 a0_5 a0_6 a0_7 a0_8 a0_9 a0_10 a0_11).bind fun t422 => ((sat_Add.f k (([t417, t422] : List Int))).bind fun t426 => ((sat_Add.f k (([t417, a0_5] : List Int))).bind fun t430 => ((sat_Mul.f k 2 a0_4).bind fun t432 => ((sat_Neg.f k t432).bind fun t433 => ((span_Shift.f k t418 t420 t433 t432).bind fun bt434 => ((sat_Neg.f k t432).bind fun t436 => ((span_Shift.f k t426 t430 t436 t432).bind fun bt437 => ((span_Meet.f k (([(⟨bt434.1, bt434.2⟩ : S25), (⟨bt437.1, bt437.2⟩ : S25)] : List (S25)))).bind fun bt442 => (some (bt442.1, bt442.2)))))))))))) = some (r1, r2) := H
 have A6 := Aside0.mk A60
 clear A60
 replace H := Option.bind_eq_some_iff.mp H
 obtain ⟨t420, A70, H⟩ := H
 replace H : ((probe_least.f k a0_0 a0_1 a0_2 a0_3 a0_4 a0_5 a0_6 a0_7 a0_8 a0_9 a0_10 a0_11).bind fun t422 => ((sat_Add.f k (([t417, t422] : List Int))).bind fun t426 => ((sat_Add.f k (([t417, a0_5] : List Int))).bind fun t430 => ((sat_Mul.f k 2 a0_4).bind fun t432 => ((sat_Neg.f k t432).bind fun t433 => ((span_Shift.f k t418 t420 t433 t432).bind fun bt434 => ((sat_Neg.f k t432).bind fun t436 => ((span_Shift.f k t426 t430 t436 t432).bind fun bt437 => ((span_Meet.f k (([(⟨bt434.1, bt434.2⟩ : S25), (⟨bt437.1, bt437.2⟩ : S25)] : List (S25)))).bind fun bt442 => (some (bt442.1, bt442.2))))))))))) = some (r1, r2) := H
 have A7 := Aside0.mk A70
 clear A70
 replace H := Option.bind_eq_some_iff.mp H
 obtain ⟨t422, A80, H⟩ := H
 replace H : ((sat_Add.f k (([t417, t422] : List Int))).bind fun t426 => ((sat_Add.f k (([t417, a0_5] : List Int))).bind fun t430 => ((sat_Mul.f k 2 a0_4).bind fun t432 => ((sat_Neg.f k t432).bind fun t433 => ((span_Shift.f k t418 t420 t433 t432).bind fun bt434 => ((sat_Neg.f k t432).bind fun t436 => ((span_Shift.f k t426 t430 t436 t432).bind fun bt437 => ((span_Meet.f k (([(⟨bt434.1, bt434.2⟩ : S25), (⟨bt437.1, bt437.2⟩ : S25)] : List (S25)))).bind fun bt442 => (some (bt442.1, bt442.2)))))))))) = some (r1, r2) := H
 have A8 := Aside0.mk A80
 clear A80
 obtain rfl : t419 = t422 := Option.some.inj (A6.out.symm.trans A8.out)
 obtain ⟨y423, hy423⟩ : ∃ y_ : List Int, y_ = (([t417, t419] : List Int)) := ⟨_, rfl⟩
 replace H : ((sat_Add.f k y423).bind fun t426 => ((sat_Add.f k (([t417, a0_5] : List Int))).bind fun t430 => ((sat_Mul.f k 2 a0_4).bind fun t432 => ((sat_Neg.f k t432).bind fun t433 => ((span_Shift.f k t418 t420 t433 t432).bind fun bt434 => ((sat_Neg.f k t432).bind fun t436 => ((span_Shift.f k t426 t430 t436 t432).bind fun bt437 => ((span_Meet.f k (([(⟨bt434.1, bt434.2⟩ : S25), (⟨bt437.1, bt437.2⟩ : S25)] : List (S25)))).bind fun bt442 => (some (bt442.1, bt442.2)))))))))) = some (r1, r2) := by first | (rw [hy423]; with_reducible exact H) | (have H2_ := (Option.bind_some _ _).symm.trans H; rw [hy423]; with_reducible exact H2_) | (have H2_ := (Option.bind_some _ _).symm.trans H; with_reducible exact H2_) | with_reducible exact H | (rw [hy423]; exact H) | exact H
 have Ny423 := Aside0.mk hy423
 clear hy423
 replace H := Option.bind_eq_some_iff.mp H
 obtain ⟨t426, A90, H⟩ := H
 replace H : ((sat_Add.f k (([t417, a0_5] : List Int))).bind fun t430 => ((sat_Mul.f k 2 a0_4).bind fun t432 => ((sat_Neg.f k t432).bind fun t433 => ((span_Shift.f k t418 t420 t433 t432).bind fun bt434 => ((sat_Neg.f k t432).bind fun t436 => ((span_Shift.f k t426 t430 t436 t432).bind fun bt437 => ((span_Meet.f k (([(⟨bt434.1, bt434.2⟩ : S25), (⟨bt437.1, bt437.2⟩ : S25)] : List (S25)))).bind fun bt442 => (some (bt442.1, bt442.2))))))))) = some (r1, r2) := H
 have A9 := Aside0.mk A90
 clear A90
 obtain ⟨y427, hy427⟩ : ∃ y_ : List Int, y_ = (([t417, a0_5] : List Int)) := ⟨_, rfl⟩
 replace H : ((sat_Add.f k y427).bind fun t430 => ((sat_Mul.f k 2 a0_4).bind fun t432 => ((sat_Neg.f k t432).bind fun t433 => ((span_Shift.f k t418 t420 t433 t432).bind fun bt434 => ((sat_Neg.f k t432).bind fun t436 => ((span_Shift.f k t426 t430 t436 t432).bind fun bt437 => ((span_Meet.f k (([(⟨bt434.1, bt434.2⟩ : S25), (⟨bt437.1, bt437.2⟩ : S25)] : List (S25)))).bind fun bt442 => (some (bt442.1, bt442.2))))))))) = some (r1, r2) := by first | (rw [hy427]; with_reducible exact H) | (have H2_ := (Option.bind_some _ _).symm.trans H; rw [hy427]; with_reducible exact H2_) | (have H2_ := (Option.bind_some _ _).symm.trans H; with_reducible exact H2_) | with_reducible exact H | (rw [hy427]; exact H) | exact H
 have Ny427 := Aside0.mk hy427
 clear hy427
 replace H := Option.bind_eq_some_iff.mp H
 obtain ⟨t430, A100, H⟩ := H
 replace H : ((sat_Mul.f k 2 a0_4).bind fun t432 => ((sat_Neg.f k t432).bind fun t433 => ((span_Shift.f k t418 t420 t433 t432).bind fun bt434 => ((sat_Neg.f k t432).bind fun t436 => ((span_Shift.f k t426 t430 t436 t432).bind fun bt437 => ((span_Meet.f k (([(⟨bt434.1, bt434.2⟩ : S25), (⟨bt437.1, bt437.2⟩ : S25)] : List (S25)))).bind fun bt442 => (some (bt442.1, bt442.2)))))))) = some (r1, r2) := H
 have A10 := Aside0.mk A100
 clear A100
 replace H := Option.bind_eq_some_iff.mp H
 obtain ⟨t432, A110, H⟩ := H
 replace H : ((sat_Neg.f k t432).bind fun t433 => ((span_Shift.f k t418 t420 t433 t432).bind fun bt434 => ((sat_Neg.f k t432).bind fun t436 => ((span_Shift.f k t426 t430 t436 t432).bind fun bt437 => ((span_Meet.f k (([(⟨bt434.1, bt434.2⟩ : S25), (⟨bt437.1, bt437.2⟩ : S25)] : List (S25)))).bind fun bt442 => (some (bt442.1, bt442.2))))))) = some (r1, r2) := H
 have A11 := Aside0.mk A110
 clear A110
 replace H := Option.bind_eq_some_iff.mp H
 obtain ⟨t433, A120, H⟩ := H
 replace H : ((span_Shift.f k t418 t420 t433 t432).bind fun bt434 => ((sat_Neg.f k t432).bind fun t436 => ((span_Shift.f k t426 t430 t436 t432).bind fun bt437 => ((span_Meet.f k (([(⟨bt434.1, bt434.2⟩ : S25), (⟨bt437.1, bt437.2⟩ : S25)] : List (S25)))).bind fun bt442 => (some (bt442.1, bt442.2)))))) = some (r1, r2) := H
 have A12 := Aside0.mk A120
 clear A120
 replace H := Option.bind_eq_some_iff.mp H
 obtain ⟨⟨t434, t435⟩, A130, H⟩ := H
 replace H : ((sat_Neg.f k t432).bind fun t436 => ((span_Shift.f k t426 t430 t436 t432).bind fun bt437 => ((span_Meet.f k (([(⟨t434, t435⟩ : S25), (⟨bt437.1, bt437.2⟩ : S25)] : List (S25)))).bind fun bt442 => (some (bt442.1, bt442.2))))) = some (r1, r2) := H
 have A13 := Aside0.mk A130
 clear A130
 replace H := Option.bind_eq_some_iff.mp H
 obtain ⟨t436, A140, H⟩ := H
 replace H : ((span_Shift.f k t426 t430 t436 t432).bind fun bt437 => ((span_Meet.f k (([(⟨t434, t435⟩ : S25), (⟨bt437.1, bt437.2⟩ : S25)] : List (S25)))).bind fun bt442 => (some (bt442.1, bt442.2)))) = some (r1, r2) := H
 have A14 := Aside0.mk A140
 clear A140
 obtain rfl : t433 = t436 := Option.some.inj (A12.out.symm.trans A14.out)
 replace H := Option.bind_eq_some_iff.mp H
 obtain ⟨⟨t437, t438⟩, A150, H⟩ := H
 replace H : ((span_Meet.f k (([(⟨t434, t435⟩ : S25), (⟨t437, t438⟩ : S25)] : List (S25)))).bind fun bt442 => (some (bt442.1, bt442.2))) = some (r1, r2) := H
 have A15 := Aside0.mk A150
 clear A150
 obtain ⟨y439, hy439⟩ : ∃ y_ : List (S25), y_ = (([(⟨t434, t435⟩ : S25), (⟨t437, t438⟩ : S25)] : List (S25))) := ⟨_, rfl⟩
 replace H : ((span_Meet.f k y439).bind fun bt442 => (some (bt442.1, bt442.2))) = some (r1, r2) := by first | (rw [hy439]; with_reducible exact H) | (have H2_ := (Option.bind_some _ _).symm.trans H; rw [hy439]; with_reducible exact H2_) | (have H2_ := (Option.bind_some _ _).symm.trans H; with_reducible exact H2_) | with_reducible exact H | (rw [hy439]; exact H) | exact H
 have Ny439 := Aside0.mk hy439
 clear hy439
 replace H := Option.bind_eq_some_iff.mp H
 obtain ⟨⟨t442, t443⟩, A160, H⟩ := H
 replace H : (some (t442, t443)) = some (r1, r2) := H
 have A16 := Aside0.mk A160
 clear A160
 simp only [Option.some.injEq, Prod.mk.injEq] at H
 obtain ⟨rfl, rfl⟩ := H
 go_enter Try.func33, Try.ntmps33
 try go_wp2_with (first | ((with_reducible refine gate_dst (N := 2) rfl ?_); refine box_event ?hg (N := 2) ?hd (cs := #[.int .i64 a0_0, .int .i64 a0_1, .int .i64 a0_2, .int .i64 a0_3, .int .i64 a0_4, .int .i64 a0_5, .int .i64 a0_6, .int .i64 a0_7, .int .i64 a0_8, .int .i64 a0_9, .int .i64 a0_10, .int .i64 a0_11]) (t := 23) ?hr ?_; (case hd => rfl); (case hg => rfl); (case hr => first | (go_simp; done) | (go_simp; rfl)); intro gb413 hg w17 hbox hb; have n0_ := Aside0.mk (below_step (by with_reducible repeat first | exact HB.out | apply pw_below_drewN) hb); have n1_ := Aside0.mk (hbox); have n2_ := Aside0.mk ((by rw [hg]; exact (below_size (by with_reducible repeat first | exact HB.out | apply pw_below_drewN)) : w.heap.size ≤ gb413)); have n3_ := Aside0.mk ((by rw [hg]; exact (below_size (by with_reducible repeat first | exact HB.out | apply pw_below_drewN)) : w.heap.size ≤ gb413)); clear HB; have HB := n0_; have BK413 := n1_; have GW413 := n2_; have GE413 := n3_; clear n0_ n1_ n2_ n3_; clear hb hbox hg) | ((with_reducible refine gate_dst (N := 3) rfl ?_); refine box_event ?hg (N := 3) ?hd (cs := #[.int .i64 a1_0, .int .i64 a1_1, .int .i64 a1_2, .int .i64 a1_3]) (t := 57) ?hr ?_; (case hd => rfl); (case hg => rfl); (case hr => first | (go_simp; done) | (go_simp; rfl)); intro gb414 hg w18 hbox hb; have n0_ := Aside0.mk (blk_below (by with_reducible repeat first | exact BK413.out | apply bN) hb); have n1_ := Aside0.mk (below_step (by with_reducible repeat first | exact HB.out | apply pw_below_drewN) hb); have n2_ := Aside0.mk (hbox); have n3_ := Aside0.mk ((by rw [hg]; exact (below_size (by with_reducible repeat first | exact HB.out | apply pw_below_drewN)) : w.heap.size ≤ gb414)); have n4_ := Aside0.mk ((by rw [hg]; exact (below_size (by with_reducible repeat first | exact HB.out | apply pw_below_drewN)) : w.heap.size ≤ gb414)); have n5_ := Aside0.mk ((by rw [hg]; exact Nat.ne_of_lt (blk_lt (by with_reducible repeat first | exact BK413.out | apply bN)) : gb413 ≠ gb414)); have n6_ := Aside0.mk ((by rw [hg]; exact Nat.ne_of_gt (blk_lt (by with_reducible repeat first | exact BK413.out | apply bN)) : gb414 ≠ gb413)); clear BK413; clear HB; have BK413 := n0_; have HB := n1_; have BK414 := n2_; have GW414 := n3_; have GE414 := n4_; have NB413_414 := n5_; have NB414_413 := n6_; clear n0_ n1_ n2_ n3_ n4_ n5_ n6_; clear hb hbox hg) | ((with_reducible refine gate_dst (N := 4) rfl ?_); refine box_event ?hg (N := 4) ?hd (cs := #[.int .i64 0, .int .i64 0]) (t := 25) ?hr ?_; (case hd => rfl); (case hg => rfl); (case hr => first | (go_simp; done) | (go_simp; rfl)); intro gb415 hg w19 hbox hb; have n0_ := Aside0.mk (blk_below (by with_reducible repeat first | exact BK413.out | apply bN) hb); have n1_ := Aside0.mk (blk_below (by with_reducible repeat first | exact BK414.out | apply bN) hb); have n2_ := Aside0.mk (below_step (by with_reducible repeat first | exact HB.out | apply pw_below_drewN) hb); have n3_ := Aside0.mk (hbox); have n4_ := Aside0.mk ((by rw [hg]; exact (below_size (by with_reducible repeat first | exact HB.out | apply pw_below_drewN)) : w.heap.size ≤ gb415)); have n5_ := Aside0.mk ((by rw [hg]; exact (below_size (by with_reducible repeat first | exact HB.out | apply pw_below_drewN)) : w.heap.size ≤ gb415)); have n6_ := Aside0.mk ((by rw [hg]; exact Nat.ne_of_lt (blk_lt (by with_reducible repeat first | exact BK413.out | apply bN)) : gb413 ≠ gb415)); have n7_ := Aside0.mk ((by rw [hg]; exact Nat.ne_of_gt (blk_lt (by with_reducible repeat first | exact BK413.out | apply bN)) : gb415 ≠ gb413)); have n8_ := Aside0.mk ((by rw [hg]; exact Nat.ne_of_lt (blk_lt (by with_reducible repeat first | exact BK414.out | apply bN)) : gb414 ≠ gb415)); have n9_ := Aside0.mk ((by rw [hg]; exact Nat.ne_of_gt (blk_lt (by with_reducible repeat first | exact BK414.out | apply bN)) : gb415 ≠ gb414)); clear BK413; clear BK414; clear HB; have BK413 := n0_; have BK414 := n1_; have HB := n2_; have BK415 := n3_; have GW415 := n4_; have GE415 := n5_; have NB413_415 := n6_; have NB415_413 := n7_; have NB414_415 := n8_; have NB415_414 := n9_; clear n0_ n1_ n2_ n3_ n4_ n5_ n6_ n7_ n8_ n9_; clear hb hbox hg))
 have n0_ := Aside0.mk (blk_drew BK413.out)
 have n1_ := Aside0.mk (blk_drew BK414.out)
 have n2_ := Aside0.mk (blk_drew BK415.out)
 have n3_ := Aside0.mk (below_drew1 HB.out)
 clear BK413 BK414 BK415 HB
 have BK413 := n0_
 have BK414 := n1_
 have BK415 := n2_
 have HB := n3_
 clear n0_ n1_ n2_ n3_
 refine start_ (n := 12) (S := fun w' => w'.cell? ⟨gb414, 0, none⟩ = some (.int .i64 a1_0) ∧ w'.cell? ⟨gb414, 1, none⟩ = some (.int .i64 a1_1) ∧ w'.cell? ⟨gb414, 2, none⟩ = some (.int .i64 a1_2) ∧ w'.cell? ⟨gb414, 3, none⟩ = some (.int .i64 a1_3)) (ds := []) #[false, false, false, false, false, false, false, false, false, false, false, false] (by kernel_rfl) rfl rfl ⟨(blk_cell BK414.out 0).trans rfl, (blk_cell BK414.out 1).trans rfl, (blk_cell BK414.out 2).trans rfl, (blk_cell BK414.out 3).trans rfl⟩ (fun hHeld => ?_); refine with_tabW probe_Ahead.tab1 probe_Ahead.bits1 (fun HT_ HW_ => ?_)
 generalize w19.drew = w20 at BK413 BK414 BK415 HB hHeld ⊢
 refine pure_ (i := 0) (N := some 10) (v := ?_) (a' := ?_) #[true, false, false, false, false, false, false, false, false, false, false, false] rfl rfl (any_of HT_.out (by kernel_rfl)) (fun _ _ _ h => h) (Or.inl ⟨by rfl, ?_⟩) ?_ ?_
 rotate_left
 ·intro w'
  go_simp
  with_reducible rfl
 rotate_left
 ·simp only [Act.put, List.setIfInBounds_toArray, List.set_cons_zero, List.set_cons_succ, i64_w, i32_w]
  rfl
 refine pure_ (i := 2) (N := some 12) (v := ?_) (a' := ?_) #[true, false, true, false, false, false, false, false, false, false, false, false] rfl rfl (any_of HT_.out (by kernel_rfl)) (fun _ _ _ h => h) (Or.inl ⟨by rfl, ?_⟩) ?_ ?_
 rotate_left
 ·intro w'
  go_simp
  with_reducible rfl
 rotate_left
 ·simp only [Act.put, List.setIfInBounds_toArray, List.set_cons_zero, List.set_cons_succ, i64_w, i32_w]
  rfl
 refine pure_ (i := 5) (N := some 15) (v := ?_) (a' := ?_) #[true, false, true, false, false, true, false, false, false, false, false, false] rfl rfl (any_of HT_.out (by kernel_rfl)) (fun _ _ _ h => h) (Or.inl ⟨by rfl, ?_⟩) ?_ ?_
 rotate_left
 ·intro w'
  go_simp
  with_reducible rfl
 rotate_left
 ·simp only [Act.put, List.setIfInBounds_toArray, List.set_cons_zero, List.set_cons_succ, i64_w, i32_w]
  rfl
 refine pure_ (i := 7) (N := some 17) (v := ?_) (a' := ?_) #[true, false, true, false, false, true, false, true, false, false, false, false] rfl rfl (any_of HT_.out (by kernel_rfl)) (fun _ _ _ h => h) (Or.inl ⟨by rfl, ?_⟩) ?_ ?_
 rotate_left
 ·intro w'
  go_simp
  with_reducible rfl
 rotate_left
 ·simp only [Act.put, List.setIfInBounds_toArray, List.set_cons_zero, List.set_cons_succ, i64_w, i32_w]
  rfl
 refine take_ (i := 1) (N := some 11) (v := ?_) (a' := ?_) #[true, true, true, false, false, true, false, true, false, false, false, false] rfl rfl (take_ofW HT_.out HW_.out (by kernel_rfl)) (fun _ _ _ h => h) (Or.inl ⟨by rfl, ?_⟩) hHeld ?_ ?_
 rotate_left
 ·rintro w' ⟨s0, s1, s2, s3⟩
  go_simp
  with_reducible rfl
 rotate_left
 ·simp only [Act.put, List.setIfInBounds_toArray, List.set_cons_zero, List.set_cons_succ, i64_w, i32_w]
  rfl
 refine take_ (i := 3) (N := some 13) (v := ?_) (a' := ?_) #[true, true, true, true, false, true, false, true, false, false, false, false] rfl rfl (take_ofW HT_.out HW_.out (by kernel_rfl)) (fun _ _ _ h => h) (Or.inl ⟨by rfl, ?_⟩) hHeld ?_ ?_
 rotate_left
 ·rintro w' ⟨s0, s1, s2, s3⟩
  go_simp
  with_reducible rfl
 rotate_left
 ·simp only [Act.put, List.setIfInBounds_toArray, List.set_cons_zero, List.set_cons_succ, i64_w, i32_w]
  rfl
 refine take_ (i := 6) (N := some 16) (v := ?_) (a' := ?_) #[true, true, true, true, false, true, true, true, false, false, false, false] rfl rfl (take_ofW HT_.out HW_.out (by kernel_rfl)) (fun _ _ _ h => h) (Or.inl ⟨by rfl, ?_⟩) hHeld ?_ ?_
 rotate_left
 ·rintro w' ⟨s0, s1, s2, s3⟩
  go_simp
  with_reducible rfl
 rotate_left
 ·simp only [Act.put, List.setIfInBounds_toArray, List.set_cons_zero, List.set_cons_succ, i64_w, i32_w]
  rfl
 refine take_ (i := 8) (N := some 18) (v := ?_) (a' := ?_) #[true, true, true, true, false, true, true, true, true, false, false, false] rfl rfl (take_ofW HT_.out HW_.out (by kernel_rfl)) (fun _ _ _ h => h) (Or.inl ⟨by rfl, ?_⟩) hHeld ?_ ?_
 rotate_left
 ·rintro w' ⟨s0, s1, s2, s3⟩
  go_simp
  with_reducible rfl
 rotate_left
 ·simp only [Act.put, List.setIfInBounds_toArray, List.set_cons_zero, List.set_cons_succ, i64_w, i32_w]
  rfl
 refine one_ (i := 4) (N := some 14) #[true, true, true, true, true, true, true, true, true, false, false, false] rfl rfl (one_of HT_.out (by kernel_rfl)) (by decide) (fun K hK => ?_)
 refine goes_ Try.func40 (by kernel_rfl) rfl #[.int .i64 a1_1, .int .i64 a1_0] (by rfl) rfl rfl (by (try simp only [List.map_toArray, List.map_cons, List.map_nil]); first | done | rfl | (simp only [List.length_drop, List.length_take]; rfl)) ?_
 with_reducible refine (sat_Sub.calls k a1_1 a1_0 t416 _ A3.out).mono ?_
 rintro e w' ⟨rfl, ⟨nd, rfl⟩⟩
 refine ⟨_, rfl, ?_⟩
 refine hK.out _ _ ⟨(blk_cell BK414.out 0).trans rfl, (blk_cell BK414.out 1).trans rfl, (blk_cell BK414.out 2).trans rfl, (blk_cell BK414.out 3).trans rfl⟩ (fun hHeld => ?_)
 clear hK K
 refine norm_ (a' := ?_) ?_ ?_
 rotate_left
 ·show Act.put _ (some 14) _ = _
  simp only [Act.put, List.setIfInBounds_toArray, List.set_cons_zero, List.set_cons_succ, i64_w, i32_w]
  rfl
 refine one_ (i := 9) (N := some 19) #[true, true, true, true, true, true, true, true, true, true, false, false] rfl rfl (one_of HT_.out (by kernel_rfl)) (by decide) (fun K hK => ?_)
 refine goes_ Try.func40 (by kernel_rfl) rfl #[.int .i64 a1_2, .int .i64 a1_3] (by rfl) rfl rfl (by (try simp only [List.map_toArray, List.map_cons, List.map_nil]); first | done | rfl | (simp only [List.length_drop, List.length_take]; rfl)) ?_
 with_reducible refine (sat_Sub.calls k a1_2 a1_3 t417 _ A4.out).mono ?_
 rintro e w' ⟨rfl, ⟨nd, rfl⟩⟩
 refine ⟨_, rfl, ?_⟩
 refine hK.out _ _ ⟨(blk_cell BK414.out 0).trans rfl, (blk_cell BK414.out 1).trans rfl, (blk_cell BK414.out 2).trans rfl, (blk_cell BK414.out 3).trans rfl⟩ (fun hHeld => ?_)
 clear hK K
 refine norm_ (a' := ?_) ?_ ?_
 rotate_left
 ·show Act.put _ (some 19) _ = _
  simp only [Act.put, List.setIfInBounds_toArray, List.set_cons_zero, List.set_cons_succ, i64_w, i32_w]
  rfl
 refine pure_ (i := 10) (N := some 5) (v := ?_) (a' := ?_) #[true, true, true, true, true, true, true, true, true, true, true, false] rfl rfl (any_of HT_.out (by kernel_rfl)) (fun _ _ _ h => h) (Or.inl ⟨by rfl, ?_⟩) ?_ ?_
 rotate_left
 ·intro w'
  go_simp
  with_reducible rfl
 rotate_left
 ·simp only [Act.put, List.setIfInBounds_toArray, List.set_cons_zero, List.set_cons_succ, i64_w, i32_w]
  rfl
 refine pure_ (i := 11) (N := some 6) (v := ?_) (a' := ?_) #[true, true, true, true, true, true, true, true, true, true, true, true] rfl rfl (any_of HT_.out (by kernel_rfl)) (fun _ _ _ h => h) (Or.inl ⟨by rfl, ?_⟩) ?_ ?_
 rotate_left
 ·intro w'
  go_simp
  with_reducible rfl
 rotate_left
 ·simp only [Act.put, List.setIfInBounds_toArray, List.set_cons_zero, List.set_cons_succ, i64_w, i32_w]
  rfl
 refine done_ (done_of HT_.out (by kernel_rfl)) ?_
 try go_wp2
 (try ((repeat rw [World.drewN_drewN]); rw [drewN_self w20]; generalize hq_ : World.drewN w20 _ = w20; have n0_ : Aside0 (w20.heap[gb413]? = some (.cells #[.int .i64 a0_0, .int .i64 a0_1, .int .i64 a0_2, .int .i64 a0_3, .int .i64 a0_4, .int .i64 a0_5, .int .i64 a0_6, .int .i64 a0_7, .int .i64 a0_8, .int .i64 a0_9, .int .i64 a0_10, .int .i64 a0_11] 23 (0, 0))) := ⟨by rw [← hq_]; exact (by with_reducible repeat first | exact BK413.out | apply bN)⟩; have n1_ : Aside0 (w20.heap[gb414]? = some (.cells #[.int .i64 a1_0, .int .i64 a1_1, .int .i64 a1_2, .int .i64 a1_3] 57 (0, 0))) := ⟨by rw [← hq_]; exact (by with_reducible repeat first | exact BK414.out | apply bN)⟩; have n2_ : Aside0 (w20.heap[gb415]? = some (.cells #[.int .i64 0, .int .i64 0] 25 (0, 0))) := ⟨by rw [← hq_]; exact (by with_reducible repeat first | exact BK415.out | apply bN)⟩; have n3_ : Aside0 (Below w.heap.size w w20) := ⟨by rw [← hq_]; exact (by repeat (first | (with_reducible first | exact HB.out | apply below_alloc | apply pw_below_drewN | apply below_drew1 | refine below_set ?_ GE413.out | refine below_set ?_ GE414.out | refine below_set ?_ GE415.out) | exact HB.out))⟩; clear BK413 BK414 BK415 HB hq_; have BK413 := n0_; have BK414 := n1_; have BK415 := n2_; have HB := n3_; clear n0_ n1_ n2_ n3_))
 have n0_ := Aside0.mk (blk_drew BK413.out)
 have n1_ := Aside0.mk (blk_drew BK414.out)
 have n2_ := Aside0.mk (blk_drew BK415.out)
 have n3_ := Aside0.mk (below_drew1 HB.out)
 clear BK413 BK414 BK415 HB
 have BK413 := n0_
 have BK414 := n1_
 have BK415 := n2_
 have HB := n3_
 clear n0_ n1_ n2_ n3_
 refine start_ (n := 11) (S := fun w' => w'.cell? ⟨gb413, 0, none⟩ = some (.int .i64 a0_0) ∧ w'.cell? ⟨gb413, 1, none⟩ = some (.int .i64 a0_1) ∧ w'.cell? ⟨gb413, 2, none⟩ = some (.int .i64 a0_2) ∧ w'.cell? ⟨gb413, 3, none⟩ = some (.int .i64 a0_3) ∧ w'.cell? ⟨gb413, 4, none⟩ = some (.int .i64 a0_4) ∧ w'.cell? ⟨gb413, 5, none⟩ = some (.int .i64 a0_5) ∧ w'.cell? ⟨gb413, 6, none⟩ = some (.int .i64 a0_6) ∧ w'.cell? ⟨gb413, 7, none⟩ = some (.int .i64 a0_7) ∧ w'.cell? ⟨gb413, 8, none⟩ = some (.int .i64 a0_8) ∧ w'.cell? ⟨gb413, 9, none⟩ = some (.int .i64 a0_9) ∧ w'.cell? ⟨gb413, 10, none⟩ = some (.int .i64 a0_10) ∧ w'.cell? ⟨gb413, 11, none⟩ = some (.int .i64 a0_11)) (ds := []) #[false, false, false, false, false, false, false, false, false, false, false] (by kernel_rfl) rfl rfl (c12 BK413.out) (fun hHeld => ?_); refine with_tabW probe_Ahead.tab2 probe_Ahead.bits2 (fun HT_ HW_ => ?_)
 generalize w20.drew = w21 at BK413 BK414 BK415 HB hHeld ⊢
 refine pure_ (i := 0) (N := some 20) (v := ?_) (a' := ?_) #[true, false, false, false, false, false, false, false, false, false, false] rfl rfl (any_of HT_.out (by kernel_rfl)) (fun _ _ _ h => h) (Or.inl ⟨by rfl, ?_⟩) ?_ ?_
 rotate_left
 ·intro w'
  go_simp
  with_reducible rfl
 rotate_left
 ·simp only [Act.put, List.setIfInBounds_toArray, List.set_cons_zero, List.set_cons_succ, i64_w, i32_w]
  rfl
 refine pure_ (i := 1) (N := some 21) (v := ?_) (a' := ?_) #[true, true, false, false, false, false, false, false, false, false, false] rfl rfl (any_of HT_.out (by kernel_rfl)) (fun _ _ _ h => h) (Or.inl ⟨by rfl, ?_⟩) ?_ ?_
 rotate_left
 ·intro w'
  go_simp
  with_reducible rfl
 rotate_left
 ·simp only [Act.put, List.setIfInBounds_toArray, List.set_cons_zero, List.set_cons_succ, i64_w, i32_w]
  rfl
 refine pure_ (i := 4) (N := some 24) (v := ?_) (a' := ?_) #[true, true, false, false, true, false, false, false, false, false, false] rfl rfl (any_of HT_.out (by kernel_rfl)) (fun _ _ _ h => h) (Or.inl ⟨by rfl, ?_⟩) ?_ ?_
 rotate_left
 ·intro w'
  go_simp
  with_reducible rfl
 rotate_left
 ·simp only [Act.put, List.setIfInBounds_toArray, List.set_cons_zero, List.set_cons_succ, i64_w, i32_w]
  rfl
 refine take_ (i := 2) (N := some 22) (v := ?_) (a' := ?_) #[true, true, true, false, true, false, false, false, false, false, false] rfl rfl (take_ofW HT_.out HW_.out (by kernel_rfl)) (fun _ _ _ h => h) (Or.inl ⟨by rfl, ?_⟩) hHeld ?_ ?_
 rotate_left
 ·rintro w' ⟨s0, s1, s2, s3, s4, s5, s6, s7, s8, s9, s10, s11⟩
  go_simp
  with_reducible rfl
 rotate_left
 ·simp only [Act.put, List.setIfInBounds_toArray, List.set_cons_zero, List.set_cons_succ, i64_w, i32_w]
  rfl
 refine take_ (i := 5) (N := some 25) (v := ?_) (a' := ?_) #[true, true, true, false, true, true, false, false, false, false, false] rfl rfl (take_ofW HT_.out HW_.out (by kernel_rfl)) (fun _ _ _ h => h) (Or.inl ⟨by rfl, ?_⟩) hHeld ?_ ?_
 rotate_left
 ·rintro w' ⟨s0, s1, s2, s3, s4, s5, s6, s7, s8, s9, s10, s11⟩
  go_simp
  with_reducible rfl
 rotate_left
 ·simp only [Act.put, List.setIfInBounds_toArray, List.set_cons_zero, List.set_cons_succ, i64_w, i32_w]
  rfl
 refine join_ (σ := Nat) 1 #[true, true, true, true, true, true, true, true, true, true, false] (fun s_ => [(23, .int .i64 t418), (26, .int .i64 t419), (27, .int .i64 t420), (7, .pointer (some ⟨s_, 0, none⟩)), (28, .agg #[.int .i64 t418, .int .i64 t420])]) (fun s_ w' => (w'.cell? ⟨gb413, 0, none⟩ = some (.int .i64 a0_0) ∧ w'.cell? ⟨gb413, 1, none⟩ = some (.int .i64 a0_1) ∧ w'.cell? ⟨gb413, 2, none⟩ = some (.int .i64 a0_2) ∧ w'.cell? ⟨gb413, 3, none⟩ = some (.int .i64 a0_3) ∧ w'.cell? ⟨gb413, 4, none⟩ = some (.int .i64 a0_4) ∧ w'.cell? ⟨gb413, 5, none⟩ = some (.int .i64 a0_5) ∧ w'.cell? ⟨gb413, 6, none⟩ = some (.int .i64 a0_6) ∧ w'.cell? ⟨gb413, 7, none⟩ = some (.int .i64 a0_7) ∧ w'.cell? ⟨gb413, 8, none⟩ = some (.int .i64 a0_8) ∧ w'.cell? ⟨gb413, 9, none⟩ = some (.int .i64 a0_9) ∧ w'.cell? ⟨gb413, 10, none⟩ = some (.int .i64 a0_10) ∧ w'.cell? ⟨gb413, 11, none⟩ = some (.int .i64 a0_11)) ∧ (w'.heap[gb413]? = some (.cells #[.int .i64 a0_0, .int .i64 a0_1, .int .i64 a0_2, .int .i64 a0_3, .int .i64 a0_4, .int .i64 a0_5, .int .i64 a0_6, .int .i64 a0_7, .int .i64 a0_8, .int .i64 a0_9, .int .i64 a0_10, .int .i64 a0_11] 23 (0, 0))) ∧ (w'.heap[gb414]? = some (.cells #[.int .i64 a1_0, .int .i64 a1_1, .int .i64 a1_2, .int .i64 a1_3] 57 (0, 0))) ∧ (w'.heap[gb415]? = some (.cells #[.int .i64 0, .int .i64 0] 25 (0, 0))) ∧ (w'.heap[s_]? = some (.cells #[.int .i64 0, .int .i64 0] 25 (0, 0))) ∧ (w.heap.size ≤ s_) ∧ (w.heap.size ≤ s_) ∧ (gb413 ≠ s_) ∧ (s_ ≠ gb413) ∧ (gb414 ≠ s_) ∧ (s_ ≠ gb414) ∧ (gb415 ≠ s_) ∧ (s_ ≠ gb415) ∧ (Below w.heap.size w w')) ?_ ?_
 rotate_left
 ·intro hCont
  refine two_ (i := 3) (j := 9) (Ni := some 23) (Nj := some 7) #[true, true, true, true, true, true, false, false, false, false, false] #[true, true, true, false, true, true, false, false, false, true, false] rfl rfl rfl rfl (two_of HT_.out (by kernel_rfl)) (by decide) (by decide) (fun K hK => ?_) (fun K hK => ?_)
  ·skip
   refine goes_ Try.func40 (by kernel_rfl) rfl #[.int .i64 t416, .int .i64 a0_5] (by rfl) rfl rfl (by (try simp only [List.map_toArray, List.map_cons, List.map_nil]); first | done | rfl | (simp only [List.length_drop, List.length_take]; rfl)) ?_
   with_reducible refine (sat_Sub.calls k t416 a0_5 t418 _ A5.out).mono ?_
   rintro e w' ⟨rfl, ⟨nd, rfl⟩⟩
   refine ⟨_, rfl, ?_⟩
   refine hK.out _ _ (c12 BK413.out) (fun hHeld => ?_)
   clear hK K
   refine norm_ (a' := ?_) ?_ ?_
   rotate_left
   ·show Act.put _ (some 23) _ = _
    simp only [Act.put, List.setIfInBounds_toArray, List.set_cons_zero, List.set_cons_succ, i64_w, i32_w]
    rfl
   refine two_ (i := 6) (j := 9) (Ni := some 26) (Nj := some 7) #[true, true, true, true, true, true, true, false, false, false, false] #[true, true, true, true, true, true, false, false, false, true, false] rfl rfl rfl rfl (two_of HT_.out (by kernel_rfl)) (by decide) (by decide) (fun K hK => ?_) (fun K hK => ?_)
   ·skip
    refine goes_ Try.func53 (by kernel_rfl) rfl #[.agg #[.int .i64 a0_0, .int .i64 a0_1, .int .i64 a0_2, .int .i64 a0_3, .int .i64 a0_4, .int .i64 a0_5, .int .i64 a0_6, .int .i64 a0_7, .int .i64 a0_8, .int .i64 a0_9, .int .i64 a0_10, .int .i64 a0_11]] (by rfl) rfl rfl (by (try simp only [List.map_toArray, List.map_cons, List.map_nil]); first | done | rfl | (simp only [List.length_drop, List.length_take]; rfl)) ?_
    with_reducible refine (probe_least.calls k a0_0 a0_1 a0_2 a0_3 a0_4 a0_5 a0_6 a0_7 a0_8 a0_9 a0_10 a0_11 t419 _ A6.out).mono ?_
    rintro e w22 ⟨rfl, hb⟩
    refine ⟨_, rfl, ?_⟩
    have n0_ := Aside0.mk (blk_below (by with_reducible repeat first | exact BK413.out | apply bN) hb)
    have n1_ := Aside0.mk (blk_below (by with_reducible repeat first | exact BK414.out | apply bN) hb)
    have n2_ := Aside0.mk (blk_below (by with_reducible repeat first | exact BK415.out | apply bN) hb)
    have n3_ := Aside0.mk (below_step (by with_reducible repeat first | exact HB.out | apply pw_below_drewN) hb)
    clear BK413 BK414 BK415 HB
    have BK413 := n0_
    have BK414 := n1_
    have BK415 := n2_
    have HB := n3_
    clear n0_ n1_ n2_ n3_
    (try clear hb)
    (try clear hb2)
    (try clear hk)
    (try clear hi)
    refine hK.out _ _ (c12 BK413.out) (fun hHeld => ?_)
    clear hK K
    refine norm_ (a' := ?_) ?_ ?_
    rotate_left
    ·show Act.put _ (some 26) _ = _
     simp only [Act.put, List.setIfInBounds_toArray, List.set_cons_zero, List.set_cons_succ, i64_w, i32_w]
     rfl
    refine two_ (i := 7) (j := 9) (Ni := some 27) (Nj := some 7) #[true, true, true, true, true, true, true, true, false, false, false] #[true, true, true, true, true, true, true, false, false, true, false] rfl rfl rfl rfl (two_of HT_.out (by kernel_rfl)) (by decide) (by decide) (fun K hK => ?_) (fun K hK => ?_)
    ·skip
     refine goes_ Try.func40 (by kernel_rfl) rfl #[.int .i64 t416, .int .i64 t419] (by rfl) rfl rfl (by (try simp only [List.map_toArray, List.map_cons, List.map_nil]); first | done | rfl | (simp only [List.length_drop, List.length_take]; rfl)) ?_
     with_reducible refine (sat_Sub.calls k t416 t419 t420 _ A7.out).mono ?_
     rintro e w' ⟨rfl, ⟨nd, rfl⟩⟩
     refine ⟨_, rfl, ?_⟩
     refine hK.out _ _ (c12 BK413.out) (fun hHeld => ?_)
     clear hK K
     refine norm_ (a' := ?_) ?_ ?_
     rotate_left
     ·show Act.put _ (some 27) _ = _
      simp only [Act.put, List.setIfInBounds_toArray, List.set_cons_zero, List.set_cons_succ, i64_w, i32_w]
      rfl
     refine pure_ (i := 8) (N := some 28) (v := ?_) (a' := ?_) #[true, true, true, true, true, true, true, true, true, false, false] rfl rfl (any_of HT_.out (by kernel_rfl)) (fun _ _ _ h => h) (Or.inl ⟨by rfl, ?_⟩) ?_ ?_
     rotate_left
     ·intro w'
      go_simp
      with_reducible rfl
     rotate_left
     ·simp only [Act.put, List.setIfInBounds_toArray, List.set_cons_zero, List.set_cons_succ, i64_w, i32_w]
      rfl
     refine one_ (i := 9) (N := some 7) #[true, true, true, true, true, true, true, true, true, true, false] rfl rfl (one_of HT_.out (by kernel_rfl)) (by decide) (fun K hK => ?_)
     refine box_step ?hg (N := 7) ?hd (cs := #[.int .i64 0, .int .i64 0]) (t := 25) ?hr ?_; (case hd => rfl); (case hg => rfl); (case hr => first | (go_simp; done) | (go_simp; rfl))
     intro gb421 hg w23 hbox hb
     have n0_ := Aside0.mk (blk_below (by with_reducible repeat first | exact BK413.out | apply bN) hb)
     have n1_ := Aside0.mk (blk_below (by with_reducible repeat first | exact BK414.out | apply bN) hb)
     have n2_ := Aside0.mk (blk_below (by with_reducible repeat first | exact BK415.out | apply bN) hb)
     have n3_ := Aside0.mk (below_step (by with_reducible repeat first | exact HB.out | apply pw_below_drewN) hb)
     have n4_ := Aside0.mk (hbox)
     have n5_ := Aside0.mk ((by rw [hg]; exact (below_size (by with_reducible repeat first | exact HB.out | apply pw_below_drewN)) : w.heap.size ≤ gb421))
     have n6_ := Aside0.mk ((by rw [hg]; exact (below_size (by with_reducible repeat first | exact HB.out | apply pw_below_drewN)) : w.heap.size ≤ gb421))
     have n7_ := Aside0.mk ((by rw [hg]; exact Nat.ne_of_lt (blk_lt (by with_reducible repeat first | exact BK413.out | apply bN)) : gb413 ≠ gb421))
     have n8_ := Aside0.mk ((by rw [hg]; exact Nat.ne_of_gt (blk_lt (by with_reducible repeat first | exact BK413.out | apply bN)) : gb421 ≠ gb413))
     have n9_ := Aside0.mk ((by rw [hg]; exact Nat.ne_of_lt (blk_lt (by with_reducible repeat first | exact BK414.out | apply bN)) : gb414 ≠ gb421))
     have n10_ := Aside0.mk ((by rw [hg]; exact Nat.ne_of_gt (blk_lt (by with_reducible repeat first | exact BK414.out | apply bN)) : gb421 ≠ gb414))
     have n11_ := Aside0.mk ((by rw [hg]; exact Nat.ne_of_lt (blk_lt (by with_reducible repeat first | exact BK415.out | apply bN)) : gb415 ≠ gb421))
     have n12_ := Aside0.mk ((by rw [hg]; exact Nat.ne_of_gt (blk_lt (by with_reducible repeat first | exact BK415.out | apply bN)) : gb421 ≠ gb415))
     clear BK413 BK414 BK415 HB
     have BK413 := n0_
     have BK414 := n1_
     have BK415 := n2_
     have HB := n3_
     have BK421 := n4_
     have GW421 := n5_
     have GE421 := n6_
     have NB413_421 := n7_
     have NB421_413 := n8_
     have NB414_421 := n9_
     have NB421_414 := n10_
     have NB415_421 := n11_
     have NB421_415 := n12_
     clear n0_ n1_ n2_ n3_ n4_ n5_ n6_ n7_ n8_ n9_ n10_ n11_ n12_ hb hbox hg
     refine hK.out _ _ (c12 BK413.out) (fun hHeld => ?_)
     clear hK K
     refine norm_ (a' := ?_) ?_ ?_
     rotate_left
     ·show Act.put _ (some 7) _ = _
      simp only [Act.put, List.setIfInBounds_toArray, List.set_cons_zero, List.set_cons_succ, i64_w, i32_w]
      rfl
     exact norm_ (by simp only [putAll, Act.put, List.setIfInBounds_toArray, List.set_cons_zero, List.set_cons_succ]) (hCont (gb421) _ ⟨hHeld, (by with_reducible repeat first | exact BK413.out | apply bN), (by with_reducible repeat first | exact BK414.out | apply bN), (by with_reducible repeat first | exact BK415.out | apply bN), (by with_reducible repeat first | exact BK421.out | apply bN), GW421.out, GE421.out, NB413_421.out, NB421_413.out, NB414_421.out, NB421_414.out, NB415_421.out, NB421_415.out, (by repeat (first | (with_reducible first | exact HB.out | apply below_alloc | apply pw_below_drewN | apply below_drew1 | refine below_set ?_ GE413.out | refine below_set ?_ GE414.out | refine below_set ?_ GE415.out | refine below_set ?_ GE421.out) | exact HB.out))⟩)
    ·skip
     refine box_step ?hg (N := 7) ?hd (cs := #[.int .i64 0, .int .i64 0]) (t := 25) ?hr ?_; (case hd => rfl); (case hg => rfl); (case hr => first | (go_simp; done) | (go_simp; rfl))
     intro gb421 hg w23 hbox hb
     have n0_ := Aside0.mk (blk_below (by with_reducible repeat first | exact BK413.out | apply bN) hb)
     have n1_ := Aside0.mk (blk_below (by with_reducible repeat first | exact BK414.out | apply bN) hb)
     have n2_ := Aside0.mk (blk_below (by with_reducible repeat first | exact BK415.out | apply bN) hb)
     have n3_ := Aside0.mk (below_step (by with_reducible repeat first | exact HB.out | apply pw_below_drewN) hb)
     have n4_ := Aside0.mk (hbox)
     have n5_ := Aside0.mk ((by rw [hg]; exact (below_size (by with_reducible repeat first | exact HB.out | apply pw_below_drewN)) : w.heap.size ≤ gb421))
     have n6_ := Aside0.mk ((by rw [hg]; exact (below_size (by with_reducible repeat first | exact HB.out | apply pw_below_drewN)) : w.heap.size ≤ gb421))
     have n7_ := Aside0.mk ((by rw [hg]; exact Nat.ne_of_lt (blk_lt (by with_reducible repeat first | exact BK413.out | apply bN)) : gb413 ≠ gb421))
     have n8_ := Aside0.mk ((by rw [hg]; exact Nat.ne_of_gt (blk_lt (by with_reducible repeat first | exact BK413.out | apply bN)) : gb421 ≠ gb413))
     have n9_ := Aside0.mk ((by rw [hg]; exact Nat.ne_of_lt (blk_lt (by with_reducible repeat first | exact BK414.out | apply bN)) : gb414 ≠ gb421))
     have n10_ := Aside0.mk ((by rw [hg]; exact Nat.ne_of_gt (blk_lt (by with_reducible repeat first | exact BK414.out | apply bN)) : gb421 ≠ gb414))
     have n11_ := Aside0.mk ((by rw [hg]; exact Nat.ne_of_lt (blk_lt (by with_reducible repeat first | exact BK415.out | apply bN)) : gb415 ≠ gb421))
     have n12_ := Aside0.mk ((by rw [hg]; exact Nat.ne_of_gt (blk_lt (by with_reducible repeat first | exact BK415.out | apply bN)) : gb421 ≠ gb415))
     clear BK413 BK414 BK415 HB
     have BK413 := n0_
     have BK414 := n1_
     have BK415 := n2_
     have HB := n3_
     have BK421 := n4_
     have GW421 := n5_
     have GE421 := n6_
     have NB413_421 := n7_
     have NB421_413 := n8_
     have NB414_421 := n9_
     have NB421_414 := n10_
     have NB415_421 := n11_
     have NB421_415 := n12_
     clear n0_ n1_ n2_ n3_ n4_ n5_ n6_ n7_ n8_ n9_ n10_ n11_ n12_ hb hbox hg
     refine hK.out _ _ (c12 BK413.out) (fun hHeld => ?_)
     clear hK K
     refine norm_ (a' := ?_) ?_ ?_
     rotate_left
     ·show Act.put _ (some 7) _ = _
      simp only [Act.put, List.setIfInBounds_toArray, List.set_cons_zero, List.set_cons_succ, i64_w, i32_w]
      rfl
     refine one_ (i := 7) (N := some 27) #[true, true, true, true, true, true, true, true, false, true, false] rfl rfl (one_of HT_.out (by kernel_rfl)) (by decide) (fun K hK => ?_)
     refine goes_ Try.func40 (by kernel_rfl) rfl #[.int .i64 t416, .int .i64 t419] (by rfl) rfl rfl (by (try simp only [List.map_toArray, List.map_cons, List.map_nil]); first | done | rfl | (simp only [List.length_drop, List.length_take]; rfl)) ?_
     with_reducible refine (sat_Sub.calls k t416 t419 t420 _ A7.out).mono ?_
     rintro e w' ⟨rfl, ⟨nd, rfl⟩⟩
     refine ⟨_, rfl, ?_⟩
     refine hK.out _ _ (c12 BK413.out) (fun hHeld => ?_)
     clear hK K
     refine norm_ (a' := ?_) ?_ ?_
     rotate_left
     ·show Act.put _ (some 27) _ = _
      simp only [Act.put, List.setIfInBounds_toArray, List.set_cons_zero, List.set_cons_succ, i64_w, i32_w]
      rfl
     refine pure_ (i := 8) (N := some 28) (v := ?_) (a' := ?_) #[true, true, true, true, true, true, true, true, true, true, false] rfl rfl (any_of HT_.out (by kernel_rfl)) (fun _ _ _ h => h) (Or.inl ⟨by rfl, ?_⟩) ?_ ?_
     rotate_left
     ·intro w'
      go_simp
      with_reducible rfl
     rotate_left
     ·simp only [Act.put, List.setIfInBounds_toArray, List.set_cons_zero, List.set_cons_succ, i64_w, i32_w]
      rfl
     exact norm_ (by simp only [putAll, Act.put, List.setIfInBounds_toArray, List.set_cons_zero, List.set_cons_succ]) (hCont (gb421) _ ⟨hHeld, (by with_reducible repeat first | exact BK413.out | apply bN), (by with_reducible repeat first | exact BK414.out | apply bN), (by with_reducible repeat first | exact BK415.out | apply bN), (by with_reducible repeat first | exact BK421.out | apply bN), GW421.out, GE421.out, NB413_421.out, NB421_413.out, NB414_421.out, NB421_414.out, NB415_421.out, NB421_415.out, (by repeat (first | (with_reducible first | exact HB.out | apply below_alloc | apply pw_below_drewN | apply below_drew1 | refine below_set ?_ GE413.out | refine below_set ?_ GE414.out | refine below_set ?_ GE415.out | refine below_set ?_ GE421.out) | exact HB.out))⟩)
   ·skip
    refine box_step ?hg (N := 7) ?hd (cs := #[.int .i64 0, .int .i64 0]) (t := 25) ?hr ?_; (case hd => rfl); (case hg => rfl); (case hr => first | (go_simp; done) | (go_simp; rfl))
    intro gb421 hg w22 hbox hb
    have n0_ := Aside0.mk (blk_below (by with_reducible repeat first | exact BK413.out | apply bN) hb)
    have n1_ := Aside0.mk (blk_below (by with_reducible repeat first | exact BK414.out | apply bN) hb)
    have n2_ := Aside0.mk (blk_below (by with_reducible repeat first | exact BK415.out | apply bN) hb)
    have n3_ := Aside0.mk (below_step (by with_reducible repeat first | exact HB.out | apply pw_below_drewN) hb)
    have n4_ := Aside0.mk (hbox)
    have n5_ := Aside0.mk ((by rw [hg]; exact (below_size (by with_reducible repeat first | exact HB.out | apply pw_below_drewN)) : w.heap.size ≤ gb421))
    have n6_ := Aside0.mk ((by rw [hg]; exact (below_size (by with_reducible repeat first | exact HB.out | apply pw_below_drewN)) : w.heap.size ≤ gb421))
    have n7_ := Aside0.mk ((by rw [hg]; exact Nat.ne_of_lt (blk_lt (by with_reducible repeat first | exact BK413.out | apply bN)) : gb413 ≠ gb421))
    have n8_ := Aside0.mk ((by rw [hg]; exact Nat.ne_of_gt (blk_lt (by with_reducible repeat first | exact BK413.out | apply bN)) : gb421 ≠ gb413))
    have n9_ := Aside0.mk ((by rw [hg]; exact Nat.ne_of_lt (blk_lt (by with_reducible repeat first | exact BK414.out | apply bN)) : gb414 ≠ gb421))
    have n10_ := Aside0.mk ((by rw [hg]; exact Nat.ne_of_gt (blk_lt (by with_reducible repeat first | exact BK414.out | apply bN)) : gb421 ≠ gb414))
    have n11_ := Aside0.mk ((by rw [hg]; exact Nat.ne_of_lt (blk_lt (by with_reducible repeat first | exact BK415.out | apply bN)) : gb415 ≠ gb421))
    have n12_ := Aside0.mk ((by rw [hg]; exact Nat.ne_of_gt (blk_lt (by with_reducible repeat first | exact BK415.out | apply bN)) : gb421 ≠ gb415))
    clear BK413 BK414 BK415 HB
    have BK413 := n0_
    have BK414 := n1_
    have BK415 := n2_
    have HB := n3_
    have BK421 := n4_
    have GW421 := n5_
    have GE421 := n6_
    have NB413_421 := n7_
    have NB421_413 := n8_
    have NB414_421 := n9_
    have NB421_414 := n10_
    have NB415_421 := n11_
    have NB421_415 := n12_
    clear n0_ n1_ n2_ n3_ n4_ n5_ n6_ n7_ n8_ n9_ n10_ n11_ n12_ hb hbox hg
    refine hK.out _ _ (c12 BK413.out) (fun hHeld => ?_)
    clear hK K
    refine norm_ (a' := ?_) ?_ ?_
    rotate_left
    ·show Act.put _ (some 7) _ = _
     simp only [Act.put, List.setIfInBounds_toArray, List.set_cons_zero, List.set_cons_succ, i64_w, i32_w]
     rfl
    refine one_ (i := 6) (N := some 26) #[true, true, true, true, true, true, true, false, false, true, false] rfl rfl (one_of HT_.out (by kernel_rfl)) (by decide) (fun K hK => ?_)
    refine goes_ Try.func53 (by kernel_rfl) rfl #[.agg #[.int .i64 a0_0, .int .i64 a0_1, .int .i64 a0_2, .int .i64 a0_3, .int .i64 a0_4, .int .i64 a0_5, .int .i64 a0_6, .int .i64 a0_7, .int .i64 a0_8, .int .i64 a0_9, .int .i64 a0_10, .int .i64 a0_11]] (by rfl) rfl rfl (by (try simp only [List.map_toArray, List.map_cons, List.map_nil]); first | done | rfl | (simp only [List.length_drop, List.length_take]; rfl)) ?_
    with_reducible refine (probe_least.calls k a0_0 a0_1 a0_2 a0_3 a0_4 a0_5 a0_6 a0_7 a0_8 a0_9 a0_10 a0_11 t419 _ A6.out).mono ?_
    rintro e w23 ⟨rfl, hb⟩
    refine ⟨_, rfl, ?_⟩
    have n0_ := Aside0.mk (blk_below (by with_reducible repeat first | exact BK413.out | apply bN) hb)
    have n1_ := Aside0.mk (blk_below (by with_reducible repeat first | exact BK414.out | apply bN) hb)
    have n2_ := Aside0.mk (blk_below (by with_reducible repeat first | exact BK415.out | apply bN) hb)
    have n3_ := Aside0.mk (blk_below (by with_reducible repeat first | exact BK421.out | apply bN) hb)
    have n4_ := Aside0.mk (below_step (by with_reducible repeat first | exact HB.out | apply pw_below_drewN) hb)
    clear BK413 BK414 BK415 BK421 HB
    have BK413 := n0_
    have BK414 := n1_
    have BK415 := n2_
    have BK421 := n3_
    have HB := n4_
    clear n0_ n1_ n2_ n3_ n4_
    (try clear hb)
    (try clear hb2)
    (try clear hk)
    (try clear hi)
    refine hK.out _ _ (c12 BK413.out) (fun hHeld => ?_)
    clear hK K
    refine norm_ (a' := ?_) ?_ ?_
    rotate_left
    ·show Act.put _ (some 26) _ = _
     simp only [Act.put, List.setIfInBounds_toArray, List.set_cons_zero, List.set_cons_succ, i64_w, i32_w]
     rfl
    refine one_ (i := 7) (N := some 27) #[true, true, true, true, true, true, true, true, false, true, false] rfl rfl (one_of HT_.out (by kernel_rfl)) (by decide) (fun K hK => ?_)
    refine goes_ Try.func40 (by kernel_rfl) rfl #[.int .i64 t416, .int .i64 t419] (by rfl) rfl rfl (by (try simp only [List.map_toArray, List.map_cons, List.map_nil]); first | done | rfl | (simp only [List.length_drop, List.length_take]; rfl)) ?_
    with_reducible refine (sat_Sub.calls k t416 t419 t420 _ A7.out).mono ?_
    rintro e w' ⟨rfl, ⟨nd, rfl⟩⟩
    refine ⟨_, rfl, ?_⟩
    refine hK.out _ _ (c12 BK413.out) (fun hHeld => ?_)
    clear hK K
    refine norm_ (a' := ?_) ?_ ?_
    rotate_left
    ·show Act.put _ (some 27) _ = _
     simp only [Act.put, List.setIfInBounds_toArray, List.set_cons_zero, List.set_cons_succ, i64_w, i32_w]
     rfl
    refine pure_ (i := 8) (N := some 28) (v := ?_) (a' := ?_) #[true, true, true, true, true, true, true, true, true, true, false] rfl rfl (any_of HT_.out (by kernel_rfl)) (fun _ _ _ h => h) (Or.inl ⟨by rfl, ?_⟩) ?_ ?_
    rotate_left
    ·intro w'
     go_simp
     with_reducible rfl
    rotate_left
    ·simp only [Act.put, List.setIfInBounds_toArray, List.set_cons_zero, List.set_cons_succ, i64_w, i32_w]
     rfl
    exact norm_ (by simp only [putAll, Act.put, List.setIfInBounds_toArray, List.set_cons_zero, List.set_cons_succ]) (hCont (gb421) _ ⟨hHeld, (by with_reducible repeat first | exact BK413.out | apply bN), (by with_reducible repeat first | exact BK414.out | apply bN), (by with_reducible repeat first | exact BK415.out | apply bN), (by with_reducible repeat first | exact BK421.out | apply bN), GW421.out, GE421.out, NB413_421.out, NB421_413.out, NB414_421.out, NB421_414.out, NB415_421.out, NB421_415.out, (by repeat (first | (with_reducible first | exact HB.out | apply below_alloc | apply pw_below_drewN | apply below_drew1 | refine below_set ?_ GE413.out | refine below_set ?_ GE414.out | refine below_set ?_ GE415.out | refine below_set ?_ GE421.out) | exact HB.out))⟩)
  ·skip
   refine box_step ?hg (N := 7) ?hd (cs := #[.int .i64 0, .int .i64 0]) (t := 25) ?hr ?_; (case hd => rfl); (case hg => rfl); (case hr => first | (go_simp; done) | (go_simp; rfl))
   intro gb421 hg w22 hbox hb
   have n0_ := Aside0.mk (blk_below (by with_reducible repeat first | exact BK413.out | apply bN) hb)
   have n1_ := Aside0.mk (blk_below (by with_reducible repeat first | exact BK414.out | apply bN) hb)
   have n2_ := Aside0.mk (blk_below (by with_reducible repeat first | exact BK415.out | apply bN) hb)
   have n3_ := Aside0.mk (below_step (by with_reducible repeat first | exact HB.out | apply pw_below_drewN) hb)
   have n4_ := Aside0.mk (hbox)
   have n5_ := Aside0.mk ((by rw [hg]; exact (below_size (by with_reducible repeat first | exact HB.out | apply pw_below_drewN)) : w.heap.size ≤ gb421))
   have n6_ := Aside0.mk ((by rw [hg]; exact (below_size (by with_reducible repeat first | exact HB.out | apply pw_below_drewN)) : w.heap.size ≤ gb421))
   have n7_ := Aside0.mk ((by rw [hg]; exact Nat.ne_of_lt (blk_lt (by with_reducible repeat first | exact BK413.out | apply bN)) : gb413 ≠ gb421))
   have n8_ := Aside0.mk ((by rw [hg]; exact Nat.ne_of_gt (blk_lt (by with_reducible repeat first | exact BK413.out | apply bN)) : gb421 ≠ gb413))
   have n9_ := Aside0.mk ((by rw [hg]; exact Nat.ne_of_lt (blk_lt (by with_reducible repeat first | exact BK414.out | apply bN)) : gb414 ≠ gb421))
   have n10_ := Aside0.mk ((by rw [hg]; exact Nat.ne_of_gt (blk_lt (by with_reducible repeat first | exact BK414.out | apply bN)) : gb421 ≠ gb414))
   have n11_ := Aside0.mk ((by rw [hg]; exact Nat.ne_of_lt (blk_lt (by with_reducible repeat first | exact BK415.out | apply bN)) : gb415 ≠ gb421))
   have n12_ := Aside0.mk ((by rw [hg]; exact Nat.ne_of_gt (blk_lt (by with_reducible repeat first | exact BK415.out | apply bN)) : gb421 ≠ gb415))
   clear BK413 BK414 BK415 HB
   have BK413 := n0_
   have BK414 := n1_
   have BK415 := n2_
   have HB := n3_
   have BK421 := n4_
   have GW421 := n5_
   have GE421 := n6_
   have NB413_421 := n7_
   have NB421_413 := n8_
   have NB414_421 := n9_
   have NB421_414 := n10_
   have NB415_421 := n11_
   have NB421_415 := n12_
   clear n0_ n1_ n2_ n3_ n4_ n5_ n6_ n7_ n8_ n9_ n10_ n11_ n12_ hb hbox hg
   refine hK.out _ _ (c12 BK413.out) (fun hHeld => ?_)
   clear hK K
   refine norm_ (a' := ?_) ?_ ?_
   rotate_left
   ·show Act.put _ (some 7) _ = _
    simp only [Act.put, List.setIfInBounds_toArray, List.set_cons_zero, List.set_cons_succ, i64_w, i32_w]
    rfl
   refine one_ (i := 3) (N := some 23) #[true, true, true, true, true, true, false, false, false, true, false] rfl rfl (one_of HT_.out (by kernel_rfl)) (by decide) (fun K hK => ?_)
   refine goes_ Try.func40 (by kernel_rfl) rfl #[.int .i64 t416, .int .i64 a0_5] (by rfl) rfl rfl (by (try simp only [List.map_toArray, List.map_cons, List.map_nil]); first | done | rfl | (simp only [List.length_drop, List.length_take]; rfl)) ?_
   with_reducible refine (sat_Sub.calls k t416 a0_5 t418 _ A5.out).mono ?_
   rintro e w' ⟨rfl, ⟨nd, rfl⟩⟩
   refine ⟨_, rfl, ?_⟩
   refine hK.out _ _ (c12 BK413.out) (fun hHeld => ?_)
   clear hK K
   refine norm_ (a' := ?_) ?_ ?_
   rotate_left
   ·show Act.put _ (some 23) _ = _
    simp only [Act.put, List.setIfInBounds_toArray, List.set_cons_zero, List.set_cons_succ, i64_w, i32_w]
    rfl
   refine one_ (i := 6) (N := some 26) #[true, true, true, true, true, true, true, false, false, true, false] rfl rfl (one_of HT_.out (by kernel_rfl)) (by decide) (fun K hK => ?_)
   refine goes_ Try.func53 (by kernel_rfl) rfl #[.agg #[.int .i64 a0_0, .int .i64 a0_1, .int .i64 a0_2, .int .i64 a0_3, .int .i64 a0_4, .int .i64 a0_5, .int .i64 a0_6, .int .i64 a0_7, .int .i64 a0_8, .int .i64 a0_9, .int .i64 a0_10, .int .i64 a0_11]] (by rfl) rfl rfl (by (try simp only [List.map_toArray, List.map_cons, List.map_nil]); first | done | rfl | (simp only [List.length_drop, List.length_take]; rfl)) ?_
   with_reducible refine (probe_least.calls k a0_0 a0_1 a0_2 a0_3 a0_4 a0_5 a0_6 a0_7 a0_8 a0_9 a0_10 a0_11 t419 _ A6.out).mono ?_
   rintro e w23 ⟨rfl, hb⟩
   refine ⟨_, rfl, ?_⟩
   have n0_ := Aside0.mk (blk_below (by with_reducible repeat first | exact BK413.out | apply bN) hb)
   have n1_ := Aside0.mk (blk_below (by with_reducible repeat first | exact BK414.out | apply bN) hb)
   have n2_ := Aside0.mk (blk_below (by with_reducible repeat first | exact BK415.out | apply bN) hb)
   have n3_ := Aside0.mk (blk_below (by with_reducible repeat first | exact BK421.out | apply bN) hb)
   have n4_ := Aside0.mk (below_step (by with_reducible repeat first | exact HB.out | apply pw_below_drewN) hb)
   clear BK413 BK414 BK415 BK421 HB
   have BK413 := n0_
   have BK414 := n1_
   have BK415 := n2_
   have BK421 := n3_
   have HB := n4_
   clear n0_ n1_ n2_ n3_ n4_
   (try clear hb)
   (try clear hb2)
   (try clear hk)
   (try clear hi)
   refine hK.out _ _ (c12 BK413.out) (fun hHeld => ?_)
   clear hK K
   refine norm_ (a' := ?_) ?_ ?_
   rotate_left
   ·show Act.put _ (some 26) _ = _
    simp only [Act.put, List.setIfInBounds_toArray, List.set_cons_zero, List.set_cons_succ, i64_w, i32_w]
    rfl
   refine one_ (i := 7) (N := some 27) #[true, true, true, true, true, true, true, true, false, true, false] rfl rfl (one_of HT_.out (by kernel_rfl)) (by decide) (fun K hK => ?_)
   refine goes_ Try.func40 (by kernel_rfl) rfl #[.int .i64 t416, .int .i64 t419] (by rfl) rfl rfl (by (try simp only [List.map_toArray, List.map_cons, List.map_nil]); first | done | rfl | (simp only [List.length_drop, List.length_take]; rfl)) ?_
   with_reducible refine (sat_Sub.calls k t416 t419 t420 _ A7.out).mono ?_
   rintro e w' ⟨rfl, ⟨nd, rfl⟩⟩
   refine ⟨_, rfl, ?_⟩
   refine hK.out _ _ (c12 BK413.out) (fun hHeld => ?_)
   clear hK K
   refine norm_ (a' := ?_) ?_ ?_
   rotate_left
   ·show Act.put _ (some 27) _ = _
    simp only [Act.put, List.setIfInBounds_toArray, List.set_cons_zero, List.set_cons_succ, i64_w, i32_w]
    rfl
   refine pure_ (i := 8) (N := some 28) (v := ?_) (a' := ?_) #[true, true, true, true, true, true, true, true, true, true, false] rfl rfl (any_of HT_.out (by kernel_rfl)) (fun _ _ _ h => h) (Or.inl ⟨by rfl, ?_⟩) ?_ ?_
   rotate_left
   ·intro w'
    go_simp
    with_reducible rfl
   rotate_left
   ·simp only [Act.put, List.setIfInBounds_toArray, List.set_cons_zero, List.set_cons_succ, i64_w, i32_w]
    rfl
   exact norm_ (by simp only [putAll, Act.put, List.setIfInBounds_toArray, List.set_cons_zero, List.set_cons_succ]) (hCont (gb421) _ ⟨hHeld, (by with_reducible repeat first | exact BK413.out | apply bN), (by with_reducible repeat first | exact BK414.out | apply bN), (by with_reducible repeat first | exact BK415.out | apply bN), (by with_reducible repeat first | exact BK421.out | apply bN), GW421.out, GE421.out, NB413_421.out, NB421_413.out, NB414_421.out, NB421_414.out, NB415_421.out, NB421_415.out, (by repeat (first | (with_reducible first | exact HB.out | apply below_alloc | apply pw_below_drewN | apply below_drew1 | refine below_set ?_ GE413.out | refine below_set ?_ GE414.out | refine below_set ?_ GE415.out | refine below_set ?_ GE421.out) | exact HB.out))⟩)
 rintro gb421 w24 ⟨hS_, h0_, h1_, h2_, h3_, h4_, h5_, h6_, h7_, h8_, h9_, h10_, h11_, h12_⟩
 have n0_ : Aside0 (w24.heap[gb413]? = some (.cells #[.int .i64 a0_0, .int .i64 a0_1, .int .i64 a0_2, .int .i64 a0_3, .int .i64 a0_4, .int .i64 a0_5, .int .i64 a0_6, .int .i64 a0_7, .int .i64 a0_8, .int .i64 a0_9, .int .i64 a0_10, .int .i64 a0_11] 23 (0, 0))) := ⟨h0_⟩
 have n1_ : Aside0 (w24.heap[gb414]? = some (.cells #[.int .i64 a1_0, .int .i64 a1_1, .int .i64 a1_2, .int .i64 a1_3] 57 (0, 0))) := ⟨h1_⟩
 have n2_ : Aside0 (w24.heap[gb415]? = some (.cells #[.int .i64 0, .int .i64 0] 25 (0, 0))) := ⟨h2_⟩
 have n3_ : Aside0 (w24.heap[gb421]? = some (.cells #[.int .i64 0, .int .i64 0] 25 (0, 0))) := ⟨h3_⟩
 have n4_ : Aside0 (w.heap.size ≤ gb421) := ⟨h4_⟩
 have n5_ : Aside0 (w.heap.size ≤ gb421) := ⟨h5_⟩
 have n6_ : Aside0 (gb413 ≠ gb421) := ⟨h6_⟩
 have n7_ : Aside0 (gb421 ≠ gb413) := ⟨h7_⟩
 have n8_ : Aside0 (gb414 ≠ gb421) := ⟨h8_⟩
 have n9_ : Aside0 (gb421 ≠ gb414) := ⟨h9_⟩
 have n10_ : Aside0 (gb415 ≠ gb421) := ⟨h10_⟩
 have n11_ : Aside0 (gb421 ≠ gb415) := ⟨h11_⟩
 have n12_ : Aside0 (Below w.heap.size w w24) := ⟨h12_⟩
 clear BK413 BK414 BK415 HB h0_ h1_ h2_ h3_ h4_ h5_ h6_ h7_ h8_ h9_ h10_ h11_ h12_
 have BK413 := n0_
 have BK414 := n1_
 have BK415 := n2_
 have BK421 := n3_
 have GW421 := n4_
 have GE421 := n5_
 have NB413_421 := n6_
 have NB421_413 := n7_
 have NB414_421 := n8_
 have NB421_414 := n9_
 have NB415_421 := n10_
 have NB421_415 := n11_
 have HB := n12_
 clear n0_ n1_ n2_ n3_ n4_ n5_ n6_ n7_ n8_ n9_ n10_ n11_ n12_
 have hHeld := hS_
 try dsimp only at hHeld
 refine norm_ (a' := ?_) ?_ ?_
 rotate_left
 ·simp only [putAll, Act.put, List.setIfInBounds_toArray, List.set_cons_zero, List.set_cons_succ]
  rfl
 refine one_ (i := 10) (N := none) #[true, true, true, true, true, true, true, true, true, true, true] rfl rfl (one_of HT_.out (by kernel_rfl)) (by decide) (fun K hK => ?_)
 have hs25 : w24.cell? ⟨gb421, 0, none⟩ = some (.int .i64 0) := (blk_cell BK421.out 0).trans rfl
 have hfs25 := blk_frozen BK421.out 0
 have hns25_0 := NB413_421.out
 have hns25_1 := NB414_421.out
 have hns25_2 := NB415_421.out
 have hms25_0 := NB421_413.out
 have hms25_1 := NB421_414.out
 have hms25_2 := NB421_415.out
 have hs26 : w24.cell? ⟨gb421, 1, none⟩ = some (.int .i64 0) := (blk_cell BK421.out 1).trans rfl
 have hfs26 := blk_frozen BK421.out 1
 have hns26_0 := NB413_421.out
 have hns26_1 := NB414_421.out
 have hns26_2 := NB415_421.out
 have hms26_0 := NB421_413.out
 have hms26_1 := NB421_414.out
 have hms26_2 := NB421_415.out
 refine skip_ (w1 := ?_) (by rfl) rfl ?_ ?_
 rotate_left
 ·go_simp
  rfl
 refine hK.out _ _ ⟨((cell_far (p := ⟨gb421, _, none⟩) NB413_421.out _).trans (((cell_far (p := ⟨gb421, _, none⟩) NB413_421.out _).trans (hHeld.1)))), ((cell_far (p := ⟨gb421, _, none⟩) NB413_421.out _).trans (((cell_far (p := ⟨gb421, _, none⟩) NB413_421.out _).trans (hHeld.2.1)))), ((cell_far (p := ⟨gb421, _, none⟩) NB413_421.out _).trans (((cell_far (p := ⟨gb421, _, none⟩) NB413_421.out _).trans (hHeld.2.2.1)))), ((cell_far (p := ⟨gb421, _, none⟩) NB413_421.out _).trans (((cell_far (p := ⟨gb421, _, none⟩) NB413_421.out _).trans (hHeld.2.2.2.1)))), ((cell_far (p := ⟨gb421, _, none⟩) NB413_421.out _).trans (((cell_far (p := ⟨gb421, _, none⟩) NB413_421.out _).trans (hHeld.2.2.2.2.1)))), ((cell_far (p := ⟨gb421, _, none⟩) NB413_421.out _).trans (((cell_far (p := ⟨gb421, _, none⟩) NB413_421.out _).trans (hHeld.2.2.2.2.2.1)))), ((cell_far (p := ⟨gb421, _, none⟩) NB413_421.out _).trans (((cell_far (p := ⟨gb421, _, none⟩) NB413_421.out _).trans (hHeld.2.2.2.2.2.2.1)))), ((cell_far (p := ⟨gb421, _, none⟩) NB413_421.out _).trans (((cell_far (p := ⟨gb421, _, none⟩) NB413_421.out _).trans (hHeld.2.2.2.2.2.2.2.1)))), ((cell_far (p := ⟨gb421, _, none⟩) NB413_421.out _).trans (((cell_far (p := ⟨gb421, _, none⟩) NB413_421.out _).trans (hHeld.2.2.2.2.2.2.2.2.1)))), ((cell_far (p := ⟨gb421, _, none⟩) NB413_421.out _).trans (((cell_far (p := ⟨gb421, _, none⟩) NB413_421.out _).trans (hHeld.2.2.2.2.2.2.2.2.2.1)))), ((cell_far (p := ⟨gb421, _, none⟩) NB413_421.out _).trans (((cell_far (p := ⟨gb421, _, none⟩) NB413_421.out _).trans (hHeld.2.2.2.2.2.2.2.2.2.2.1)))), ((cell_far (p := ⟨gb421, _, none⟩) NB413_421.out _).trans (((cell_far (p := ⟨gb421, _, none⟩) NB413_421.out _).trans (hHeld.2.2.2.2.2.2.2.2.2.2.2))))⟩ (fun hHeld => ?_)
 clear hK K
 refine done_ (done_of HT_.out (by kernel_rfl)) ?_
 try go_wp2
 have n0_ : Aside0 (((w24.setCell ⟨gb421, 0, none⟩ (.int .i64 t418)).setCell ⟨gb421, 1, none⟩ (.int .i64 t420)).heap[gb413]? = some (.cells #[.int .i64 a0_0, .int .i64 a0_1, .int .i64 a0_2, .int .i64 a0_3, .int .i64 a0_4, .int .i64 a0_5, .int .i64 a0_6, .int .i64 a0_7, .int .i64 a0_8, .int .i64 a0_9, .int .i64 a0_10, .int .i64 a0_11] 23 (0, 0))) := ⟨by (with_reducible repeat (first | refine blk_drewN ?_ _ | refine blk_drew ?_ | refine blk_alloc ?_ _)); refine blk_far ?_ NB413_421.out _; (with_reducible repeat (first | refine blk_drewN ?_ _ | refine blk_drew ?_ | refine blk_alloc ?_ _)); refine blk_far ?_ NB413_421.out _; (with_reducible repeat (first | refine blk_drewN ?_ _ | refine blk_drew ?_ | refine blk_alloc ?_ _)); exact BK413.out⟩
 have n1_ : Aside0 (((w24.setCell ⟨gb421, 0, none⟩ (.int .i64 t418)).setCell ⟨gb421, 1, none⟩ (.int .i64 t420)).heap[gb414]? = some (.cells #[.int .i64 a1_0, .int .i64 a1_1, .int .i64 a1_2, .int .i64 a1_3] 57 (0, 0))) := ⟨by (with_reducible repeat (first | refine blk_drewN ?_ _ | refine blk_drew ?_ | refine blk_alloc ?_ _)); refine blk_far ?_ NB414_421.out _; (with_reducible repeat (first | refine blk_drewN ?_ _ | refine blk_drew ?_ | refine blk_alloc ?_ _)); refine blk_far ?_ NB414_421.out _; (with_reducible repeat (first | refine blk_drewN ?_ _ | refine blk_drew ?_ | refine blk_alloc ?_ _)); exact BK414.out⟩
 have n2_ : Aside0 (((w24.setCell ⟨gb421, 0, none⟩ (.int .i64 t418)).setCell ⟨gb421, 1, none⟩ (.int .i64 t420)).heap[gb415]? = some (.cells #[.int .i64 0, .int .i64 0] 25 (0, 0))) := ⟨by (with_reducible repeat (first | refine blk_drewN ?_ _ | refine blk_drew ?_ | refine blk_alloc ?_ _)); refine blk_far ?_ NB415_421.out _; (with_reducible repeat (first | refine blk_drewN ?_ _ | refine blk_drew ?_ | refine blk_alloc ?_ _)); refine blk_far ?_ NB415_421.out _; (with_reducible repeat (first | refine blk_drewN ?_ _ | refine blk_drew ?_ | refine blk_alloc ?_ _)); exact BK415.out⟩
 have n3_ : Aside0 (((w24.setCell ⟨gb421, 0, none⟩ (.int .i64 t418)).setCell ⟨gb421, 1, none⟩ (.int .i64 t420)).heap[gb421]? = some (.cells #[.int .i64 t418, .int .i64 t420] 25 (0, 0))) := ⟨by (with_reducible repeat (first | refine blk_drewN ?_ _ | refine blk_drew ?_ | refine blk_alloc ?_ _)); refine blk_put (cs := #[.int .i64 t418, .int .i64 0]) ?_ 1 _ rfl; (with_reducible repeat (first | refine blk_drewN ?_ _ | refine blk_drew ?_ | refine blk_alloc ?_ _)); refine blk_put (cs := #[.int .i64 0, .int .i64 0]) ?_ 0 _ rfl; (with_reducible repeat (first | refine blk_drewN ?_ _ | refine blk_drew ?_ | refine blk_alloc ?_ _)); exact BK421.out⟩
 have n4_ : Aside0 (Below w.heap.size w ((w24.setCell ⟨gb421, 0, none⟩ (.int .i64 t418)).setCell ⟨gb421, 1, none⟩ (.int .i64 t420))) := ⟨by repeat (first | (with_reducible first | exact HB.out | apply below_alloc | apply pw_below_drewN | apply below_drew1 | refine below_set ?_ GE413.out | refine below_set ?_ GE414.out | refine below_set ?_ GE415.out | refine below_set ?_ GE421.out) | exact HB.out)⟩
 (try clear BK413)
 (try clear BK414)
 (try clear BK415)
 (try clear BK421)
 (try clear HB)
 generalize ((w24.setCell ⟨gb421, 0, none⟩ (.int .i64 t418)).setCell ⟨gb421, 1, none⟩ (.int .i64 t420)) = w27 at n0_ n1_ n2_ n3_ n4_ ⊢
 have BK413 := n0_
 have BK414 := n1_
 have BK415 := n2_
 have BK421 := n3_
 have HB := n4_
 clear n0_ n1_ n2_ n3_ n4_
 have n0_ := Aside0.mk (blk_drew BK413.out)
 have n1_ := Aside0.mk (blk_drew BK414.out)
 have n2_ := Aside0.mk (blk_drew BK415.out)
 have n3_ := Aside0.mk (blk_drew BK421.out)
 have n4_ := Aside0.mk (below_drew1 HB.out)
 clear BK413 BK414 BK415 BK421 HB
 have BK413 := n0_
 have BK414 := n1_
 have BK415 := n2_
 have BK421 := n3_
 have HB := n4_
 clear n0_ n1_ n2_ n3_ n4_
 refine start_ (n := 13) (S := fun w' => w'.cell? ⟨gb413, 0, none⟩ = some (.int .i64 a0_0) ∧ w'.cell? ⟨gb413, 1, none⟩ = some (.int .i64 a0_1) ∧ w'.cell? ⟨gb413, 2, none⟩ = some (.int .i64 a0_2) ∧ w'.cell? ⟨gb413, 3, none⟩ = some (.int .i64 a0_3) ∧ w'.cell? ⟨gb413, 4, none⟩ = some (.int .i64 a0_4) ∧ w'.cell? ⟨gb413, 5, none⟩ = some (.int .i64 a0_5) ∧ w'.cell? ⟨gb413, 6, none⟩ = some (.int .i64 a0_6) ∧ w'.cell? ⟨gb413, 7, none⟩ = some (.int .i64 a0_7) ∧ w'.cell? ⟨gb413, 8, none⟩ = some (.int .i64 a0_8) ∧ w'.cell? ⟨gb413, 9, none⟩ = some (.int .i64 a0_9) ∧ w'.cell? ⟨gb413, 10, none⟩ = some (.int .i64 a0_10) ∧ w'.cell? ⟨gb413, 11, none⟩ = some (.int .i64 a0_11)) (ds := []) #[false, false, false, false, false, false, false, false, false, false, false, false, false] (by kernel_rfl) rfl rfl (c12 BK413.out) (fun hHeld => ?_); refine with_tabW probe_Ahead.tab3 probe_Ahead.bits3 (fun HT_ HW_ => ?_)
 generalize w27.drew = w28 at BK413 BK414 BK415 BK421 HB hHeld ⊢
 refine pure_ (i := 0) (N := some 29) (v := ?_) (a' := ?_) #[true, false, false, false, false, false, false, false, false, false, false, false, false] rfl rfl (any_of HT_.out (by kernel_rfl)) (fun _ _ _ h => h) (Or.inl ⟨by rfl, ?_⟩) ?_ ?_
 rotate_left
 ·intro w'
  go_simp
  with_reducible rfl
 rotate_left
 ·simp only [Act.put, List.setIfInBounds_toArray, List.set_cons_zero, List.set_cons_succ, i64_w, i32_w]
  rfl
 refine pure_ (i := 5) (N := some 34) (v := ?_) (a' := ?_) #[true, false, false, false, false, true, false, false, false, false, false, false, false] rfl rfl (any_of HT_.out (by kernel_rfl)) (fun _ _ _ h => h) (Or.inl ⟨by rfl, ?_⟩) ?_ ?_
 rotate_left
 ·intro w'
  go_simp
  with_reducible rfl
 rotate_left
 ·simp only [Act.put, List.setIfInBounds_toArray, List.set_cons_zero, List.set_cons_succ, i64_w, i32_w]
  rfl
 refine pure_ (i := 6) (N := some 35) (v := ?_) (a' := ?_) #[true, false, false, false, false, true, true, false, false, false, false, false, false] rfl rfl (any_of HT_.out (by kernel_rfl)) (fun _ _ _ h => h) (Or.inl ⟨by rfl, ?_⟩) ?_ ?_
 rotate_left
 ·intro w'
  go_simp
  with_reducible rfl
 rotate_left
 ·simp only [Act.put, List.setIfInBounds_toArray, List.set_cons_zero, List.set_cons_succ, i64_w, i32_w]
  rfl
 refine take_ (i := 1) (N := some 30) (v := ?_) (a' := ?_) #[true, true, false, false, false, true, true, false, false, false, false, false, false] rfl rfl (take_ofW HT_.out HW_.out (by kernel_rfl)) (fun _ _ _ h => h) (Or.inl ⟨by rfl, ?_⟩) hHeld ?_ ?_
 rotate_left
 ·rintro w' ⟨s0, s1, s2, s3, s4, s5, s6, s7, s8, s9, s10, s11⟩
  go_simp
  with_reducible rfl
 rotate_left
 ·simp only [Act.put, List.setIfInBounds_toArray, List.set_cons_zero, List.set_cons_succ, i64_w, i32_w]
  rfl
 refine take_ (i := 7) (N := some 36) (v := ?_) (a' := ?_) #[true, true, false, false, false, true, true, true, false, false, false, false, false] rfl rfl (take_ofW HT_.out HW_.out (by kernel_rfl)) (fun _ _ _ h => h) (Or.inl ⟨by rfl, ?_⟩) hHeld ?_ ?_
 rotate_left
 ·rintro w' ⟨s0, s1, s2, s3, s4, s5, s6, s7, s8, s9, s10, s11⟩
  go_simp
  with_reducible rfl
 rotate_left
 ·simp only [Act.put, List.setIfInBounds_toArray, List.set_cons_zero, List.set_cons_succ, i64_w, i32_w]
  rfl
 refine join_ (σ := Value × Value × Nat) 1 #[true, true, true, true, true, true, true, true, true, true, true, true, false] (fun s_ => [(31, .int .i64 t419), (32, s_.1), (33, .int .i64 t426), (37, s_.2.1), (38, .int .i64 t430), (8, .pointer (some ⟨s_.2.2, 0, none⟩)), (39, .agg #[.int .i64 t426, .int .i64 t430])]) (fun s_ w' => (w'.cell? ⟨gb413, 0, none⟩ = some (.int .i64 a0_0) ∧ w'.cell? ⟨gb413, 1, none⟩ = some (.int .i64 a0_1) ∧ w'.cell? ⟨gb413, 2, none⟩ = some (.int .i64 a0_2) ∧ w'.cell? ⟨gb413, 3, none⟩ = some (.int .i64 a0_3) ∧ w'.cell? ⟨gb413, 4, none⟩ = some (.int .i64 a0_4) ∧ w'.cell? ⟨gb413, 5, none⟩ = some (.int .i64 a0_5) ∧ w'.cell? ⟨gb413, 6, none⟩ = some (.int .i64 a0_6) ∧ w'.cell? ⟨gb413, 7, none⟩ = some (.int .i64 a0_7) ∧ w'.cell? ⟨gb413, 8, none⟩ = some (.int .i64 a0_8) ∧ w'.cell? ⟨gb413, 9, none⟩ = some (.int .i64 a0_9) ∧ w'.cell? ⟨gb413, 10, none⟩ = some (.int .i64 a0_10) ∧ w'.cell? ⟨gb413, 11, none⟩ = some (.int .i64 a0_11)) ∧ (Kd.R (Kd.int .i64) 3 w' w.heap.size (fun k_ => some k_ ≠ (s_.2.1 : Value).ownBlock) s_.1 y423) ∧ (Kd.R (Kd.int .i64) 3 w' w.heap.size (fun k_ => some k_ ≠ (s_.1 : Value).ownBlock) s_.2.1 y427) ∧ (w'.heap[gb413]? = some (.cells #[.int .i64 a0_0, .int .i64 a0_1, .int .i64 a0_2, .int .i64 a0_3, .int .i64 a0_4, .int .i64 a0_5, .int .i64 a0_6, .int .i64 a0_7, .int .i64 a0_8, .int .i64 a0_9, .int .i64 a0_10, .int .i64 a0_11] 23 (0, 0))) ∧ (w'.heap[gb414]? = some (.cells #[.int .i64 a1_0, .int .i64 a1_1, .int .i64 a1_2, .int .i64 a1_3] 57 (0, 0))) ∧ (w'.heap[gb415]? = some (.cells #[.int .i64 0, .int .i64 0] 25 (0, 0))) ∧ (w'.heap[gb421]? = some (.cells #[.int .i64 t418, .int .i64 t420] 25 (0, 0))) ∧ (w'.heap[s_.2.2]? = some (.cells #[.int .i64 0, .int .i64 0] 25 (0, 0))) ∧ (w.heap.size ≤ s_.2.2) ∧ (w.heap.size ≤ s_.2.2) ∧ (gb413 ≠ s_.2.2) ∧ (s_.2.2 ≠ gb413) ∧ (gb414 ≠ s_.2.2) ∧ (s_.2.2 ≠ gb414) ∧ (gb415 ≠ s_.2.2) ∧ (s_.2.2 ≠ gb415) ∧ (gb421 ≠ s_.2.2) ∧ (s_.2.2 ≠ gb421) ∧ (Below w.heap.size w w')) ?_ ?_
 rotate_left
 ·intro hJ2_3_4_8_9_11
  refine join_ (σ := Value × Value) 2 #[true, true, true, true, true, true, true, true, true, true, true, false, false] (fun s_ => [(31, .int .i64 t419), (32, s_.1), (33, .int .i64 t426), (37, s_.2), (38, .int .i64 t430), (39, .agg #[.int .i64 t426, .int .i64 t430])]) (fun s_ w' => (w'.cell? ⟨gb413, 0, none⟩ = some (.int .i64 a0_0) ∧ w'.cell? ⟨gb413, 1, none⟩ = some (.int .i64 a0_1) ∧ w'.cell? ⟨gb413, 2, none⟩ = some (.int .i64 a0_2) ∧ w'.cell? ⟨gb413, 3, none⟩ = some (.int .i64 a0_3) ∧ w'.cell? ⟨gb413, 4, none⟩ = some (.int .i64 a0_4) ∧ w'.cell? ⟨gb413, 5, none⟩ = some (.int .i64 a0_5) ∧ w'.cell? ⟨gb413, 6, none⟩ = some (.int .i64 a0_6) ∧ w'.cell? ⟨gb413, 7, none⟩ = some (.int .i64 a0_7) ∧ w'.cell? ⟨gb413, 8, none⟩ = some (.int .i64 a0_8) ∧ w'.cell? ⟨gb413, 9, none⟩ = some (.int .i64 a0_9) ∧ w'.cell? ⟨gb413, 10, none⟩ = some (.int .i64 a0_10) ∧ w'.cell? ⟨gb413, 11, none⟩ = some (.int .i64 a0_11)) ∧ (Kd.R (Kd.int .i64) 3 w' w.heap.size (fun k_ => some k_ ≠ (s_.2 : Value).ownBlock) s_.1 y423) ∧ (Kd.R (Kd.int .i64) 3 w' w.heap.size (fun k_ => some k_ ≠ (s_.1 : Value).ownBlock) s_.2 y427) ∧ (w'.heap[gb413]? = some (.cells #[.int .i64 a0_0, .int .i64 a0_1, .int .i64 a0_2, .int .i64 a0_3, .int .i64 a0_4, .int .i64 a0_5, .int .i64 a0_6, .int .i64 a0_7, .int .i64 a0_8, .int .i64 a0_9, .int .i64 a0_10, .int .i64 a0_11] 23 (0, 0))) ∧ (w'.heap[gb414]? = some (.cells #[.int .i64 a1_0, .int .i64 a1_1, .int .i64 a1_2, .int .i64 a1_3] 57 (0, 0))) ∧ (w'.heap[gb415]? = some (.cells #[.int .i64 0, .int .i64 0] 25 (0, 0))) ∧ (w'.heap[gb421]? = some (.cells #[.int .i64 t418, .int .i64 t420] 25 (0, 0))) ∧ (Below w.heap.size w w')) ?_ ?_
  rotate_left
  ·intro hJ2_3_4_8_9
   refine join_ (σ := Value × Value × Nat) 3 #[true, true, true, true, true, true, true, true, true, false, false, true, false] (fun s_ => [(31, .int .i64 t419), (32, s_.1), (33, .int .i64 t426), (37, s_.2.1), (8, .pointer (some ⟨s_.2.2, 0, none⟩))]) (fun s_ w' => (w'.cell? ⟨gb413, 0, none⟩ = some (.int .i64 a0_0) ∧ w'.cell? ⟨gb413, 1, none⟩ = some (.int .i64 a0_1) ∧ w'.cell? ⟨gb413, 2, none⟩ = some (.int .i64 a0_2) ∧ w'.cell? ⟨gb413, 3, none⟩ = some (.int .i64 a0_3) ∧ w'.cell? ⟨gb413, 4, none⟩ = some (.int .i64 a0_4) ∧ w'.cell? ⟨gb413, 5, none⟩ = some (.int .i64 a0_5) ∧ w'.cell? ⟨gb413, 6, none⟩ = some (.int .i64 a0_6) ∧ w'.cell? ⟨gb413, 7, none⟩ = some (.int .i64 a0_7) ∧ w'.cell? ⟨gb413, 8, none⟩ = some (.int .i64 a0_8) ∧ w'.cell? ⟨gb413, 9, none⟩ = some (.int .i64 a0_9) ∧ w'.cell? ⟨gb413, 10, none⟩ = some (.int .i64 a0_10) ∧ w'.cell? ⟨gb413, 11, none⟩ = some (.int .i64 a0_11)) ∧ (Kd.R (Kd.int .i64) 3 w' w.heap.size (fun k_ => some k_ ≠ (s_.2.1 : Value).ownBlock) s_.1 y423) ∧ (Kd.R (Kd.int .i64) 3 w' w.heap.size (fun k_ => some k_ ≠ (s_.1 : Value).ownBlock) s_.2.1 y427) ∧ (w'.heap[gb413]? = some (.cells #[.int .i64 a0_0, .int .i64 a0_1, .int .i64 a0_2, .int .i64 a0_3, .int .i64 a0_4, .int .i64 a0_5, .int .i64 a0_6, .int .i64 a0_7, .int .i64 a0_8, .int .i64 a0_9, .int .i64 a0_10, .int .i64 a0_11] 23 (0, 0))) ∧ (w'.heap[gb414]? = some (.cells #[.int .i64 a1_0, .int .i64 a1_1, .int .i64 a1_2, .int .i64 a1_3] 57 (0, 0))) ∧ (w'.heap[gb415]? = some (.cells #[.int .i64 0, .int .i64 0] 25 (0, 0))) ∧ (w'.heap[gb421]? = some (.cells #[.int .i64 t418, .int .i64 t420] 25 (0, 0))) ∧ (w'.heap[s_.2.2]? = some (.cells #[.int .i64 0, .int .i64 0] 25 (0, 0))) ∧ (w.heap.size ≤ s_.2.2) ∧ (w.heap.size ≤ s_.2.2) ∧ (gb413 ≠ s_.2.2) ∧ (s_.2.2 ≠ gb413) ∧ (gb414 ≠ s_.2.2) ∧ (s_.2.2 ≠ gb414) ∧ (gb415 ≠ s_.2.2) ∧ (s_.2.2 ≠ gb415) ∧ (gb421 ≠ s_.2.2) ∧ (s_.2.2 ≠ gb421) ∧ (Below w.heap.size w w')) ?_ ?_
   rotate_left
   ·intro hJ2_3_4_8_11
    refine join_ (σ := Value × Value) 4 #[true, true, true, true, true, true, true, true, true, false, false, false, false] (fun s_ => [(31, .int .i64 t419), (32, s_.1), (33, .int .i64 t426), (37, s_.2)]) (fun s_ w' => (w'.cell? ⟨gb413, 0, none⟩ = some (.int .i64 a0_0) ∧ w'.cell? ⟨gb413, 1, none⟩ = some (.int .i64 a0_1) ∧ w'.cell? ⟨gb413, 2, none⟩ = some (.int .i64 a0_2) ∧ w'.cell? ⟨gb413, 3, none⟩ = some (.int .i64 a0_3) ∧ w'.cell? ⟨gb413, 4, none⟩ = some (.int .i64 a0_4) ∧ w'.cell? ⟨gb413, 5, none⟩ = some (.int .i64 a0_5) ∧ w'.cell? ⟨gb413, 6, none⟩ = some (.int .i64 a0_6) ∧ w'.cell? ⟨gb413, 7, none⟩ = some (.int .i64 a0_7) ∧ w'.cell? ⟨gb413, 8, none⟩ = some (.int .i64 a0_8) ∧ w'.cell? ⟨gb413, 9, none⟩ = some (.int .i64 a0_9) ∧ w'.cell? ⟨gb413, 10, none⟩ = some (.int .i64 a0_10) ∧ w'.cell? ⟨gb413, 11, none⟩ = some (.int .i64 a0_11)) ∧ (Kd.R (Kd.int .i64) 3 w' w.heap.size (fun k_ => some k_ ≠ (s_.2 : Value).ownBlock) s_.1 y423) ∧ (Kd.R (Kd.int .i64) 3 w' w.heap.size (fun k_ => some k_ ≠ (s_.1 : Value).ownBlock) s_.2 y427) ∧ (w'.heap[gb413]? = some (.cells #[.int .i64 a0_0, .int .i64 a0_1, .int .i64 a0_2, .int .i64 a0_3, .int .i64 a0_4, .int .i64 a0_5, .int .i64 a0_6, .int .i64 a0_7, .int .i64 a0_8, .int .i64 a0_9, .int .i64 a0_10, .int .i64 a0_11] 23 (0, 0))) ∧ (w'.heap[gb414]? = some (.cells #[.int .i64 a1_0, .int .i64 a1_1, .int .i64 a1_2, .int .i64 a1_3] 57 (0, 0))) ∧ (w'.heap[gb415]? = some (.cells #[.int .i64 0, .int .i64 0] 25 (0, 0))) ∧ (w'.heap[gb421]? = some (.cells #[.int .i64 t418, .int .i64 t420] 25 (0, 0))) ∧ (Below w.heap.size w w')) ?_ ?_
    rotate_left
    ·intro hJ2_3_4_8
     refine join_ (σ := Value × Nat) 4 #[true, true, true, true, true, true, true, true, false, false, false, true, false] (fun s_ => [(31, .int .i64 t419), (32, s_.1), (33, .int .i64 t426), (8, .pointer (some ⟨s_.2, 0, none⟩))]) (fun s_ w' => (w'.cell? ⟨gb413, 0, none⟩ = some (.int .i64 a0_0) ∧ w'.cell? ⟨gb413, 1, none⟩ = some (.int .i64 a0_1) ∧ w'.cell? ⟨gb413, 2, none⟩ = some (.int .i64 a0_2) ∧ w'.cell? ⟨gb413, 3, none⟩ = some (.int .i64 a0_3) ∧ w'.cell? ⟨gb413, 4, none⟩ = some (.int .i64 a0_4) ∧ w'.cell? ⟨gb413, 5, none⟩ = some (.int .i64 a0_5) ∧ w'.cell? ⟨gb413, 6, none⟩ = some (.int .i64 a0_6) ∧ w'.cell? ⟨gb413, 7, none⟩ = some (.int .i64 a0_7) ∧ w'.cell? ⟨gb413, 8, none⟩ = some (.int .i64 a0_8) ∧ w'.cell? ⟨gb413, 9, none⟩ = some (.int .i64 a0_9) ∧ w'.cell? ⟨gb413, 10, none⟩ = some (.int .i64 a0_10) ∧ w'.cell? ⟨gb413, 11, none⟩ = some (.int .i64 a0_11)) ∧ (Kd.R (Kd.int .i64) 3 w' w.heap.size (fun _ => True) s_.1 y423) ∧ (w'.heap[gb413]? = some (.cells #[.int .i64 a0_0, .int .i64 a0_1, .int .i64 a0_2, .int .i64 a0_3, .int .i64 a0_4, .int .i64 a0_5, .int .i64 a0_6, .int .i64 a0_7, .int .i64 a0_8, .int .i64 a0_9, .int .i64 a0_10, .int .i64 a0_11] 23 (0, 0))) ∧ (w'.heap[gb414]? = some (.cells #[.int .i64 a1_0, .int .i64 a1_1, .int .i64 a1_2, .int .i64 a1_3] 57 (0, 0))) ∧ (w'.heap[gb415]? = some (.cells #[.int .i64 0, .int .i64 0] 25 (0, 0))) ∧ (w'.heap[gb421]? = some (.cells #[.int .i64 t418, .int .i64 t420] 25 (0, 0))) ∧ (w'.heap[s_.2]? = some (.cells #[.int .i64 0, .int .i64 0] 25 (0, 0))) ∧ (w.heap.size ≤ s_.2) ∧ (w.heap.size ≤ s_.2) ∧ (gb413 ≠ s_.2) ∧ (s_.2 ≠ gb413) ∧ (gb414 ≠ s_.2) ∧ (s_.2 ≠ gb414) ∧ (gb415 ≠ s_.2) ∧ (s_.2 ≠ gb415) ∧ (gb421 ≠ s_.2) ∧ (s_.2 ≠ gb421) ∧ (Below w.heap.size w w')) ?_ ?_
     rotate_left
     ·intro hJ2_3_4_11
      refine join_ (σ := Value × Value × Nat) 4 #[true, true, true, true, false, true, true, true, true, false, false, true, false] (fun s_ => [(31, .int .i64 t419), (32, s_.1), (37, s_.2.1), (8, .pointer (some ⟨s_.2.2, 0, none⟩))]) (fun s_ w' => (w'.cell? ⟨gb413, 0, none⟩ = some (.int .i64 a0_0) ∧ w'.cell? ⟨gb413, 1, none⟩ = some (.int .i64 a0_1) ∧ w'.cell? ⟨gb413, 2, none⟩ = some (.int .i64 a0_2) ∧ w'.cell? ⟨gb413, 3, none⟩ = some (.int .i64 a0_3) ∧ w'.cell? ⟨gb413, 4, none⟩ = some (.int .i64 a0_4) ∧ w'.cell? ⟨gb413, 5, none⟩ = some (.int .i64 a0_5) ∧ w'.cell? ⟨gb413, 6, none⟩ = some (.int .i64 a0_6) ∧ w'.cell? ⟨gb413, 7, none⟩ = some (.int .i64 a0_7) ∧ w'.cell? ⟨gb413, 8, none⟩ = some (.int .i64 a0_8) ∧ w'.cell? ⟨gb413, 9, none⟩ = some (.int .i64 a0_9) ∧ w'.cell? ⟨gb413, 10, none⟩ = some (.int .i64 a0_10) ∧ w'.cell? ⟨gb413, 11, none⟩ = some (.int .i64 a0_11)) ∧ (Kd.R (Kd.int .i64) 3 w' w.heap.size (fun k_ => some k_ ≠ (s_.2.1 : Value).ownBlock) s_.1 y423) ∧ (Kd.R (Kd.int .i64) 3 w' w.heap.size (fun k_ => some k_ ≠ (s_.1 : Value).ownBlock) s_.2.1 y427) ∧ (w'.heap[gb413]? = some (.cells #[.int .i64 a0_0, .int .i64 a0_1, .int .i64 a0_2, .int .i64 a0_3, .int .i64 a0_4, .int .i64 a0_5, .int .i64 a0_6, .int .i64 a0_7, .int .i64 a0_8, .int .i64 a0_9, .int .i64 a0_10, .int .i64 a0_11] 23 (0, 0))) ∧ (w'.heap[gb414]? = some (.cells #[.int .i64 a1_0, .int .i64 a1_1, .int .i64 a1_2, .int .i64 a1_3] 57 (0, 0))) ∧ (w'.heap[gb415]? = some (.cells #[.int .i64 0, .int .i64 0] 25 (0, 0))) ∧ (w'.heap[gb421]? = some (.cells #[.int .i64 t418, .int .i64 t420] 25 (0, 0))) ∧ (w'.heap[s_.2.2]? = some (.cells #[.int .i64 0, .int .i64 0] 25 (0, 0))) ∧ (w.heap.size ≤ s_.2.2) ∧ (w.heap.size ≤ s_.2.2) ∧ (gb413 ≠ s_.2.2) ∧ (s_.2.2 ≠ gb413) ∧ (gb414 ≠ s_.2.2) ∧ (s_.2.2 ≠ gb414) ∧ (gb415 ≠ s_.2.2) ∧ (s_.2.2 ≠ gb415) ∧ (gb421 ≠ s_.2.2) ∧ (s_.2.2 ≠ gb421) ∧ (Below w.heap.size w w')) ?_ ?_
      rotate_left
      ·intro hJ2_3_8_11
       refine join_ (σ := Value) 5 #[true, true, true, true, true, true, true, true, false, false, false, false, false] (fun s_ => [(31, .int .i64 t419), (32, s_), (33, .int .i64 t426)]) (fun s_ w' => (w'.cell? ⟨gb413, 0, none⟩ = some (.int .i64 a0_0) ∧ w'.cell? ⟨gb413, 1, none⟩ = some (.int .i64 a0_1) ∧ w'.cell? ⟨gb413, 2, none⟩ = some (.int .i64 a0_2) ∧ w'.cell? ⟨gb413, 3, none⟩ = some (.int .i64 a0_3) ∧ w'.cell? ⟨gb413, 4, none⟩ = some (.int .i64 a0_4) ∧ w'.cell? ⟨gb413, 5, none⟩ = some (.int .i64 a0_5) ∧ w'.cell? ⟨gb413, 6, none⟩ = some (.int .i64 a0_6) ∧ w'.cell? ⟨gb413, 7, none⟩ = some (.int .i64 a0_7) ∧ w'.cell? ⟨gb413, 8, none⟩ = some (.int .i64 a0_8) ∧ w'.cell? ⟨gb413, 9, none⟩ = some (.int .i64 a0_9) ∧ w'.cell? ⟨gb413, 10, none⟩ = some (.int .i64 a0_10) ∧ w'.cell? ⟨gb413, 11, none⟩ = some (.int .i64 a0_11)) ∧ (Kd.R (Kd.int .i64) 3 w' w.heap.size (fun _ => True) s_ y423) ∧ (w'.heap[gb413]? = some (.cells #[.int .i64 a0_0, .int .i64 a0_1, .int .i64 a0_2, .int .i64 a0_3, .int .i64 a0_4, .int .i64 a0_5, .int .i64 a0_6, .int .i64 a0_7, .int .i64 a0_8, .int .i64 a0_9, .int .i64 a0_10, .int .i64 a0_11] 23 (0, 0))) ∧ (w'.heap[gb414]? = some (.cells #[.int .i64 a1_0, .int .i64 a1_1, .int .i64 a1_2, .int .i64 a1_3] 57 (0, 0))) ∧ (w'.heap[gb415]? = some (.cells #[.int .i64 0, .int .i64 0] 25 (0, 0))) ∧ (w'.heap[gb421]? = some (.cells #[.int .i64 t418, .int .i64 t420] 25 (0, 0))) ∧ (Below w.heap.size w w')) ?_ ?_
       rotate_left
       ·intro hJ2_3_4
        refine join_ (σ := Value × Value) 5 #[true, true, true, true, false, true, true, true, true, false, false, false, false] (fun s_ => [(31, .int .i64 t419), (32, s_.1), (37, s_.2)]) (fun s_ w' => (w'.cell? ⟨gb413, 0, none⟩ = some (.int .i64 a0_0) ∧ w'.cell? ⟨gb413, 1, none⟩ = some (.int .i64 a0_1) ∧ w'.cell? ⟨gb413, 2, none⟩ = some (.int .i64 a0_2) ∧ w'.cell? ⟨gb413, 3, none⟩ = some (.int .i64 a0_3) ∧ w'.cell? ⟨gb413, 4, none⟩ = some (.int .i64 a0_4) ∧ w'.cell? ⟨gb413, 5, none⟩ = some (.int .i64 a0_5) ∧ w'.cell? ⟨gb413, 6, none⟩ = some (.int .i64 a0_6) ∧ w'.cell? ⟨gb413, 7, none⟩ = some (.int .i64 a0_7) ∧ w'.cell? ⟨gb413, 8, none⟩ = some (.int .i64 a0_8) ∧ w'.cell? ⟨gb413, 9, none⟩ = some (.int .i64 a0_9) ∧ w'.cell? ⟨gb413, 10, none⟩ = some (.int .i64 a0_10) ∧ w'.cell? ⟨gb413, 11, none⟩ = some (.int .i64 a0_11)) ∧ (Kd.R (Kd.int .i64) 3 w' w.heap.size (fun k_ => some k_ ≠ (s_.2 : Value).ownBlock) s_.1 y423) ∧ (Kd.R (Kd.int .i64) 3 w' w.heap.size (fun k_ => some k_ ≠ (s_.1 : Value).ownBlock) s_.2 y427) ∧ (w'.heap[gb413]? = some (.cells #[.int .i64 a0_0, .int .i64 a0_1, .int .i64 a0_2, .int .i64 a0_3, .int .i64 a0_4, .int .i64 a0_5, .int .i64 a0_6, .int .i64 a0_7, .int .i64 a0_8, .int .i64 a0_9, .int .i64 a0_10, .int .i64 a0_11] 23 (0, 0))) ∧ (w'.heap[gb414]? = some (.cells #[.int .i64 a1_0, .int .i64 a1_1, .int .i64 a1_2, .int .i64 a1_3] 57 (0, 0))) ∧ (w'.heap[gb415]? = some (.cells #[.int .i64 0, .int .i64 0] 25 (0, 0))) ∧ (w'.heap[gb421]? = some (.cells #[.int .i64 t418, .int .i64 t420] 25 (0, 0))) ∧ (Below w.heap.size w w')) ?_ ?_
        rotate_left
        ·intro hJ2_3_8
         refine join_ (σ := Value × Nat) 5 #[true, true, true, true, false, true, true, true, false, false, false, true, false] (fun s_ => [(31, .int .i64 t419), (32, s_.1), (8, .pointer (some ⟨s_.2, 0, none⟩))]) (fun s_ w' => (w'.cell? ⟨gb413, 0, none⟩ = some (.int .i64 a0_0) ∧ w'.cell? ⟨gb413, 1, none⟩ = some (.int .i64 a0_1) ∧ w'.cell? ⟨gb413, 2, none⟩ = some (.int .i64 a0_2) ∧ w'.cell? ⟨gb413, 3, none⟩ = some (.int .i64 a0_3) ∧ w'.cell? ⟨gb413, 4, none⟩ = some (.int .i64 a0_4) ∧ w'.cell? ⟨gb413, 5, none⟩ = some (.int .i64 a0_5) ∧ w'.cell? ⟨gb413, 6, none⟩ = some (.int .i64 a0_6) ∧ w'.cell? ⟨gb413, 7, none⟩ = some (.int .i64 a0_7) ∧ w'.cell? ⟨gb413, 8, none⟩ = some (.int .i64 a0_8) ∧ w'.cell? ⟨gb413, 9, none⟩ = some (.int .i64 a0_9) ∧ w'.cell? ⟨gb413, 10, none⟩ = some (.int .i64 a0_10) ∧ w'.cell? ⟨gb413, 11, none⟩ = some (.int .i64 a0_11)) ∧ (Kd.R (Kd.int .i64) 3 w' w.heap.size (fun _ => True) s_.1 y423) ∧ (w'.heap[gb413]? = some (.cells #[.int .i64 a0_0, .int .i64 a0_1, .int .i64 a0_2, .int .i64 a0_3, .int .i64 a0_4, .int .i64 a0_5, .int .i64 a0_6, .int .i64 a0_7, .int .i64 a0_8, .int .i64 a0_9, .int .i64 a0_10, .int .i64 a0_11] 23 (0, 0))) ∧ (w'.heap[gb414]? = some (.cells #[.int .i64 a1_0, .int .i64 a1_1, .int .i64 a1_2, .int .i64 a1_3] 57 (0, 0))) ∧ (w'.heap[gb415]? = some (.cells #[.int .i64 0, .int .i64 0] 25 (0, 0))) ∧ (w'.heap[gb421]? = some (.cells #[.int .i64 t418, .int .i64 t420] 25 (0, 0))) ∧ (w'.heap[s_.2]? = some (.cells #[.int .i64 0, .int .i64 0] 25 (0, 0))) ∧ (w.heap.size ≤ s_.2) ∧ (w.heap.size ≤ s_.2) ∧ (gb413 ≠ s_.2) ∧ (s_.2 ≠ gb413) ∧ (gb414 ≠ s_.2) ∧ (s_.2 ≠ gb414) ∧ (gb415 ≠ s_.2) ∧ (s_.2 ≠ gb415) ∧ (gb421 ≠ s_.2) ∧ (s_.2 ≠ gb421) ∧ (Below w.heap.size w w')) ?_ ?_
         rotate_left
         ·intro hJ2_3_11
          refine join_ (σ := Value × Nat) 5 #[true, true, true, false, false, true, true, true, true, false, false, true, false] (fun s_ => [(31, .int .i64 t419), (37, s_.1), (8, .pointer (some ⟨s_.2, 0, none⟩))]) (fun s_ w' => (w'.cell? ⟨gb413, 0, none⟩ = some (.int .i64 a0_0) ∧ w'.cell? ⟨gb413, 1, none⟩ = some (.int .i64 a0_1) ∧ w'.cell? ⟨gb413, 2, none⟩ = some (.int .i64 a0_2) ∧ w'.cell? ⟨gb413, 3, none⟩ = some (.int .i64 a0_3) ∧ w'.cell? ⟨gb413, 4, none⟩ = some (.int .i64 a0_4) ∧ w'.cell? ⟨gb413, 5, none⟩ = some (.int .i64 a0_5) ∧ w'.cell? ⟨gb413, 6, none⟩ = some (.int .i64 a0_6) ∧ w'.cell? ⟨gb413, 7, none⟩ = some (.int .i64 a0_7) ∧ w'.cell? ⟨gb413, 8, none⟩ = some (.int .i64 a0_8) ∧ w'.cell? ⟨gb413, 9, none⟩ = some (.int .i64 a0_9) ∧ w'.cell? ⟨gb413, 10, none⟩ = some (.int .i64 a0_10) ∧ w'.cell? ⟨gb413, 11, none⟩ = some (.int .i64 a0_11)) ∧ (Kd.R (Kd.int .i64) 3 w' w.heap.size (fun _ => True) s_.1 y427) ∧ (w'.heap[gb413]? = some (.cells #[.int .i64 a0_0, .int .i64 a0_1, .int .i64 a0_2, .int .i64 a0_3, .int .i64 a0_4, .int .i64 a0_5, .int .i64 a0_6, .int .i64 a0_7, .int .i64 a0_8, .int .i64 a0_9, .int .i64 a0_10, .int .i64 a0_11] 23 (0, 0))) ∧ (w'.heap[gb414]? = some (.cells #[.int .i64 a1_0, .int .i64 a1_1, .int .i64 a1_2, .int .i64 a1_3] 57 (0, 0))) ∧ (w'.heap[gb415]? = some (.cells #[.int .i64 0, .int .i64 0] 25 (0, 0))) ∧ (w'.heap[gb421]? = some (.cells #[.int .i64 t418, .int .i64 t420] 25 (0, 0))) ∧ (w'.heap[s_.2]? = some (.cells #[.int .i64 0, .int .i64 0] 25 (0, 0))) ∧ (w.heap.size ≤ s_.2) ∧ (w.heap.size ≤ s_.2) ∧ (gb413 ≠ s_.2) ∧ (s_.2 ≠ gb413) ∧ (gb414 ≠ s_.2) ∧ (s_.2 ≠ gb414) ∧ (gb415 ≠ s_.2) ∧ (s_.2 ≠ gb415) ∧ (gb421 ≠ s_.2) ∧ (s_.2 ≠ gb421) ∧ (Below w.heap.size w w')) ?_ ?_
          rotate_left
          ·intro hJ2_8_11
           refine join_ (σ := Value) 6 #[true, true, true, true, false, true, true, true, false, false, false, false, false] (fun s_ => [(31, .int .i64 t419), (32, s_)]) (fun s_ w' => (w'.cell? ⟨gb413, 0, none⟩ = some (.int .i64 a0_0) ∧ w'.cell? ⟨gb413, 1, none⟩ = some (.int .i64 a0_1) ∧ w'.cell? ⟨gb413, 2, none⟩ = some (.int .i64 a0_2) ∧ w'.cell? ⟨gb413, 3, none⟩ = some (.int .i64 a0_3) ∧ w'.cell? ⟨gb413, 4, none⟩ = some (.int .i64 a0_4) ∧ w'.cell? ⟨gb413, 5, none⟩ = some (.int .i64 a0_5) ∧ w'.cell? ⟨gb413, 6, none⟩ = some (.int .i64 a0_6) ∧ w'.cell? ⟨gb413, 7, none⟩ = some (.int .i64 a0_7) ∧ w'.cell? ⟨gb413, 8, none⟩ = some (.int .i64 a0_8) ∧ w'.cell? ⟨gb413, 9, none⟩ = some (.int .i64 a0_9) ∧ w'.cell? ⟨gb413, 10, none⟩ = some (.int .i64 a0_10) ∧ w'.cell? ⟨gb413, 11, none⟩ = some (.int .i64 a0_11)) ∧ (Kd.R (Kd.int .i64) 3 w' w.heap.size (fun _ => True) s_ y423) ∧ (w'.heap[gb413]? = some (.cells #[.int .i64 a0_0, .int .i64 a0_1, .int .i64 a0_2, .int .i64 a0_3, .int .i64 a0_4, .int .i64 a0_5, .int .i64 a0_6, .int .i64 a0_7, .int .i64 a0_8, .int .i64 a0_9, .int .i64 a0_10, .int .i64 a0_11] 23 (0, 0))) ∧ (w'.heap[gb414]? = some (.cells #[.int .i64 a1_0, .int .i64 a1_1, .int .i64 a1_2, .int .i64 a1_3] 57 (0, 0))) ∧ (w'.heap[gb415]? = some (.cells #[.int .i64 0, .int .i64 0] 25 (0, 0))) ∧ (w'.heap[gb421]? = some (.cells #[.int .i64 t418, .int .i64 t420] 25 (0, 0))) ∧ (Below w.heap.size w w')) ?_ ?_
           rotate_left
           ·intro hJ2_3
            refine join_ (σ := Value) 6 #[true, true, true, false, false, true, true, true, true, false, false, false, false] (fun s_ => [(31, .int .i64 t419), (37, s_)]) (fun s_ w' => (w'.cell? ⟨gb413, 0, none⟩ = some (.int .i64 a0_0) ∧ w'.cell? ⟨gb413, 1, none⟩ = some (.int .i64 a0_1) ∧ w'.cell? ⟨gb413, 2, none⟩ = some (.int .i64 a0_2) ∧ w'.cell? ⟨gb413, 3, none⟩ = some (.int .i64 a0_3) ∧ w'.cell? ⟨gb413, 4, none⟩ = some (.int .i64 a0_4) ∧ w'.cell? ⟨gb413, 5, none⟩ = some (.int .i64 a0_5) ∧ w'.cell? ⟨gb413, 6, none⟩ = some (.int .i64 a0_6) ∧ w'.cell? ⟨gb413, 7, none⟩ = some (.int .i64 a0_7) ∧ w'.cell? ⟨gb413, 8, none⟩ = some (.int .i64 a0_8) ∧ w'.cell? ⟨gb413, 9, none⟩ = some (.int .i64 a0_9) ∧ w'.cell? ⟨gb413, 10, none⟩ = some (.int .i64 a0_10) ∧ w'.cell? ⟨gb413, 11, none⟩ = some (.int .i64 a0_11)) ∧ (Kd.R (Kd.int .i64) 3 w' w.heap.size (fun _ => True) s_ y427) ∧ (w'.heap[gb413]? = some (.cells #[.int .i64 a0_0, .int .i64 a0_1, .int .i64 a0_2, .int .i64 a0_3, .int .i64 a0_4, .int .i64 a0_5, .int .i64 a0_6, .int .i64 a0_7, .int .i64 a0_8, .int .i64 a0_9, .int .i64 a0_10, .int .i64 a0_11] 23 (0, 0))) ∧ (w'.heap[gb414]? = some (.cells #[.int .i64 a1_0, .int .i64 a1_1, .int .i64 a1_2, .int .i64 a1_3] 57 (0, 0))) ∧ (w'.heap[gb415]? = some (.cells #[.int .i64 0, .int .i64 0] 25 (0, 0))) ∧ (w'.heap[gb421]? = some (.cells #[.int .i64 t418, .int .i64 t420] 25 (0, 0))) ∧ (Below w.heap.size w w')) ?_ ?_
            rotate_left
            ·intro hJ2_8
             refine join_ (σ := Nat) 6 #[true, true, true, false, false, true, true, true, false, false, false, true, false] (fun s_ => [(31, .int .i64 t419), (8, .pointer (some ⟨s_, 0, none⟩))]) (fun s_ w' => (w'.cell? ⟨gb413, 0, none⟩ = some (.int .i64 a0_0) ∧ w'.cell? ⟨gb413, 1, none⟩ = some (.int .i64 a0_1) ∧ w'.cell? ⟨gb413, 2, none⟩ = some (.int .i64 a0_2) ∧ w'.cell? ⟨gb413, 3, none⟩ = some (.int .i64 a0_3) ∧ w'.cell? ⟨gb413, 4, none⟩ = some (.int .i64 a0_4) ∧ w'.cell? ⟨gb413, 5, none⟩ = some (.int .i64 a0_5) ∧ w'.cell? ⟨gb413, 6, none⟩ = some (.int .i64 a0_6) ∧ w'.cell? ⟨gb413, 7, none⟩ = some (.int .i64 a0_7) ∧ w'.cell? ⟨gb413, 8, none⟩ = some (.int .i64 a0_8) ∧ w'.cell? ⟨gb413, 9, none⟩ = some (.int .i64 a0_9) ∧ w'.cell? ⟨gb413, 10, none⟩ = some (.int .i64 a0_10) ∧ w'.cell? ⟨gb413, 11, none⟩ = some (.int .i64 a0_11)) ∧ (w'.heap[gb413]? = some (.cells #[.int .i64 a0_0, .int .i64 a0_1, .int .i64 a0_2, .int .i64 a0_3, .int .i64 a0_4, .int .i64 a0_5, .int .i64 a0_6, .int .i64 a0_7, .int .i64 a0_8, .int .i64 a0_9, .int .i64 a0_10, .int .i64 a0_11] 23 (0, 0))) ∧ (w'.heap[gb414]? = some (.cells #[.int .i64 a1_0, .int .i64 a1_1, .int .i64 a1_2, .int .i64 a1_3] 57 (0, 0))) ∧ (w'.heap[gb415]? = some (.cells #[.int .i64 0, .int .i64 0] 25 (0, 0))) ∧ (w'.heap[gb421]? = some (.cells #[.int .i64 t418, .int .i64 t420] 25 (0, 0))) ∧ (w'.heap[s_]? = some (.cells #[.int .i64 0, .int .i64 0] 25 (0, 0))) ∧ (w.heap.size ≤ s_) ∧ (w.heap.size ≤ s_) ∧ (gb413 ≠ s_) ∧ (s_ ≠ gb413) ∧ (gb414 ≠ s_) ∧ (s_ ≠ gb414) ∧ (gb415 ≠ s_) ∧ (s_ ≠ gb415) ∧ (gb421 ≠ s_) ∧ (s_ ≠ gb421) ∧ (Below w.heap.size w w')) ?_ ?_
             rotate_left
             ·intro hJ2_11
              refine join_ (σ := Value × Nat) 6 #[true, true, false, false, false, true, true, true, true, false, false, true, false] (fun s_ => [(37, s_.1), (8, .pointer (some ⟨s_.2, 0, none⟩))]) (fun s_ w' => (w'.cell? ⟨gb413, 0, none⟩ = some (.int .i64 a0_0) ∧ w'.cell? ⟨gb413, 1, none⟩ = some (.int .i64 a0_1) ∧ w'.cell? ⟨gb413, 2, none⟩ = some (.int .i64 a0_2) ∧ w'.cell? ⟨gb413, 3, none⟩ = some (.int .i64 a0_3) ∧ w'.cell? ⟨gb413, 4, none⟩ = some (.int .i64 a0_4) ∧ w'.cell? ⟨gb413, 5, none⟩ = some (.int .i64 a0_5) ∧ w'.cell? ⟨gb413, 6, none⟩ = some (.int .i64 a0_6) ∧ w'.cell? ⟨gb413, 7, none⟩ = some (.int .i64 a0_7) ∧ w'.cell? ⟨gb413, 8, none⟩ = some (.int .i64 a0_8) ∧ w'.cell? ⟨gb413, 9, none⟩ = some (.int .i64 a0_9) ∧ w'.cell? ⟨gb413, 10, none⟩ = some (.int .i64 a0_10) ∧ w'.cell? ⟨gb413, 11, none⟩ = some (.int .i64 a0_11)) ∧ (Kd.R (Kd.int .i64) 3 w' w.heap.size (fun _ => True) s_.1 y427) ∧ (w'.heap[gb413]? = some (.cells #[.int .i64 a0_0, .int .i64 a0_1, .int .i64 a0_2, .int .i64 a0_3, .int .i64 a0_4, .int .i64 a0_5, .int .i64 a0_6, .int .i64 a0_7, .int .i64 a0_8, .int .i64 a0_9, .int .i64 a0_10, .int .i64 a0_11] 23 (0, 0))) ∧ (w'.heap[gb414]? = some (.cells #[.int .i64 a1_0, .int .i64 a1_1, .int .i64 a1_2, .int .i64 a1_3] 57 (0, 0))) ∧ (w'.heap[gb415]? = some (.cells #[.int .i64 0, .int .i64 0] 25 (0, 0))) ∧ (w'.heap[gb421]? = some (.cells #[.int .i64 t418, .int .i64 t420] 25 (0, 0))) ∧ (w'.heap[s_.2]? = some (.cells #[.int .i64 0, .int .i64 0] 25 (0, 0))) ∧ (w.heap.size ≤ s_.2) ∧ (w.heap.size ≤ s_.2) ∧ (gb413 ≠ s_.2) ∧ (s_.2 ≠ gb413) ∧ (gb414 ≠ s_.2) ∧ (s_.2 ≠ gb414) ∧ (gb415 ≠ s_.2) ∧ (s_.2 ≠ gb415) ∧ (gb421 ≠ s_.2) ∧ (s_.2 ≠ gb421) ∧ (Below w.heap.size w w')) ?_ ?_
              rotate_left
              ·intro hJ8_11
               refine join_ (σ := Unit) 7 #[true, true, true, false, false, true, true, true, false, false, false, false, false] (fun s_ => [(31, .int .i64 t419)]) (fun s_ w' => (w'.cell? ⟨gb413, 0, none⟩ = some (.int .i64 a0_0) ∧ w'.cell? ⟨gb413, 1, none⟩ = some (.int .i64 a0_1) ∧ w'.cell? ⟨gb413, 2, none⟩ = some (.int .i64 a0_2) ∧ w'.cell? ⟨gb413, 3, none⟩ = some (.int .i64 a0_3) ∧ w'.cell? ⟨gb413, 4, none⟩ = some (.int .i64 a0_4) ∧ w'.cell? ⟨gb413, 5, none⟩ = some (.int .i64 a0_5) ∧ w'.cell? ⟨gb413, 6, none⟩ = some (.int .i64 a0_6) ∧ w'.cell? ⟨gb413, 7, none⟩ = some (.int .i64 a0_7) ∧ w'.cell? ⟨gb413, 8, none⟩ = some (.int .i64 a0_8) ∧ w'.cell? ⟨gb413, 9, none⟩ = some (.int .i64 a0_9) ∧ w'.cell? ⟨gb413, 10, none⟩ = some (.int .i64 a0_10) ∧ w'.cell? ⟨gb413, 11, none⟩ = some (.int .i64 a0_11)) ∧ (w'.heap[gb413]? = some (.cells #[.int .i64 a0_0, .int .i64 a0_1, .int .i64 a0_2, .int .i64 a0_3, .int .i64 a0_4, .int .i64 a0_5, .int .i64 a0_6, .int .i64 a0_7, .int .i64 a0_8, .int .i64 a0_9, .int .i64 a0_10, .int .i64 a0_11] 23 (0, 0))) ∧ (w'.heap[gb414]? = some (.cells #[.int .i64 a1_0, .int .i64 a1_1, .int .i64 a1_2, .int .i64 a1_3] 57 (0, 0))) ∧ (w'.heap[gb415]? = some (.cells #[.int .i64 0, .int .i64 0] 25 (0, 0))) ∧ (w'.heap[gb421]? = some (.cells #[.int .i64 t418, .int .i64 t420] 25 (0, 0))) ∧ (Below w.heap.size w w')) ?_ ?_
               rotate_left
               ·intro hJ2
                refine join_ (σ := Value) 7 #[true, true, false, false, false, true, true, true, true, false, false, false, false] (fun s_ => [(37, s_)]) (fun s_ w' => (w'.cell? ⟨gb413, 0, none⟩ = some (.int .i64 a0_0) ∧ w'.cell? ⟨gb413, 1, none⟩ = some (.int .i64 a0_1) ∧ w'.cell? ⟨gb413, 2, none⟩ = some (.int .i64 a0_2) ∧ w'.cell? ⟨gb413, 3, none⟩ = some (.int .i64 a0_3) ∧ w'.cell? ⟨gb413, 4, none⟩ = some (.int .i64 a0_4) ∧ w'.cell? ⟨gb413, 5, none⟩ = some (.int .i64 a0_5) ∧ w'.cell? ⟨gb413, 6, none⟩ = some (.int .i64 a0_6) ∧ w'.cell? ⟨gb413, 7, none⟩ = some (.int .i64 a0_7) ∧ w'.cell? ⟨gb413, 8, none⟩ = some (.int .i64 a0_8) ∧ w'.cell? ⟨gb413, 9, none⟩ = some (.int .i64 a0_9) ∧ w'.cell? ⟨gb413, 10, none⟩ = some (.int .i64 a0_10) ∧ w'.cell? ⟨gb413, 11, none⟩ = some (.int .i64 a0_11)) ∧ (Kd.R (Kd.int .i64) 3 w' w.heap.size (fun _ => True) s_ y427) ∧ (w'.heap[gb413]? = some (.cells #[.int .i64 a0_0, .int .i64 a0_1, .int .i64 a0_2, .int .i64 a0_3, .int .i64 a0_4, .int .i64 a0_5, .int .i64 a0_6, .int .i64 a0_7, .int .i64 a0_8, .int .i64 a0_9, .int .i64 a0_10, .int .i64 a0_11] 23 (0, 0))) ∧ (w'.heap[gb414]? = some (.cells #[.int .i64 a1_0, .int .i64 a1_1, .int .i64 a1_2, .int .i64 a1_3] 57 (0, 0))) ∧ (w'.heap[gb415]? = some (.cells #[.int .i64 0, .int .i64 0] 25 (0, 0))) ∧ (w'.heap[gb421]? = some (.cells #[.int .i64 t418, .int .i64 t420] 25 (0, 0))) ∧ (Below w.heap.size w w')) ?_ ?_
                rotate_left
                ·intro hJ8
                 refine join_ (σ := Nat) 7 #[true, true, false, false, false, true, true, true, false, false, false, true, false] (fun s_ => [(8, .pointer (some ⟨s_, 0, none⟩))]) (fun s_ w' => (w'.cell? ⟨gb413, 0, none⟩ = some (.int .i64 a0_0) ∧ w'.cell? ⟨gb413, 1, none⟩ = some (.int .i64 a0_1) ∧ w'.cell? ⟨gb413, 2, none⟩ = some (.int .i64 a0_2) ∧ w'.cell? ⟨gb413, 3, none⟩ = some (.int .i64 a0_3) ∧ w'.cell? ⟨gb413, 4, none⟩ = some (.int .i64 a0_4) ∧ w'.cell? ⟨gb413, 5, none⟩ = some (.int .i64 a0_5) ∧ w'.cell? ⟨gb413, 6, none⟩ = some (.int .i64 a0_6) ∧ w'.cell? ⟨gb413, 7, none⟩ = some (.int .i64 a0_7) ∧ w'.cell? ⟨gb413, 8, none⟩ = some (.int .i64 a0_8) ∧ w'.cell? ⟨gb413, 9, none⟩ = some (.int .i64 a0_9) ∧ w'.cell? ⟨gb413, 10, none⟩ = some (.int .i64 a0_10) ∧ w'.cell? ⟨gb413, 11, none⟩ = some (.int .i64 a0_11)) ∧ (w'.heap[gb413]? = some (.cells #[.int .i64 a0_0, .int .i64 a0_1, .int .i64 a0_2, .int .i64 a0_3, .int .i64 a0_4, .int .i64 a0_5, .int .i64 a0_6, .int .i64 a0_7, .int .i64 a0_8, .int .i64 a0_9, .int .i64 a0_10, .int .i64 a0_11] 23 (0, 0))) ∧ (w'.heap[gb414]? = some (.cells #[.int .i64 a1_0, .int .i64 a1_1, .int .i64 a1_2, .int .i64 a1_3] 57 (0, 0))) ∧ (w'.heap[gb415]? = some (.cells #[.int .i64 0, .int .i64 0] 25 (0, 0))) ∧ (w'.heap[gb421]? = some (.cells #[.int .i64 t418, .int .i64 t420] 25 (0, 0))) ∧ (w'.heap[s_]? = some (.cells #[.int .i64 0, .int .i64 0] 25 (0, 0))) ∧ (w.heap.size ≤ s_) ∧ (w.heap.size ≤ s_) ∧ (gb413 ≠ s_) ∧ (s_ ≠ gb413) ∧ (gb414 ≠ s_) ∧ (s_ ≠ gb414) ∧ (gb415 ≠ s_) ∧ (s_ ≠ gb415) ∧ (gb421 ≠ s_) ∧ (s_ ≠ gb421) ∧ (Below w.heap.size w w')) ?_ ?_
                 rotate_left
                 ·intro hJ11
                  refine three_ (i := 2) (j := 8) (k := 11) (Ni := some 31) (Nj := some 37) (Nk := some 8) #[true, true, true, false, false, true, true, true, false, false, false, false, false] #[true, true, false, false, false, true, true, true, true, false, false, false, false] #[true, true, false, false, false, true, true, true, false, false, false, true, false] rfl rfl rfl rfl rfl rfl (three_of HT_.out (by kernel_rfl)) (by decide) (by decide) (by decide) (fun K hK => ?_) (fun K hK => ?_) (fun K hK => ?_)
                  ·skip
                   refine goes_ Try.func53 (by kernel_rfl) rfl #[.agg #[.int .i64 a0_0, .int .i64 a0_1, .int .i64 a0_2, .int .i64 a0_3, .int .i64 a0_4, .int .i64 a0_5, .int .i64 a0_6, .int .i64 a0_7, .int .i64 a0_8, .int .i64 a0_9, .int .i64 a0_10, .int .i64 a0_11]] (by rfl) rfl rfl (by (try simp only [List.map_toArray, List.map_cons, List.map_nil]); first | done | rfl | (simp only [List.length_drop, List.length_take]; rfl)) ?_
                   with_reducible refine (probe_least.calls k a0_0 a0_1 a0_2 a0_3 a0_4 a0_5 a0_6 a0_7 a0_8 a0_9 a0_10 a0_11 t419 _ A8.out).mono ?_
                   rintro e w29 ⟨rfl, hb⟩
                   refine ⟨_, rfl, ?_⟩
                   have n0_ := Aside0.mk (blk_below (by with_reducible repeat first | exact BK413.out | apply bN) hb)
                   have n1_ := Aside0.mk (blk_below (by with_reducible repeat first | exact BK414.out | apply bN) hb)
                   have n2_ := Aside0.mk (blk_below (by with_reducible repeat first | exact BK415.out | apply bN) hb)
                   have n3_ := Aside0.mk (blk_below (by with_reducible repeat first | exact BK421.out | apply bN) hb)
                   have n4_ := Aside0.mk (below_step (by with_reducible repeat first | exact HB.out | apply pw_below_drewN) hb)
                   clear BK413 BK414 BK415 BK421 HB
                   have BK413 := n0_
                   have BK414 := n1_
                   have BK415 := n2_
                   have BK421 := n3_
                   have HB := n4_
                   clear n0_ n1_ n2_ n3_ n4_
                   (try clear hb)
                   (try clear hb2)
                   (try clear hk)
                   (try clear hi)
                   refine hK.out _ _ (c12 BK413.out) (fun hHeld => ?_)
                   clear hK K
                   refine norm_ (a' := ?_) ?_ ?_
                   rotate_left
                   ·show Act.put _ (some 31) _ = _
                    simp only [Act.put, List.setIfInBounds_toArray, List.set_cons_zero, List.set_cons_succ, i64_w, i32_w]
                    rfl
                   exact norm_ (by simp only [putAll, Act.put, List.setIfInBounds_toArray, List.set_cons_zero, List.set_cons_succ] <;> rfl) (hJ2 () _ ⟨hHeld, (by with_reducible repeat first | exact BK413.out | apply bN), (by with_reducible repeat first | exact BK414.out | apply bN), (by with_reducible repeat first | exact BK415.out | apply bN), (by with_reducible repeat first | exact BK421.out | apply bN), (by repeat (first | (with_reducible first | exact HB.out | apply below_alloc | apply pw_below_drewN | apply below_drew1 | refine below_set ?_ GE413.out | refine below_set ?_ GE414.out | refine below_set ?_ GE415.out | refine below_set ?_ GE421.out) | exact HB.out))⟩)
                  ·skip
                   refine Kd.R_lit_step (Kd.int .i64) _ 3 ?hg (N := 37) ?hd (xs := ([t417, a0_5] : List Int)) (inner := [.int .i64 t417, .int .i64 a0_5]) (ok := fun _ => True) (okp := fun _ => True) ?hr ?hp (fun _ hk => hk) trivial (Below.refl _ _) (Nat.le_refl _) (by simp) ?_; (case hd => rfl); (case hg => rfl); (case hr => first | (go_simp; done) | (go_simp; rfl)); (case hp => exact (Reps.one (show Kd.M (Kd.int .i64) _ _ _ t417 [.int .i64 t417] from rfl) (Reps.one (show Kd.M (Kd.int .i64) _ _ _ a0_5 [.int .i64 a0_5] from rfl) (Reps.none _ _))))
                   intro v428 w29 ho30 hb hg_ hnew_
                   clear hg_ hnew_
                   (first | rw [← Ny427.out] at ho30 | (simp only [Int.reduceToNat] at ho30; rw [← Ny427.out] at ho30))
                   have n0_ := Aside0.mk (Kd.R_lower ho30 (below_size (by with_reducible repeat first | exact HB.out | apply pw_below_drewN)))
                   have n1_ := Aside0.mk (blk_below (by with_reducible repeat first | exact BK413.out | apply bN) hb)
                   have n2_ := Aside0.mk (blk_below (by with_reducible repeat first | exact BK414.out | apply bN) hb)
                   have n3_ := Aside0.mk (blk_below (by with_reducible repeat first | exact BK415.out | apply bN) hb)
                   have n4_ := Aside0.mk (blk_below (by with_reducible repeat first | exact BK421.out | apply bN) hb)
                   have n5_ := Aside0.mk (below_step (by with_reducible repeat first | exact HB.out | apply pw_below_drewN) hb)
                   clear BK413 BK414 BK415 BK421 HB
                   have HO429 := n0_
                   have BK413 := n1_
                   have BK414 := n2_
                   have BK415 := n3_
                   have BK421 := n4_
                   have HB := n5_
                   clear n0_ n1_ n2_ n3_ n4_ n5_ hb ho30
                   refine hK.out _ _ (c12 BK413.out) (fun hHeld => ?_)
                   clear hK K
                   refine norm_ (a' := ?_) ?_ ?_
                   rotate_left
                   ·show Act.put _ (some 37) _ = _
                    simp only [Act.put, List.setIfInBounds_toArray, List.set_cons_zero, List.set_cons_succ, i64_w, i32_w]
                    rfl
                   exact norm_ (by simp only [putAll, Act.put, List.setIfInBounds_toArray, List.set_cons_zero, List.set_cons_succ] <;> rfl) (hJ8 (v428) _ ⟨hHeld, (by (with_reducible repeat (first | apply Kd.R_alloc | apply Kd.R_drewN | apply Kd.R_drew)); exact HO429.out), (by with_reducible repeat first | exact BK413.out | apply bN), (by with_reducible repeat first | exact BK414.out | apply bN), (by with_reducible repeat first | exact BK415.out | apply bN), (by with_reducible repeat first | exact BK421.out | apply bN), (by repeat (first | (with_reducible first | exact HB.out | apply below_alloc | apply pw_below_drewN | apply below_drew1 | refine below_set ?_ GE413.out | refine below_set ?_ GE414.out | refine below_set ?_ GE415.out | refine below_set ?_ GE421.out) | exact HB.out))⟩)
                  ·skip
                   refine box_step ?hg (N := 8) ?hd (cs := #[.int .i64 0, .int .i64 0]) (t := 25) ?hr ?_; (case hd => rfl); (case hg => rfl); (case hr => first | (go_simp; done) | (go_simp; rfl))
                   intro gb431 hg w29 hbox hb
                   have n0_ := Aside0.mk (blk_below (by with_reducible repeat first | exact BK413.out | apply bN) hb)
                   have n1_ := Aside0.mk (blk_below (by with_reducible repeat first | exact BK414.out | apply bN) hb)
                   have n2_ := Aside0.mk (blk_below (by with_reducible repeat first | exact BK415.out | apply bN) hb)
                   have n3_ := Aside0.mk (blk_below (by with_reducible repeat first | exact BK421.out | apply bN) hb)
                   have n4_ := Aside0.mk (below_step (by with_reducible repeat first | exact HB.out | apply pw_below_drewN) hb)
                   have n5_ := Aside0.mk (hbox)
                   have n6_ := Aside0.mk ((by rw [hg]; exact (below_size (by with_reducible repeat first | exact HB.out | apply pw_below_drewN)) : w.heap.size ≤ gb431))
                   have n7_ := Aside0.mk ((by rw [hg]; exact (below_size (by with_reducible repeat first | exact HB.out | apply pw_below_drewN)) : w.heap.size ≤ gb431))
                   have n8_ := Aside0.mk ((by rw [hg]; exact Nat.ne_of_lt (blk_lt (by with_reducible repeat first | exact BK413.out | apply bN)) : gb413 ≠ gb431))
                   have n9_ := Aside0.mk ((by rw [hg]; exact Nat.ne_of_gt (blk_lt (by with_reducible repeat first | exact BK413.out | apply bN)) : gb431 ≠ gb413))
                   have n10_ := Aside0.mk ((by rw [hg]; exact Nat.ne_of_lt (blk_lt (by with_reducible repeat first | exact BK414.out | apply bN)) : gb414 ≠ gb431))
                   have n11_ := Aside0.mk ((by rw [hg]; exact Nat.ne_of_gt (blk_lt (by with_reducible repeat first | exact BK414.out | apply bN)) : gb431 ≠ gb414))
                   have n12_ := Aside0.mk ((by rw [hg]; exact Nat.ne_of_lt (blk_lt (by with_reducible repeat first | exact BK415.out | apply bN)) : gb415 ≠ gb431))
                   have n13_ := Aside0.mk ((by rw [hg]; exact Nat.ne_of_gt (blk_lt (by with_reducible repeat first | exact BK415.out | apply bN)) : gb431 ≠ gb415))
                   have n14_ := Aside0.mk ((by rw [hg]; exact Nat.ne_of_lt (blk_lt (by with_reducible repeat first | exact BK421.out | apply bN)) : gb421 ≠ gb431))
                   have n15_ := Aside0.mk ((by rw [hg]; exact Nat.ne_of_gt (blk_lt (by with_reducible repeat first | exact BK421.out | apply bN)) : gb431 ≠ gb421))
                   clear BK413 BK414 BK415 BK421 HB
                   have BK413 := n0_
                   have BK414 := n1_
                   have BK415 := n2_
                   have BK421 := n3_
                   have HB := n4_
                   have BK431 := n5_
                   have GW431 := n6_
                   have GE431 := n7_
                   have NB413_431 := n8_
                   have NB431_413 := n9_
                   have NB414_431 := n10_
                   have NB431_414 := n11_
                   have NB415_431 := n12_
                   have NB431_415 := n13_
                   have NB421_431 := n14_
                   have NB431_421 := n15_
                   clear n0_ n1_ n2_ n3_ n4_ n5_ n6_ n7_ n8_ n9_ n10_ n11_ n12_ n13_ n14_ n15_ hb hbox hg
                   refine hK.out _ _ (c12 BK413.out) (fun hHeld => ?_)
                   clear hK K
                   refine norm_ (a' := ?_) ?_ ?_
                   rotate_left
                   ·show Act.put _ (some 8) _ = _
                    simp only [Act.put, List.setIfInBounds_toArray, List.set_cons_zero, List.set_cons_succ, i64_w, i32_w]
                    rfl
                   exact norm_ (by simp only [putAll, Act.put, List.setIfInBounds_toArray, List.set_cons_zero, List.set_cons_succ] <;> rfl) (hJ11 (gb431) _ ⟨hHeld, (by with_reducible repeat first | exact BK413.out | apply bN), (by with_reducible repeat first | exact BK414.out | apply bN), (by with_reducible repeat first | exact BK415.out | apply bN), (by with_reducible repeat first | exact BK421.out | apply bN), (by with_reducible repeat first | exact BK431.out | apply bN), GW431.out, GE431.out, NB413_431.out, NB431_413.out, NB414_431.out, NB431_414.out, NB415_431.out, NB431_415.out, NB421_431.out, NB431_421.out, (by repeat (first | (with_reducible first | exact HB.out | apply below_alloc | apply pw_below_drewN | apply below_drew1 | refine below_set ?_ GE413.out | refine below_set ?_ GE414.out | refine below_set ?_ GE415.out | refine below_set ?_ GE421.out | refine below_set ?_ GE431.out) | exact HB.out))⟩)
                 ·skip
                  rintro gb431 w30 ⟨hS_, h0_, h1_, h2_, h3_, h4_, h5_, h6_, h7_, h8_, h9_, h10_, h11_, h12_, h13_, h14_, h15_⟩
                  have n0_ : Aside0 (w30.heap[gb413]? = some (.cells #[.int .i64 a0_0, .int .i64 a0_1, .int .i64 a0_2, .int .i64 a0_3, .int .i64 a0_4, .int .i64 a0_5, .int .i64 a0_6, .int .i64 a0_7, .int .i64 a0_8, .int .i64 a0_9, .int .i64 a0_10, .int .i64 a0_11] 23 (0, 0))) := ⟨h0_⟩
                  have n1_ : Aside0 (w30.heap[gb414]? = some (.cells #[.int .i64 a1_0, .int .i64 a1_1, .int .i64 a1_2, .int .i64 a1_3] 57 (0, 0))) := ⟨h1_⟩
                  have n2_ : Aside0 (w30.heap[gb415]? = some (.cells #[.int .i64 0, .int .i64 0] 25 (0, 0))) := ⟨h2_⟩
                  have n3_ : Aside0 (w30.heap[gb421]? = some (.cells #[.int .i64 t418, .int .i64 t420] 25 (0, 0))) := ⟨h3_⟩
                  have n4_ : Aside0 (w30.heap[gb431]? = some (.cells #[.int .i64 0, .int .i64 0] 25 (0, 0))) := ⟨h4_⟩
                  have n5_ : Aside0 (w.heap.size ≤ gb431) := ⟨h5_⟩
                  have n6_ : Aside0 (w.heap.size ≤ gb431) := ⟨h6_⟩
                  have n7_ : Aside0 (gb413 ≠ gb431) := ⟨h7_⟩
                  have n8_ : Aside0 (gb431 ≠ gb413) := ⟨h8_⟩
                  have n9_ : Aside0 (gb414 ≠ gb431) := ⟨h9_⟩
                  have n10_ : Aside0 (gb431 ≠ gb414) := ⟨h10_⟩
                  have n11_ : Aside0 (gb415 ≠ gb431) := ⟨h11_⟩
                  have n12_ : Aside0 (gb431 ≠ gb415) := ⟨h12_⟩
                  have n13_ : Aside0 (gb421 ≠ gb431) := ⟨h13_⟩
                  have n14_ : Aside0 (gb431 ≠ gb421) := ⟨h14_⟩
                  have n15_ : Aside0 (Below w.heap.size w w30) := ⟨h15_⟩
                  clear BK413 BK414 BK415 BK421 HB h0_ h1_ h2_ h3_ h4_ h5_ h6_ h7_ h8_ h9_ h10_ h11_ h12_ h13_ h14_ h15_
                  have BK413 := n0_
                  have BK414 := n1_
                  have BK415 := n2_
                  have BK421 := n3_
                  have BK431 := n4_
                  have GW431 := n5_
                  have GE431 := n6_
                  have NB413_431 := n7_
                  have NB431_413 := n8_
                  have NB414_431 := n9_
                  have NB431_414 := n10_
                  have NB415_431 := n11_
                  have NB431_415 := n12_
                  have NB421_431 := n13_
                  have NB431_421 := n14_
                  have HB := n15_
                  clear n0_ n1_ n2_ n3_ n4_ n5_ n6_ n7_ n8_ n9_ n10_ n11_ n12_ n13_ n14_ n15_
                  have hHeld := hS_
                  try dsimp only at hHeld
                  refine norm_ (a' := ?_) ?_ ?_
                  rotate_left
                  ·simp only [putAll, Act.put, List.setIfInBounds_toArray, List.set_cons_zero, List.set_cons_succ]
                   rfl
                  refine two_ (i := 2) (j := 8) (Ni := some 31) (Nj := some 37) #[true, true, true, false, false, true, true, true, false, false, false, true, false] #[true, true, false, false, false, true, true, true, true, false, false, true, false] rfl rfl rfl rfl (two_of HT_.out (by kernel_rfl)) (by decide) (by decide) (fun K hK => ?_) (fun K hK => ?_)
                  ·skip
                   refine goes_ Try.func53 (by kernel_rfl) rfl #[.agg #[.int .i64 a0_0, .int .i64 a0_1, .int .i64 a0_2, .int .i64 a0_3, .int .i64 a0_4, .int .i64 a0_5, .int .i64 a0_6, .int .i64 a0_7, .int .i64 a0_8, .int .i64 a0_9, .int .i64 a0_10, .int .i64 a0_11]] (by rfl) rfl rfl (by (try simp only [List.map_toArray, List.map_cons, List.map_nil]); first | done | rfl | (simp only [List.length_drop, List.length_take]; rfl)) ?_
                   with_reducible refine (probe_least.calls k a0_0 a0_1 a0_2 a0_3 a0_4 a0_5 a0_6 a0_7 a0_8 a0_9 a0_10 a0_11 t419 _ A8.out).mono ?_
                   rintro e w31 ⟨rfl, hb⟩
                   refine ⟨_, rfl, ?_⟩
                   have n0_ := Aside0.mk (blk_below (by with_reducible repeat first | exact BK413.out | apply bN) hb)
                   have n1_ := Aside0.mk (blk_below (by with_reducible repeat first | exact BK414.out | apply bN) hb)
                   have n2_ := Aside0.mk (blk_below (by with_reducible repeat first | exact BK415.out | apply bN) hb)
                   have n3_ := Aside0.mk (blk_below (by with_reducible repeat first | exact BK421.out | apply bN) hb)
                   have n4_ := Aside0.mk (blk_below (by with_reducible repeat first | exact BK431.out | apply bN) hb)
                   have n5_ := Aside0.mk (below_step (by with_reducible repeat first | exact HB.out | apply pw_below_drewN) hb)
                   clear BK413 BK414 BK415 BK421 BK431 HB
                   have BK413 := n0_
                   have BK414 := n1_
                   have BK415 := n2_
                   have BK421 := n3_
                   have BK431 := n4_
                   have HB := n5_
                   clear n0_ n1_ n2_ n3_ n4_ n5_
                   (try clear hb)
                   (try clear hb2)
                   (try clear hk)
                   (try clear hi)
                   refine hK.out _ _ (c12 BK413.out) (fun hHeld => ?_)
                   clear hK K
                   refine norm_ (a' := ?_) ?_ ?_
                   rotate_left
                   ·show Act.put _ (some 31) _ = _
                    simp only [Act.put, List.setIfInBounds_toArray, List.set_cons_zero, List.set_cons_succ, i64_w, i32_w]
                    rfl
                   exact norm_ (by simp only [putAll, Act.put, List.setIfInBounds_toArray, List.set_cons_zero, List.set_cons_succ] <;> rfl) (hJ2_11 (gb431) _ ⟨hHeld, (by with_reducible repeat first | exact BK413.out | apply bN), (by with_reducible repeat first | exact BK414.out | apply bN), (by with_reducible repeat first | exact BK415.out | apply bN), (by with_reducible repeat first | exact BK421.out | apply bN), (by with_reducible repeat first | exact BK431.out | apply bN), GW431.out, GE431.out, NB413_431.out, NB431_413.out, NB414_431.out, NB431_414.out, NB415_431.out, NB431_415.out, NB421_431.out, NB431_421.out, (by repeat (first | (with_reducible first | exact HB.out | apply below_alloc | apply pw_below_drewN | apply below_drew1 | refine below_set ?_ GE413.out | refine below_set ?_ GE414.out | refine below_set ?_ GE415.out | refine below_set ?_ GE421.out | refine below_set ?_ GE431.out) | exact HB.out))⟩)
                  ·skip
                   refine Kd.R_lit_step (Kd.int .i64) _ 3 ?hg (N := 37) ?hd (xs := ([t417, a0_5] : List Int)) (inner := [.int .i64 t417, .int .i64 a0_5]) (ok := fun _ => True) (okp := fun _ => True) ?hr ?hp (fun _ hk => hk) trivial (Below.refl _ _) (Nat.le_refl _) (by simp) ?_; (case hd => rfl); (case hg => rfl); (case hr => first | (go_simp; done) | (go_simp; rfl)); (case hp => exact (Reps.one (show Kd.M (Kd.int .i64) _ _ _ t417 [.int .i64 t417] from rfl) (Reps.one (show Kd.M (Kd.int .i64) _ _ _ a0_5 [.int .i64 a0_5] from rfl) (Reps.none _ _))))
                   intro v428 w31 ho32 hb hg_ hnew_
                   clear hg_ hnew_
                   (first | rw [← Ny427.out] at ho32 | (simp only [Int.reduceToNat] at ho32; rw [← Ny427.out] at ho32))
                   have n0_ := Aside0.mk (Kd.R_lower ho32 (below_size (by with_reducible repeat first | exact HB.out | apply pw_below_drewN)))
                   have n1_ := Aside0.mk (blk_below (by with_reducible repeat first | exact BK413.out | apply bN) hb)
                   have n2_ := Aside0.mk (blk_below (by with_reducible repeat first | exact BK414.out | apply bN) hb)
                   have n3_ := Aside0.mk (blk_below (by with_reducible repeat first | exact BK415.out | apply bN) hb)
                   have n4_ := Aside0.mk (blk_below (by with_reducible repeat first | exact BK421.out | apply bN) hb)
                   have n5_ := Aside0.mk (blk_below (by with_reducible repeat first | exact BK431.out | apply bN) hb)
                   have n6_ := Aside0.mk (below_step (by with_reducible repeat first | exact HB.out | apply pw_below_drewN) hb)
                   clear BK413 BK414 BK415 BK421 BK431 HB
                   have HO429 := n0_
                   have BK413 := n1_
                   have BK414 := n2_
                   have BK415 := n3_
                   have BK421 := n4_
                   have BK431 := n5_
                   have HB := n6_
                   clear n0_ n1_ n2_ n3_ n4_ n5_ n6_ hb ho32
                   refine hK.out _ _ (c12 BK413.out) (fun hHeld => ?_)
                   clear hK K
                   refine norm_ (a' := ?_) ?_ ?_
                   rotate_left
                   ·show Act.put _ (some 37) _ = _
                    simp only [Act.put, List.setIfInBounds_toArray, List.set_cons_zero, List.set_cons_succ, i64_w, i32_w]
                    rfl
                   exact norm_ (by simp only [putAll, Act.put, List.setIfInBounds_toArray, List.set_cons_zero, List.set_cons_succ] <;> rfl) (hJ8_11 (_, gb431) _ ⟨hHeld, (by (with_reducible repeat (first | apply Kd.R_alloc | apply Kd.R_drewN | apply Kd.R_drew)); exact HO429.out), (by with_reducible repeat first | exact BK413.out | apply bN), (by with_reducible repeat first | exact BK414.out | apply bN), (by with_reducible repeat first | exact BK415.out | apply bN), (by with_reducible repeat first | exact BK421.out | apply bN), (by with_reducible repeat first | exact BK431.out | apply bN), GW431.out, GE431.out, NB413_431.out, NB431_413.out, NB414_431.out, NB431_414.out, NB415_431.out, NB431_415.out, NB421_431.out, NB431_421.out, (by repeat (first | (with_reducible first | exact HB.out | apply below_alloc | apply pw_below_drewN | apply below_drew1 | refine below_set ?_ GE413.out | refine below_set ?_ GE414.out | refine below_set ?_ GE415.out | refine below_set ?_ GE421.out | refine below_set ?_ GE431.out) | exact HB.out))⟩)
                ·skip
                 rintro v428 w31 ⟨hS_, h0_, h1_, h2_, h3_, h4_, h5_⟩
                 have n0_ : Aside0 (Kd.R (Kd.int .i64) 3 w31 w.heap.size (fun _ => True) v428 y427) := ⟨h0_⟩
                 have n1_ : Aside0 (w31.heap[gb413]? = some (.cells #[.int .i64 a0_0, .int .i64 a0_1, .int .i64 a0_2, .int .i64 a0_3, .int .i64 a0_4, .int .i64 a0_5, .int .i64 a0_6, .int .i64 a0_7, .int .i64 a0_8, .int .i64 a0_9, .int .i64 a0_10, .int .i64 a0_11] 23 (0, 0))) := ⟨h1_⟩
                 have n2_ : Aside0 (w31.heap[gb414]? = some (.cells #[.int .i64 a1_0, .int .i64 a1_1, .int .i64 a1_2, .int .i64 a1_3] 57 (0, 0))) := ⟨h2_⟩
                 have n3_ : Aside0 (w31.heap[gb415]? = some (.cells #[.int .i64 0, .int .i64 0] 25 (0, 0))) := ⟨h3_⟩
                 have n4_ : Aside0 (w31.heap[gb421]? = some (.cells #[.int .i64 t418, .int .i64 t420] 25 (0, 0))) := ⟨h4_⟩
                 have n5_ : Aside0 (Below w.heap.size w w31) := ⟨h5_⟩
                 clear BK413 BK414 BK415 BK421 HB h0_ h1_ h2_ h3_ h4_ h5_
                 have HO429 := n0_
                 have BK413 := n1_
                 have BK414 := n2_
                 have BK415 := n3_
                 have BK421 := n4_
                 have HB := n5_
                 clear n0_ n1_ n2_ n3_ n4_ n5_
                 have hHeld := hS_
                 try dsimp only at hHeld
                 refine norm_ (a' := ?_) ?_ ?_
                 rotate_left
                 ·simp only [putAll, Act.put, List.setIfInBounds_toArray, List.set_cons_zero, List.set_cons_succ]
                  rfl
                 refine two_ (i := 2) (j := 11) (Ni := some 31) (Nj := some 8) #[true, true, true, false, false, true, true, true, true, false, false, false, false] #[true, true, false, false, false, true, true, true, true, false, false, true, false] rfl rfl rfl rfl (two_of HT_.out (by kernel_rfl)) (by decide) (by decide) (fun K hK => ?_) (fun K hK => ?_)
                 ·skip
                  refine goes_ Try.func53 (by kernel_rfl) rfl #[.agg #[.int .i64 a0_0, .int .i64 a0_1, .int .i64 a0_2, .int .i64 a0_3, .int .i64 a0_4, .int .i64 a0_5, .int .i64 a0_6, .int .i64 a0_7, .int .i64 a0_8, .int .i64 a0_9, .int .i64 a0_10, .int .i64 a0_11]] (by rfl) rfl rfl (by (try simp only [List.map_toArray, List.map_cons, List.map_nil]); first | done | rfl | (simp only [List.length_drop, List.length_take]; rfl)) ?_
                  with_reducible refine (probe_least.calls k a0_0 a0_1 a0_2 a0_3 a0_4 a0_5 a0_6 a0_7 a0_8 a0_9 a0_10 a0_11 t419 _ A8.out).mono ?_
                  rintro e w32 ⟨rfl, hb⟩
                  refine ⟨_, rfl, ?_⟩
                  have n0_ := Aside0.mk (Kd.R_below (by (with_reducible repeat (first | apply Kd.R_alloc | apply Kd.R_drewN | apply Kd.R_drew)); exact HO429.out) hb)
                  have n1_ := Aside0.mk (blk_below (by with_reducible repeat first | exact BK413.out | apply bN) hb)
                  have n2_ := Aside0.mk (blk_below (by with_reducible repeat first | exact BK414.out | apply bN) hb)
                  have n3_ := Aside0.mk (blk_below (by with_reducible repeat first | exact BK415.out | apply bN) hb)
                  have n4_ := Aside0.mk (blk_below (by with_reducible repeat first | exact BK421.out | apply bN) hb)
                  have n5_ := Aside0.mk (below_step (by with_reducible repeat first | exact HB.out | apply pw_below_drewN) hb)
                  clear HO429 BK413 BK414 BK415 BK421 HB
                  have HO429 := n0_
                  have BK413 := n1_
                  have BK414 := n2_
                  have BK415 := n3_
                  have BK421 := n4_
                  have HB := n5_
                  clear n0_ n1_ n2_ n3_ n4_ n5_
                  (try clear hb)
                  (try clear hb2)
                  (try clear hk)
                  (try clear hi)
                  refine hK.out _ _ (c12 BK413.out) (fun hHeld => ?_)
                  clear hK K
                  refine norm_ (a' := ?_) ?_ ?_
                  rotate_left
                  ·show Act.put _ (some 31) _ = _
                   simp only [Act.put, List.setIfInBounds_toArray, List.set_cons_zero, List.set_cons_succ, i64_w, i32_w]
                   rfl
                  exact norm_ (by simp only [putAll, Act.put, List.setIfInBounds_toArray, List.set_cons_zero, List.set_cons_succ] <;> rfl) (hJ2_8 (v428) _ ⟨hHeld, (by (with_reducible repeat (first | apply Kd.R_alloc | apply Kd.R_drewN | apply Kd.R_drew)); exact HO429.out), (by with_reducible repeat first | exact BK413.out | apply bN), (by with_reducible repeat first | exact BK414.out | apply bN), (by with_reducible repeat first | exact BK415.out | apply bN), (by with_reducible repeat first | exact BK421.out | apply bN), (by repeat (first | (with_reducible first | exact HB.out | apply below_alloc | apply pw_below_drewN | apply below_drew1 | refine below_set ?_ GE413.out | refine below_set ?_ GE414.out | refine below_set ?_ GE415.out | refine below_set ?_ GE421.out) | exact HB.out))⟩)
                 ·skip
                  refine box_step ?hg (N := 8) ?hd (cs := #[.int .i64 0, .int .i64 0]) (t := 25) ?hr ?_; (case hd => rfl); (case hg => rfl); (case hr => first | (go_simp; done) | (go_simp; rfl))
                  intro gb431 hg w32 hbox hb
                  have n0_ := Aside0.mk (Kd.R_below (by (with_reducible repeat (first | apply Kd.R_alloc | apply Kd.R_drewN | apply Kd.R_drew)); exact HO429.out) hb)
                  have n1_ := Aside0.mk (blk_below (by with_reducible repeat first | exact BK413.out | apply bN) hb)
                  have n2_ := Aside0.mk (blk_below (by with_reducible repeat first | exact BK414.out | apply bN) hb)
                  have n3_ := Aside0.mk (blk_below (by with_reducible repeat first | exact BK415.out | apply bN) hb)
                  have n4_ := Aside0.mk (blk_below (by with_reducible repeat first | exact BK421.out | apply bN) hb)
                  have n5_ := Aside0.mk (below_step (by with_reducible repeat first | exact HB.out | apply pw_below_drewN) hb)
                  have n6_ := Aside0.mk (hbox)
                  have n7_ := Aside0.mk ((by rw [hg]; exact (below_size (by with_reducible repeat first | exact HB.out | apply pw_below_drewN)) : w.heap.size ≤ gb431))
                  have n8_ := Aside0.mk ((by rw [hg]; exact (below_size (by with_reducible repeat first | exact HB.out | apply pw_below_drewN)) : w.heap.size ≤ gb431))
                  have n9_ := Aside0.mk ((by rw [hg]; exact Nat.ne_of_lt (blk_lt (by with_reducible repeat first | exact BK413.out | apply bN)) : gb413 ≠ gb431))
                  have n10_ := Aside0.mk ((by rw [hg]; exact Nat.ne_of_gt (blk_lt (by with_reducible repeat first | exact BK413.out | apply bN)) : gb431 ≠ gb413))
                  have n11_ := Aside0.mk ((by rw [hg]; exact Nat.ne_of_lt (blk_lt (by with_reducible repeat first | exact BK414.out | apply bN)) : gb414 ≠ gb431))
                  have n12_ := Aside0.mk ((by rw [hg]; exact Nat.ne_of_gt (blk_lt (by with_reducible repeat first | exact BK414.out | apply bN)) : gb431 ≠ gb414))
                  have n13_ := Aside0.mk ((by rw [hg]; exact Nat.ne_of_lt (blk_lt (by with_reducible repeat first | exact BK415.out | apply bN)) : gb415 ≠ gb431))
                  have n14_ := Aside0.mk ((by rw [hg]; exact Nat.ne_of_gt (blk_lt (by with_reducible repeat first | exact BK415.out | apply bN)) : gb431 ≠ gb415))
                  have n15_ := Aside0.mk ((by rw [hg]; exact Nat.ne_of_lt (blk_lt (by with_reducible repeat first | exact BK421.out | apply bN)) : gb421 ≠ gb431))
                  have n16_ := Aside0.mk ((by rw [hg]; exact Nat.ne_of_gt (blk_lt (by with_reducible repeat first | exact BK421.out | apply bN)) : gb431 ≠ gb421))
                  clear HO429 BK413 BK414 BK415 BK421 HB
                  have HO429 := n0_
                  have BK413 := n1_
                  have BK414 := n2_
                  have BK415 := n3_
                  have BK421 := n4_
                  have HB := n5_
                  have BK431 := n6_
                  have GW431 := n7_
                  have GE431 := n8_
                  have NB413_431 := n9_
                  have NB431_413 := n10_
                  have NB414_431 := n11_
                  have NB431_414 := n12_
                  have NB415_431 := n13_
                  have NB431_415 := n14_
                  have NB421_431 := n15_
                  have NB431_421 := n16_
                  clear n0_ n1_ n2_ n3_ n4_ n5_ n6_ n7_ n8_ n9_ n10_ n11_ n12_ n13_ n14_ n15_ n16_ hb hbox hg
                  refine hK.out _ _ (c12 BK413.out) (fun hHeld => ?_)
                  clear hK K
                  refine norm_ (a' := ?_) ?_ ?_
                  rotate_left
                  ·show Act.put _ (some 8) _ = _
                   simp only [Act.put, List.setIfInBounds_toArray, List.set_cons_zero, List.set_cons_succ, i64_w, i32_w]
                   rfl
                  exact norm_ (by simp only [putAll, Act.put, List.setIfInBounds_toArray, List.set_cons_zero, List.set_cons_succ] <;> rfl) (hJ8_11 (_, gb431) _ ⟨hHeld, (by (with_reducible repeat (first | apply Kd.R_alloc | apply Kd.R_drewN | apply Kd.R_drew)); exact HO429.out), (by with_reducible repeat first | exact BK413.out | apply bN), (by with_reducible repeat first | exact BK414.out | apply bN), (by with_reducible repeat first | exact BK415.out | apply bN), (by with_reducible repeat first | exact BK421.out | apply bN), (by with_reducible repeat first | exact BK431.out | apply bN), GW431.out, GE431.out, NB413_431.out, NB431_413.out, NB414_431.out, NB431_414.out, NB415_431.out, NB431_415.out, NB421_431.out, NB431_421.out, (by repeat (first | (with_reducible first | exact HB.out | apply below_alloc | apply pw_below_drewN | apply below_drew1 | refine below_set ?_ GE413.out | refine below_set ?_ GE414.out | refine below_set ?_ GE415.out | refine below_set ?_ GE421.out | refine below_set ?_ GE431.out) | exact HB.out))⟩)
               ·skip
                rintro _ w30 ⟨hS_, h0_, h1_, h2_, h3_, h4_⟩
                have n0_ : Aside0 (w30.heap[gb413]? = some (.cells #[.int .i64 a0_0, .int .i64 a0_1, .int .i64 a0_2, .int .i64 a0_3, .int .i64 a0_4, .int .i64 a0_5, .int .i64 a0_6, .int .i64 a0_7, .int .i64 a0_8, .int .i64 a0_9, .int .i64 a0_10, .int .i64 a0_11] 23 (0, 0))) := ⟨h0_⟩
                have n1_ : Aside0 (w30.heap[gb414]? = some (.cells #[.int .i64 a1_0, .int .i64 a1_1, .int .i64 a1_2, .int .i64 a1_3] 57 (0, 0))) := ⟨h1_⟩
                have n2_ : Aside0 (w30.heap[gb415]? = some (.cells #[.int .i64 0, .int .i64 0] 25 (0, 0))) := ⟨h2_⟩
                have n3_ : Aside0 (w30.heap[gb421]? = some (.cells #[.int .i64 t418, .int .i64 t420] 25 (0, 0))) := ⟨h3_⟩
                have n4_ : Aside0 (Below w.heap.size w w30) := ⟨h4_⟩
                clear BK413 BK414 BK415 BK421 HB h0_ h1_ h2_ h3_ h4_
                have BK413 := n0_
                have BK414 := n1_
                have BK415 := n2_
                have BK421 := n3_
                have HB := n4_
                clear n0_ n1_ n2_ n3_ n4_
                have hHeld := hS_
                try dsimp only at hHeld
                refine norm_ (a' := ?_) ?_ ?_
                rotate_left
                ·simp only [putAll, Act.put, List.setIfInBounds_toArray, List.set_cons_zero, List.set_cons_succ]
                 rfl
                refine three_ (i := 3) (j := 8) (k := 11) (Ni := some 32) (Nj := some 37) (Nk := some 8) #[true, true, true, true, false, true, true, true, false, false, false, false, false] #[true, true, true, false, false, true, true, true, true, false, false, false, false] #[true, true, true, false, false, true, true, true, false, false, false, true, false] rfl rfl rfl rfl rfl rfl (three_of HT_.out (by kernel_rfl)) (by decide) (by decide) (by decide) (fun K hK => ?_) (fun K hK => ?_) (fun K hK => ?_)
                ·skip
                 refine Kd.R_lit_step (Kd.int .i64) _ 3 ?hg (N := 32) ?hd (xs := ([t417, t419] : List Int)) (inner := [.int .i64 t417, .int .i64 t419]) (ok := fun _ => True) (okp := fun _ => True) ?hr ?hp (fun _ hk => hk) trivial (Below.refl _ _) (Nat.le_refl _) (by simp) ?_; (case hd => rfl); (case hg => rfl); (case hr => first | (go_simp; done) | (go_simp; rfl)); (case hp => exact (Reps.one (show Kd.M (Kd.int .i64) _ _ _ t417 [.int .i64 t417] from rfl) (Reps.one (show Kd.M (Kd.int .i64) _ _ _ t419 [.int .i64 t419] from rfl) (Reps.none _ _))))
                 intro v424 w31 ho32 hb hg_ hnew_
                 clear hg_ hnew_
                 (first | rw [← Ny423.out] at ho32 | (simp only [Int.reduceToNat] at ho32; rw [← Ny423.out] at ho32))
                 have n0_ := Aside0.mk (Kd.R_lower ho32 (below_size (by with_reducible repeat first | exact HB.out | apply pw_below_drewN)))
                 have n1_ := Aside0.mk (blk_below (by with_reducible repeat first | exact BK413.out | apply bN) hb)
                 have n2_ := Aside0.mk (blk_below (by with_reducible repeat first | exact BK414.out | apply bN) hb)
                 have n3_ := Aside0.mk (blk_below (by with_reducible repeat first | exact BK415.out | apply bN) hb)
                 have n4_ := Aside0.mk (blk_below (by with_reducible repeat first | exact BK421.out | apply bN) hb)
                 have n5_ := Aside0.mk (below_step (by with_reducible repeat first | exact HB.out | apply pw_below_drewN) hb)
                 clear BK413 BK414 BK415 BK421 HB
                 have HO425 := n0_
                 have BK413 := n1_
                 have BK414 := n2_
                 have BK415 := n3_
                 have BK421 := n4_
                 have HB := n5_
                 clear n0_ n1_ n2_ n3_ n4_ n5_ hb ho32
                 refine hK.out _ _ (c12 BK413.out) (fun hHeld => ?_)
                 clear hK K
                 refine norm_ (a' := ?_) ?_ ?_
                 rotate_left
                 ·show Act.put _ (some 32) _ = _
                  simp only [Act.put, List.setIfInBounds_toArray, List.set_cons_zero, List.set_cons_succ, i64_w, i32_w]
                  rfl
                 exact norm_ (by simp only [putAll, Act.put, List.setIfInBounds_toArray, List.set_cons_zero, List.set_cons_succ] <;> rfl) (hJ2_3 (v424) _ ⟨hHeld, (by (with_reducible repeat (first | apply Kd.R_alloc | apply Kd.R_drewN | apply Kd.R_drew)); exact HO425.out), (by with_reducible repeat first | exact BK413.out | apply bN), (by with_reducible repeat first | exact BK414.out | apply bN), (by with_reducible repeat first | exact BK415.out | apply bN), (by with_reducible repeat first | exact BK421.out | apply bN), (by repeat (first | (with_reducible first | exact HB.out | apply below_alloc | apply pw_below_drewN | apply below_drew1 | refine below_set ?_ GE413.out | refine below_set ?_ GE414.out | refine below_set ?_ GE415.out | refine below_set ?_ GE421.out) | exact HB.out))⟩)
                ·skip
                 refine Kd.R_lit_step (Kd.int .i64) _ 3 ?hg (N := 37) ?hd (xs := ([t417, a0_5] : List Int)) (inner := [.int .i64 t417, .int .i64 a0_5]) (ok := fun _ => True) (okp := fun _ => True) ?hr ?hp (fun _ hk => hk) trivial (Below.refl _ _) (Nat.le_refl _) (by simp) ?_; (case hd => rfl); (case hg => rfl); (case hr => first | (go_simp; done) | (go_simp; rfl)); (case hp => exact (Reps.one (show Kd.M (Kd.int .i64) _ _ _ t417 [.int .i64 t417] from rfl) (Reps.one (show Kd.M (Kd.int .i64) _ _ _ a0_5 [.int .i64 a0_5] from rfl) (Reps.none _ _))))
                 intro v428 w31 ho32 hb hg_ hnew_
                 clear hg_ hnew_
                 (first | rw [← Ny427.out] at ho32 | (simp only [Int.reduceToNat] at ho32; rw [← Ny427.out] at ho32))
                 have n0_ := Aside0.mk (Kd.R_lower ho32 (below_size (by with_reducible repeat first | exact HB.out | apply pw_below_drewN)))
                 have n1_ := Aside0.mk (blk_below (by with_reducible repeat first | exact BK413.out | apply bN) hb)
                 have n2_ := Aside0.mk (blk_below (by with_reducible repeat first | exact BK414.out | apply bN) hb)
                 have n3_ := Aside0.mk (blk_below (by with_reducible repeat first | exact BK415.out | apply bN) hb)
                 have n4_ := Aside0.mk (blk_below (by with_reducible repeat first | exact BK421.out | apply bN) hb)
                 have n5_ := Aside0.mk (below_step (by with_reducible repeat first | exact HB.out | apply pw_below_drewN) hb)
                 clear BK413 BK414 BK415 BK421 HB
                 have HO429 := n0_
                 have BK413 := n1_
                 have BK414 := n2_
                 have BK415 := n3_
                 have BK421 := n4_
                 have HB := n5_
                 clear n0_ n1_ n2_ n3_ n4_ n5_ hb ho32
                 refine hK.out _ _ (c12 BK413.out) (fun hHeld => ?_)
                 clear hK K
                 refine norm_ (a' := ?_) ?_ ?_
                 rotate_left
                 ·show Act.put _ (some 37) _ = _
                  simp only [Act.put, List.setIfInBounds_toArray, List.set_cons_zero, List.set_cons_succ, i64_w, i32_w]
                  rfl
                 exact norm_ (by simp only [putAll, Act.put, List.setIfInBounds_toArray, List.set_cons_zero, List.set_cons_succ] <;> rfl) (hJ2_8 (v428) _ ⟨hHeld, (by (with_reducible repeat (first | apply Kd.R_alloc | apply Kd.R_drewN | apply Kd.R_drew)); exact HO429.out), (by with_reducible repeat first | exact BK413.out | apply bN), (by with_reducible repeat first | exact BK414.out | apply bN), (by with_reducible repeat first | exact BK415.out | apply bN), (by with_reducible repeat first | exact BK421.out | apply bN), (by repeat (first | (with_reducible first | exact HB.out | apply below_alloc | apply pw_below_drewN | apply below_drew1 | refine below_set ?_ GE413.out | refine below_set ?_ GE414.out | refine below_set ?_ GE415.out | refine below_set ?_ GE421.out) | exact HB.out))⟩)
                ·skip
                 refine box_step ?hg (N := 8) ?hd (cs := #[.int .i64 0, .int .i64 0]) (t := 25) ?hr ?_; (case hd => rfl); (case hg => rfl); (case hr => first | (go_simp; done) | (go_simp; rfl))
                 intro gb431 hg w31 hbox hb
                 have n0_ := Aside0.mk (blk_below (by with_reducible repeat first | exact BK413.out | apply bN) hb)
                 have n1_ := Aside0.mk (blk_below (by with_reducible repeat first | exact BK414.out | apply bN) hb)
                 have n2_ := Aside0.mk (blk_below (by with_reducible repeat first | exact BK415.out | apply bN) hb)
                 have n3_ := Aside0.mk (blk_below (by with_reducible repeat first | exact BK421.out | apply bN) hb)
                 have n4_ := Aside0.mk (below_step (by with_reducible repeat first | exact HB.out | apply pw_below_drewN) hb)
                 have n5_ := Aside0.mk (hbox)
                 have n6_ := Aside0.mk ((by rw [hg]; exact (below_size (by with_reducible repeat first | exact HB.out | apply pw_below_drewN)) : w.heap.size ≤ gb431))
                 have n7_ := Aside0.mk ((by rw [hg]; exact (below_size (by with_reducible repeat first | exact HB.out | apply pw_below_drewN)) : w.heap.size ≤ gb431))
                 have n8_ := Aside0.mk ((by rw [hg]; exact Nat.ne_of_lt (blk_lt (by with_reducible repeat first | exact BK413.out | apply bN)) : gb413 ≠ gb431))
                 have n9_ := Aside0.mk ((by rw [hg]; exact Nat.ne_of_gt (blk_lt (by with_reducible repeat first | exact BK413.out | apply bN)) : gb431 ≠ gb413))
                 have n10_ := Aside0.mk ((by rw [hg]; exact Nat.ne_of_lt (blk_lt (by with_reducible repeat first | exact BK414.out | apply bN)) : gb414 ≠ gb431))
                 have n11_ := Aside0.mk ((by rw [hg]; exact Nat.ne_of_gt (blk_lt (by with_reducible repeat first | exact BK414.out | apply bN)) : gb431 ≠ gb414))
                 have n12_ := Aside0.mk ((by rw [hg]; exact Nat.ne_of_lt (blk_lt (by with_reducible repeat first | exact BK415.out | apply bN)) : gb415 ≠ gb431))
                 have n13_ := Aside0.mk ((by rw [hg]; exact Nat.ne_of_gt (blk_lt (by with_reducible repeat first | exact BK415.out | apply bN)) : gb431 ≠ gb415))
                 have n14_ := Aside0.mk ((by rw [hg]; exact Nat.ne_of_lt (blk_lt (by with_reducible repeat first | exact BK421.out | apply bN)) : gb421 ≠ gb431))
                 have n15_ := Aside0.mk ((by rw [hg]; exact Nat.ne_of_gt (blk_lt (by with_reducible repeat first | exact BK421.out | apply bN)) : gb431 ≠ gb421))
                 clear BK413 BK414 BK415 BK421 HB
                 have BK413 := n0_
                 have BK414 := n1_
                 have BK415 := n2_
                 have BK421 := n3_
                 have HB := n4_
                 have BK431 := n5_
                 have GW431 := n6_
                 have GE431 := n7_
                 have NB413_431 := n8_
                 have NB431_413 := n9_
                 have NB414_431 := n10_
                 have NB431_414 := n11_
                 have NB415_431 := n12_
                 have NB431_415 := n13_
                 have NB421_431 := n14_
                 have NB431_421 := n15_
                 clear n0_ n1_ n2_ n3_ n4_ n5_ n6_ n7_ n8_ n9_ n10_ n11_ n12_ n13_ n14_ n15_ hb hbox hg
                 refine hK.out _ _ (c12 BK413.out) (fun hHeld => ?_)
                 clear hK K
                 refine norm_ (a' := ?_) ?_ ?_
                 rotate_left
                 ·show Act.put _ (some 8) _ = _
                  simp only [Act.put, List.setIfInBounds_toArray, List.set_cons_zero, List.set_cons_succ, i64_w, i32_w]
                  rfl
                 exact norm_ (by simp only [putAll, Act.put, List.setIfInBounds_toArray, List.set_cons_zero, List.set_cons_succ] <;> rfl) (hJ2_11 (gb431) _ ⟨hHeld, (by with_reducible repeat first | exact BK413.out | apply bN), (by with_reducible repeat first | exact BK414.out | apply bN), (by with_reducible repeat first | exact BK415.out | apply bN), (by with_reducible repeat first | exact BK421.out | apply bN), (by with_reducible repeat first | exact BK431.out | apply bN), GW431.out, GE431.out, NB413_431.out, NB431_413.out, NB414_431.out, NB431_414.out, NB415_431.out, NB431_415.out, NB421_431.out, NB431_421.out, (by repeat (first | (with_reducible first | exact HB.out | apply below_alloc | apply pw_below_drewN | apply below_drew1 | refine below_set ?_ GE413.out | refine below_set ?_ GE414.out | refine below_set ?_ GE415.out | refine below_set ?_ GE421.out | refine below_set ?_ GE431.out) | exact HB.out))⟩)
              ·skip
               rintro ⟨v428, gb431⟩ w32 ⟨hS_, h0_, h1_, h2_, h3_, h4_, h5_, h6_, h7_, h8_, h9_, h10_, h11_, h12_, h13_, h14_, h15_, h16_⟩
               have n0_ : Aside0 (Kd.R (Kd.int .i64) 3 w32 w.heap.size (fun _ => True) v428 y427) := ⟨h0_⟩
               have n1_ : Aside0 (w32.heap[gb413]? = some (.cells #[.int .i64 a0_0, .int .i64 a0_1, .int .i64 a0_2, .int .i64 a0_3, .int .i64 a0_4, .int .i64 a0_5, .int .i64 a0_6, .int .i64 a0_7, .int .i64 a0_8, .int .i64 a0_9, .int .i64 a0_10, .int .i64 a0_11] 23 (0, 0))) := ⟨h1_⟩
               have n2_ : Aside0 (w32.heap[gb414]? = some (.cells #[.int .i64 a1_0, .int .i64 a1_1, .int .i64 a1_2, .int .i64 a1_3] 57 (0, 0))) := ⟨h2_⟩
               have n3_ : Aside0 (w32.heap[gb415]? = some (.cells #[.int .i64 0, .int .i64 0] 25 (0, 0))) := ⟨h3_⟩
               have n4_ : Aside0 (w32.heap[gb421]? = some (.cells #[.int .i64 t418, .int .i64 t420] 25 (0, 0))) := ⟨h4_⟩
               have n5_ : Aside0 (w32.heap[gb431]? = some (.cells #[.int .i64 0, .int .i64 0] 25 (0, 0))) := ⟨h5_⟩
               have n6_ : Aside0 (w.heap.size ≤ gb431) := ⟨h6_⟩
               have n7_ : Aside0 (w.heap.size ≤ gb431) := ⟨h7_⟩
               have n8_ : Aside0 (gb413 ≠ gb431) := ⟨h8_⟩
               have n9_ : Aside0 (gb431 ≠ gb413) := ⟨h9_⟩
               have n10_ : Aside0 (gb414 ≠ gb431) := ⟨h10_⟩
               have n11_ : Aside0 (gb431 ≠ gb414) := ⟨h11_⟩
               have n12_ : Aside0 (gb415 ≠ gb431) := ⟨h12_⟩
               have n13_ : Aside0 (gb431 ≠ gb415) := ⟨h13_⟩
               have n14_ : Aside0 (gb421 ≠ gb431) := ⟨h14_⟩
               have n15_ : Aside0 (gb431 ≠ gb421) := ⟨h15_⟩
               have n16_ : Aside0 (Below w.heap.size w w32) := ⟨h16_⟩
               clear BK413 BK414 BK415 BK421 HB h0_ h1_ h2_ h3_ h4_ h5_ h6_ h7_ h8_ h9_ h10_ h11_ h12_ h13_ h14_ h15_ h16_
               have HO429 := n0_
               have BK413 := n1_
               have BK414 := n2_
               have BK415 := n3_
               have BK421 := n4_
               have BK431 := n5_
               have GW431 := n6_
               have GE431 := n7_
               have NB413_431 := n8_
               have NB431_413 := n9_
               have NB414_431 := n10_
               have NB431_414 := n11_
               have NB415_431 := n12_
               have NB431_415 := n13_
               have NB421_431 := n14_
               have NB431_421 := n15_
               have HB := n16_
               clear n0_ n1_ n2_ n3_ n4_ n5_ n6_ n7_ n8_ n9_ n10_ n11_ n12_ n13_ n14_ n15_ n16_
               have hHeld := hS_
               try dsimp only at hHeld
               refine norm_ (a' := ?_) ?_ ?_
               rotate_left
               ·simp only [putAll, Act.put, List.setIfInBounds_toArray, List.set_cons_zero, List.set_cons_succ]
                rfl
               refine one_ (i := 2) (N := some 31) #[true, true, true, false, false, true, true, true, true, false, false, true, false] rfl rfl (one_of HT_.out (by kernel_rfl)) (by decide) (fun K hK => ?_)
               refine goes_ Try.func53 (by kernel_rfl) rfl #[.agg #[.int .i64 a0_0, .int .i64 a0_1, .int .i64 a0_2, .int .i64 a0_3, .int .i64 a0_4, .int .i64 a0_5, .int .i64 a0_6, .int .i64 a0_7, .int .i64 a0_8, .int .i64 a0_9, .int .i64 a0_10, .int .i64 a0_11]] (by rfl) rfl rfl (by (try simp only [List.map_toArray, List.map_cons, List.map_nil]); first | done | rfl | (simp only [List.length_drop, List.length_take]; rfl)) ?_
               with_reducible refine (probe_least.calls k a0_0 a0_1 a0_2 a0_3 a0_4 a0_5 a0_6 a0_7 a0_8 a0_9 a0_10 a0_11 t419 _ A8.out).mono ?_
               rintro e w33 ⟨rfl, hb⟩
               refine ⟨_, rfl, ?_⟩
               have n0_ := Aside0.mk (Kd.R_below (by (with_reducible repeat (first | apply Kd.R_alloc | apply Kd.R_drewN | apply Kd.R_drew)); exact HO429.out) hb)
               have n1_ := Aside0.mk (blk_below (by with_reducible repeat first | exact BK413.out | apply bN) hb)
               have n2_ := Aside0.mk (blk_below (by with_reducible repeat first | exact BK414.out | apply bN) hb)
               have n3_ := Aside0.mk (blk_below (by with_reducible repeat first | exact BK415.out | apply bN) hb)
               have n4_ := Aside0.mk (blk_below (by with_reducible repeat first | exact BK421.out | apply bN) hb)
               have n5_ := Aside0.mk (blk_below (by with_reducible repeat first | exact BK431.out | apply bN) hb)
               have n6_ := Aside0.mk (below_step (by with_reducible repeat first | exact HB.out | apply pw_below_drewN) hb)
               clear HO429 BK413 BK414 BK415 BK421 BK431 HB
               have HO429 := n0_
               have BK413 := n1_
               have BK414 := n2_
               have BK415 := n3_
               have BK421 := n4_
               have BK431 := n5_
               have HB := n6_
               clear n0_ n1_ n2_ n3_ n4_ n5_ n6_
               (try clear hb)
               (try clear hb2)
               (try clear hk)
               (try clear hi)
               refine hK.out _ _ (c12 BK413.out) (fun hHeld => ?_)
               clear hK K
               refine norm_ (a' := ?_) ?_ ?_
               rotate_left
               ·show Act.put _ (some 31) _ = _
                simp only [Act.put, List.setIfInBounds_toArray, List.set_cons_zero, List.set_cons_succ, i64_w, i32_w]
                rfl
               exact norm_ (by simp only [putAll, Act.put, List.setIfInBounds_toArray, List.set_cons_zero, List.set_cons_succ] <;> rfl) (hJ2_8_11 (_, gb431) _ ⟨hHeld, (by (with_reducible repeat (first | apply Kd.R_alloc | apply Kd.R_drewN | apply Kd.R_drew)); exact HO429.out), (by with_reducible repeat first | exact BK413.out | apply bN), (by with_reducible repeat first | exact BK414.out | apply bN), (by with_reducible repeat first | exact BK415.out | apply bN), (by with_reducible repeat first | exact BK421.out | apply bN), (by with_reducible repeat first | exact BK431.out | apply bN), GW431.out, GE431.out, NB413_431.out, NB431_413.out, NB414_431.out, NB431_414.out, NB415_431.out, NB431_415.out, NB421_431.out, NB431_421.out, (by repeat (first | (with_reducible first | exact HB.out | apply below_alloc | apply pw_below_drewN | apply below_drew1 | refine below_set ?_ GE413.out | refine below_set ?_ GE414.out | refine below_set ?_ GE415.out | refine below_set ?_ GE421.out | refine below_set ?_ GE431.out) | exact HB.out))⟩)
             ·skip
              rintro gb431 w31 ⟨hS_, h0_, h1_, h2_, h3_, h4_, h5_, h6_, h7_, h8_, h9_, h10_, h11_, h12_, h13_, h14_, h15_⟩
              have n0_ : Aside0 (w31.heap[gb413]? = some (.cells #[.int .i64 a0_0, .int .i64 a0_1, .int .i64 a0_2, .int .i64 a0_3, .int .i64 a0_4, .int .i64 a0_5, .int .i64 a0_6, .int .i64 a0_7, .int .i64 a0_8, .int .i64 a0_9, .int .i64 a0_10, .int .i64 a0_11] 23 (0, 0))) := ⟨h0_⟩
              have n1_ : Aside0 (w31.heap[gb414]? = some (.cells #[.int .i64 a1_0, .int .i64 a1_1, .int .i64 a1_2, .int .i64 a1_3] 57 (0, 0))) := ⟨h1_⟩
              have n2_ : Aside0 (w31.heap[gb415]? = some (.cells #[.int .i64 0, .int .i64 0] 25 (0, 0))) := ⟨h2_⟩
              have n3_ : Aside0 (w31.heap[gb421]? = some (.cells #[.int .i64 t418, .int .i64 t420] 25 (0, 0))) := ⟨h3_⟩
              have n4_ : Aside0 (w31.heap[gb431]? = some (.cells #[.int .i64 0, .int .i64 0] 25 (0, 0))) := ⟨h4_⟩
              have n5_ : Aside0 (w.heap.size ≤ gb431) := ⟨h5_⟩
              have n6_ : Aside0 (w.heap.size ≤ gb431) := ⟨h6_⟩
              have n7_ : Aside0 (gb413 ≠ gb431) := ⟨h7_⟩
              have n8_ : Aside0 (gb431 ≠ gb413) := ⟨h8_⟩
              have n9_ : Aside0 (gb414 ≠ gb431) := ⟨h9_⟩
              have n10_ : Aside0 (gb431 ≠ gb414) := ⟨h10_⟩
              have n11_ : Aside0 (gb415 ≠ gb431) := ⟨h11_⟩
              have n12_ : Aside0 (gb431 ≠ gb415) := ⟨h12_⟩
              have n13_ : Aside0 (gb421 ≠ gb431) := ⟨h13_⟩
              have n14_ : Aside0 (gb431 ≠ gb421) := ⟨h14_⟩
              have n15_ : Aside0 (Below w.heap.size w w31) := ⟨h15_⟩
              clear BK413 BK414 BK415 BK421 HB h0_ h1_ h2_ h3_ h4_ h5_ h6_ h7_ h8_ h9_ h10_ h11_ h12_ h13_ h14_ h15_
              have BK413 := n0_
              have BK414 := n1_
              have BK415 := n2_
              have BK421 := n3_
              have BK431 := n4_
              have GW431 := n5_
              have GE431 := n6_
              have NB413_431 := n7_
              have NB431_413 := n8_
              have NB414_431 := n9_
              have NB431_414 := n10_
              have NB415_431 := n11_
              have NB431_415 := n12_
              have NB421_431 := n13_
              have NB431_421 := n14_
              have HB := n15_
              clear n0_ n1_ n2_ n3_ n4_ n5_ n6_ n7_ n8_ n9_ n10_ n11_ n12_ n13_ n14_ n15_
              have hHeld := hS_
              try dsimp only at hHeld
              refine norm_ (a' := ?_) ?_ ?_
              rotate_left
              ·simp only [putAll, Act.put, List.setIfInBounds_toArray, List.set_cons_zero, List.set_cons_succ]
               rfl
              refine two_ (i := 3) (j := 8) (Ni := some 32) (Nj := some 37) #[true, true, true, true, false, true, true, true, false, false, false, true, false] #[true, true, true, false, false, true, true, true, true, false, false, true, false] rfl rfl rfl rfl (two_of HT_.out (by kernel_rfl)) (by decide) (by decide) (fun K hK => ?_) (fun K hK => ?_)
              ·skip
               refine Kd.R_lit_step (Kd.int .i64) _ 3 ?hg (N := 32) ?hd (xs := ([t417, t419] : List Int)) (inner := [.int .i64 t417, .int .i64 t419]) (ok := fun _ => True) (okp := fun _ => True) ?hr ?hp (fun _ hk => hk) trivial (Below.refl _ _) (Nat.le_refl _) (by simp) ?_; (case hd => rfl); (case hg => rfl); (case hr => first | (go_simp; done) | (go_simp; rfl)); (case hp => exact (Reps.one (show Kd.M (Kd.int .i64) _ _ _ t417 [.int .i64 t417] from rfl) (Reps.one (show Kd.M (Kd.int .i64) _ _ _ t419 [.int .i64 t419] from rfl) (Reps.none _ _))))
               intro v424 w32 ho33 hb hg_ hnew_
               clear hg_ hnew_
               (first | rw [← Ny423.out] at ho33 | (simp only [Int.reduceToNat] at ho33; rw [← Ny423.out] at ho33))
               have n0_ := Aside0.mk (Kd.R_lower ho33 (below_size (by with_reducible repeat first | exact HB.out | apply pw_below_drewN)))
               have n1_ := Aside0.mk (blk_below (by with_reducible repeat first | exact BK413.out | apply bN) hb)
               have n2_ := Aside0.mk (blk_below (by with_reducible repeat first | exact BK414.out | apply bN) hb)
               have n3_ := Aside0.mk (blk_below (by with_reducible repeat first | exact BK415.out | apply bN) hb)
               have n4_ := Aside0.mk (blk_below (by with_reducible repeat first | exact BK421.out | apply bN) hb)
               have n5_ := Aside0.mk (blk_below (by with_reducible repeat first | exact BK431.out | apply bN) hb)
               have n6_ := Aside0.mk (below_step (by with_reducible repeat first | exact HB.out | apply pw_below_drewN) hb)
               clear BK413 BK414 BK415 BK421 BK431 HB
               have HO425 := n0_
               have BK413 := n1_
               have BK414 := n2_
               have BK415 := n3_
               have BK421 := n4_
               have BK431 := n5_
               have HB := n6_
               clear n0_ n1_ n2_ n3_ n4_ n5_ n6_ hb ho33
               refine hK.out _ _ (c12 BK413.out) (fun hHeld => ?_)
               clear hK K
               refine norm_ (a' := ?_) ?_ ?_
               rotate_left
               ·show Act.put _ (some 32) _ = _
                simp only [Act.put, List.setIfInBounds_toArray, List.set_cons_zero, List.set_cons_succ, i64_w, i32_w]
                rfl
               exact norm_ (by simp only [putAll, Act.put, List.setIfInBounds_toArray, List.set_cons_zero, List.set_cons_succ] <;> rfl) (hJ2_3_11 (_, gb431) _ ⟨hHeld, (by (with_reducible repeat (first | apply Kd.R_alloc | apply Kd.R_drewN | apply Kd.R_drew)); exact HO425.out), (by with_reducible repeat first | exact BK413.out | apply bN), (by with_reducible repeat first | exact BK414.out | apply bN), (by with_reducible repeat first | exact BK415.out | apply bN), (by with_reducible repeat first | exact BK421.out | apply bN), (by with_reducible repeat first | exact BK431.out | apply bN), GW431.out, GE431.out, NB413_431.out, NB431_413.out, NB414_431.out, NB431_414.out, NB415_431.out, NB431_415.out, NB421_431.out, NB431_421.out, (by repeat (first | (with_reducible first | exact HB.out | apply below_alloc | apply pw_below_drewN | apply below_drew1 | refine below_set ?_ GE413.out | refine below_set ?_ GE414.out | refine below_set ?_ GE415.out | refine below_set ?_ GE421.out | refine below_set ?_ GE431.out) | exact HB.out))⟩)
              ·skip
               refine Kd.R_lit_step (Kd.int .i64) _ 3 ?hg (N := 37) ?hd (xs := ([t417, a0_5] : List Int)) (inner := [.int .i64 t417, .int .i64 a0_5]) (ok := fun _ => True) (okp := fun _ => True) ?hr ?hp (fun _ hk => hk) trivial (Below.refl _ _) (Nat.le_refl _) (by simp) ?_; (case hd => rfl); (case hg => rfl); (case hr => first | (go_simp; done) | (go_simp; rfl)); (case hp => exact (Reps.one (show Kd.M (Kd.int .i64) _ _ _ t417 [.int .i64 t417] from rfl) (Reps.one (show Kd.M (Kd.int .i64) _ _ _ a0_5 [.int .i64 a0_5] from rfl) (Reps.none _ _))))
               intro v428 w32 ho33 hb hg_ hnew_
               clear hg_ hnew_
               (first | rw [← Ny427.out] at ho33 | (simp only [Int.reduceToNat] at ho33; rw [← Ny427.out] at ho33))
               have n0_ := Aside0.mk (Kd.R_lower ho33 (below_size (by with_reducible repeat first | exact HB.out | apply pw_below_drewN)))
               have n1_ := Aside0.mk (blk_below (by with_reducible repeat first | exact BK413.out | apply bN) hb)
               have n2_ := Aside0.mk (blk_below (by with_reducible repeat first | exact BK414.out | apply bN) hb)
               have n3_ := Aside0.mk (blk_below (by with_reducible repeat first | exact BK415.out | apply bN) hb)
               have n4_ := Aside0.mk (blk_below (by with_reducible repeat first | exact BK421.out | apply bN) hb)
               have n5_ := Aside0.mk (blk_below (by with_reducible repeat first | exact BK431.out | apply bN) hb)
               have n6_ := Aside0.mk (below_step (by with_reducible repeat first | exact HB.out | apply pw_below_drewN) hb)
               clear BK413 BK414 BK415 BK421 BK431 HB
               have HO429 := n0_
               have BK413 := n1_
               have BK414 := n2_
               have BK415 := n3_
               have BK421 := n4_
               have BK431 := n5_
               have HB := n6_
               clear n0_ n1_ n2_ n3_ n4_ n5_ n6_ hb ho33
               refine hK.out _ _ (c12 BK413.out) (fun hHeld => ?_)
               clear hK K
               refine norm_ (a' := ?_) ?_ ?_
               rotate_left
               ·show Act.put _ (some 37) _ = _
                simp only [Act.put, List.setIfInBounds_toArray, List.set_cons_zero, List.set_cons_succ, i64_w, i32_w]
                rfl
               exact norm_ (by simp only [putAll, Act.put, List.setIfInBounds_toArray, List.set_cons_zero, List.set_cons_succ] <;> rfl) (hJ2_8_11 (_, gb431) _ ⟨hHeld, (by (with_reducible repeat (first | apply Kd.R_alloc | apply Kd.R_drewN | apply Kd.R_drew)); exact HO429.out), (by with_reducible repeat first | exact BK413.out | apply bN), (by with_reducible repeat first | exact BK414.out | apply bN), (by with_reducible repeat first | exact BK415.out | apply bN), (by with_reducible repeat first | exact BK421.out | apply bN), (by with_reducible repeat first | exact BK431.out | apply bN), GW431.out, GE431.out, NB413_431.out, NB431_413.out, NB414_431.out, NB431_414.out, NB415_431.out, NB431_415.out, NB421_431.out, NB431_421.out, (by repeat (first | (with_reducible first | exact HB.out | apply below_alloc | apply pw_below_drewN | apply below_drew1 | refine below_set ?_ GE413.out | refine below_set ?_ GE414.out | refine below_set ?_ GE415.out | refine below_set ?_ GE421.out | refine below_set ?_ GE431.out) | exact HB.out))⟩)
            ·skip
             rintro v428 w32 ⟨hS_, h0_, h1_, h2_, h3_, h4_, h5_⟩
             have n0_ : Aside0 (Kd.R (Kd.int .i64) 3 w32 w.heap.size (fun _ => True) v428 y427) := ⟨h0_⟩
             have n1_ : Aside0 (w32.heap[gb413]? = some (.cells #[.int .i64 a0_0, .int .i64 a0_1, .int .i64 a0_2, .int .i64 a0_3, .int .i64 a0_4, .int .i64 a0_5, .int .i64 a0_6, .int .i64 a0_7, .int .i64 a0_8, .int .i64 a0_9, .int .i64 a0_10, .int .i64 a0_11] 23 (0, 0))) := ⟨h1_⟩
             have n2_ : Aside0 (w32.heap[gb414]? = some (.cells #[.int .i64 a1_0, .int .i64 a1_1, .int .i64 a1_2, .int .i64 a1_3] 57 (0, 0))) := ⟨h2_⟩
             have n3_ : Aside0 (w32.heap[gb415]? = some (.cells #[.int .i64 0, .int .i64 0] 25 (0, 0))) := ⟨h3_⟩
             have n4_ : Aside0 (w32.heap[gb421]? = some (.cells #[.int .i64 t418, .int .i64 t420] 25 (0, 0))) := ⟨h4_⟩
             have n5_ : Aside0 (Below w.heap.size w w32) := ⟨h5_⟩
             clear BK413 BK414 BK415 BK421 HB h0_ h1_ h2_ h3_ h4_ h5_
             have HO429 := n0_
             have BK413 := n1_
             have BK414 := n2_
             have BK415 := n3_
             have BK421 := n4_
             have HB := n5_
             clear n0_ n1_ n2_ n3_ n4_ n5_
             have hHeld := hS_
             try dsimp only at hHeld
             refine norm_ (a' := ?_) ?_ ?_
             rotate_left
             ·simp only [putAll, Act.put, List.setIfInBounds_toArray, List.set_cons_zero, List.set_cons_succ]
              rfl
             refine two_ (i := 3) (j := 11) (Ni := some 32) (Nj := some 8) #[true, true, true, true, false, true, true, true, true, false, false, false, false] #[true, true, true, false, false, true, true, true, true, false, false, true, false] rfl rfl rfl rfl (two_of HT_.out (by kernel_rfl)) (by decide) (by decide) (fun K hK => ?_) (fun K hK => ?_)
             ·skip
              refine Kd.R_lit_step (Kd.int .i64) _ 3 ?hg (N := 32) ?hd (xs := ([t417, t419] : List Int)) (inner := [.int .i64 t417, .int .i64 t419]) (ok := fun _ => True) (okp := fun _ => True) ?hr ?hp (fun _ hk => hk) trivial (Below.refl _ _) (Nat.le_refl _) (by simp) ?_; (case hd => rfl); (case hg => rfl); (case hr => first | (go_simp; done) | (go_simp; rfl)); (case hp => exact (Reps.one (show Kd.M (Kd.int .i64) _ _ _ t417 [.int .i64 t417] from rfl) (Reps.one (show Kd.M (Kd.int .i64) _ _ _ t419 [.int .i64 t419] from rfl) (Reps.none _ _))))
              intro v424 w33 ho34 hb hg_ hnew_
              clear hg_ hnew_
              (first | rw [← Ny423.out] at ho34 | (simp only [Int.reduceToNat] at ho34; rw [← Ny423.out] at ho34))
              have n0_ := Aside0.mk (Kd.R_elder' (by (with_reducible repeat (first | apply Kd.R_alloc | apply Kd.R_drewN | apply Kd.R_drew)); exact HO429.out) (Kd.R_base ho34) hb)
              have n1_ := Aside0.mk (Kd.R_lower (Kd.R_new' ho34 (Kd.R_lt (by (with_reducible repeat (first | apply Kd.R_alloc | apply Kd.R_drewN | apply Kd.R_drew)); exact HO429.out))) (below_size (by with_reducible repeat first | exact HB.out | apply pw_below_drewN)))
              have n2_ := Aside0.mk (blk_below (by with_reducible repeat first | exact BK413.out | apply bN) hb)
              have n3_ := Aside0.mk (blk_below (by with_reducible repeat first | exact BK414.out | apply bN) hb)
              have n4_ := Aside0.mk (blk_below (by with_reducible repeat first | exact BK415.out | apply bN) hb)
              have n5_ := Aside0.mk (blk_below (by with_reducible repeat first | exact BK421.out | apply bN) hb)
              have n6_ := Aside0.mk (below_step (by with_reducible repeat first | exact HB.out | apply pw_below_drewN) hb)
              clear HO429 BK413 BK414 BK415 BK421 HB
              have HO429 := n0_
              have HO425 := n1_
              have BK413 := n2_
              have BK414 := n3_
              have BK415 := n4_
              have BK421 := n5_
              have HB := n6_
              clear n0_ n1_ n2_ n3_ n4_ n5_ n6_ hb ho34
              refine hK.out _ _ (c12 BK413.out) (fun hHeld => ?_)
              clear hK K
              refine norm_ (a' := ?_) ?_ ?_
              rotate_left
              ·show Act.put _ (some 32) _ = _
               simp only [Act.put, List.setIfInBounds_toArray, List.set_cons_zero, List.set_cons_succ, i64_w, i32_w]
               rfl
              exact norm_ (by simp only [putAll, Act.put, List.setIfInBounds_toArray, List.set_cons_zero, List.set_cons_succ] <;> rfl) (hJ2_3_8 (_, _) _ ⟨hHeld, (by (with_reducible repeat (first | apply Kd.R_alloc | apply Kd.R_drewN | apply Kd.R_drew)); exact Kd.R_mono HO425.out (fun _ hk => hk.2)), (by (with_reducible repeat (first | apply Kd.R_alloc | apply Kd.R_drewN | apply Kd.R_drew)); exact Kd.R_mono HO429.out (fun _ hk => hk.2)), (by with_reducible repeat first | exact BK413.out | apply bN), (by with_reducible repeat first | exact BK414.out | apply bN), (by with_reducible repeat first | exact BK415.out | apply bN), (by with_reducible repeat first | exact BK421.out | apply bN), (by repeat (first | (with_reducible first | exact HB.out | apply below_alloc | apply pw_below_drewN | apply below_drew1 | refine below_set ?_ GE413.out | refine below_set ?_ GE414.out | refine below_set ?_ GE415.out | refine below_set ?_ GE421.out) | exact HB.out))⟩)
             ·skip
              refine box_step ?hg (N := 8) ?hd (cs := #[.int .i64 0, .int .i64 0]) (t := 25) ?hr ?_; (case hd => rfl); (case hg => rfl); (case hr => first | (go_simp; done) | (go_simp; rfl))
              intro gb431 hg w33 hbox hb
              have n0_ := Aside0.mk (Kd.R_below (by (with_reducible repeat (first | apply Kd.R_alloc | apply Kd.R_drewN | apply Kd.R_drew)); exact HO429.out) hb)
              have n1_ := Aside0.mk (blk_below (by with_reducible repeat first | exact BK413.out | apply bN) hb)
              have n2_ := Aside0.mk (blk_below (by with_reducible repeat first | exact BK414.out | apply bN) hb)
              have n3_ := Aside0.mk (blk_below (by with_reducible repeat first | exact BK415.out | apply bN) hb)
              have n4_ := Aside0.mk (blk_below (by with_reducible repeat first | exact BK421.out | apply bN) hb)
              have n5_ := Aside0.mk (below_step (by with_reducible repeat first | exact HB.out | apply pw_below_drewN) hb)
              have n6_ := Aside0.mk (hbox)
              have n7_ := Aside0.mk ((by rw [hg]; exact (below_size (by with_reducible repeat first | exact HB.out | apply pw_below_drewN)) : w.heap.size ≤ gb431))
              have n8_ := Aside0.mk ((by rw [hg]; exact (below_size (by with_reducible repeat first | exact HB.out | apply pw_below_drewN)) : w.heap.size ≤ gb431))
              have n9_ := Aside0.mk ((by rw [hg]; exact Nat.ne_of_lt (blk_lt (by with_reducible repeat first | exact BK413.out | apply bN)) : gb413 ≠ gb431))
              have n10_ := Aside0.mk ((by rw [hg]; exact Nat.ne_of_gt (blk_lt (by with_reducible repeat first | exact BK413.out | apply bN)) : gb431 ≠ gb413))
              have n11_ := Aside0.mk ((by rw [hg]; exact Nat.ne_of_lt (blk_lt (by with_reducible repeat first | exact BK414.out | apply bN)) : gb414 ≠ gb431))
              have n12_ := Aside0.mk ((by rw [hg]; exact Nat.ne_of_gt (blk_lt (by with_reducible repeat first | exact BK414.out | apply bN)) : gb431 ≠ gb414))
              have n13_ := Aside0.mk ((by rw [hg]; exact Nat.ne_of_lt (blk_lt (by with_reducible repeat first | exact BK415.out | apply bN)) : gb415 ≠ gb431))
              have n14_ := Aside0.mk ((by rw [hg]; exact Nat.ne_of_gt (blk_lt (by with_reducible repeat first | exact BK415.out | apply bN)) : gb431 ≠ gb415))
              have n15_ := Aside0.mk ((by rw [hg]; exact Nat.ne_of_lt (blk_lt (by with_reducible repeat first | exact BK421.out | apply bN)) : gb421 ≠ gb431))
              have n16_ := Aside0.mk ((by rw [hg]; exact Nat.ne_of_gt (blk_lt (by with_reducible repeat first | exact BK421.out | apply bN)) : gb431 ≠ gb421))
              clear HO429 BK413 BK414 BK415 BK421 HB
              have HO429 := n0_
              have BK413 := n1_
              have BK414 := n2_
              have BK415 := n3_
              have BK421 := n4_
              have HB := n5_
              have BK431 := n6_
              have GW431 := n7_
              have GE431 := n8_
              have NB413_431 := n9_
              have NB431_413 := n10_
              have NB414_431 := n11_
              have NB431_414 := n12_
              have NB415_431 := n13_
              have NB431_415 := n14_
              have NB421_431 := n15_
              have NB431_421 := n16_
              clear n0_ n1_ n2_ n3_ n4_ n5_ n6_ n7_ n8_ n9_ n10_ n11_ n12_ n13_ n14_ n15_ n16_ hb hbox hg
              refine hK.out _ _ (c12 BK413.out) (fun hHeld => ?_)
              clear hK K
              refine norm_ (a' := ?_) ?_ ?_
              rotate_left
              ·show Act.put _ (some 8) _ = _
               simp only [Act.put, List.setIfInBounds_toArray, List.set_cons_zero, List.set_cons_succ, i64_w, i32_w]
               rfl
              exact norm_ (by simp only [putAll, Act.put, List.setIfInBounds_toArray, List.set_cons_zero, List.set_cons_succ] <;> rfl) (hJ2_8_11 (_, gb431) _ ⟨hHeld, (by (with_reducible repeat (first | apply Kd.R_alloc | apply Kd.R_drewN | apply Kd.R_drew)); exact HO429.out), (by with_reducible repeat first | exact BK413.out | apply bN), (by with_reducible repeat first | exact BK414.out | apply bN), (by with_reducible repeat first | exact BK415.out | apply bN), (by with_reducible repeat first | exact BK421.out | apply bN), (by with_reducible repeat first | exact BK431.out | apply bN), GW431.out, GE431.out, NB413_431.out, NB431_413.out, NB414_431.out, NB431_414.out, NB415_431.out, NB431_415.out, NB421_431.out, NB431_421.out, (by repeat (first | (with_reducible first | exact HB.out | apply below_alloc | apply pw_below_drewN | apply below_drew1 | refine below_set ?_ GE413.out | refine below_set ?_ GE414.out | refine below_set ?_ GE415.out | refine below_set ?_ GE421.out | refine below_set ?_ GE431.out) | exact HB.out))⟩)
           ·skip
            rintro v424 w32 ⟨hS_, h0_, h1_, h2_, h3_, h4_, h5_⟩
            have n0_ : Aside0 (Kd.R (Kd.int .i64) 3 w32 w.heap.size (fun _ => True) v424 y423) := ⟨h0_⟩
            have n1_ : Aside0 (w32.heap[gb413]? = some (.cells #[.int .i64 a0_0, .int .i64 a0_1, .int .i64 a0_2, .int .i64 a0_3, .int .i64 a0_4, .int .i64 a0_5, .int .i64 a0_6, .int .i64 a0_7, .int .i64 a0_8, .int .i64 a0_9, .int .i64 a0_10, .int .i64 a0_11] 23 (0, 0))) := ⟨h1_⟩
            have n2_ : Aside0 (w32.heap[gb414]? = some (.cells #[.int .i64 a1_0, .int .i64 a1_1, .int .i64 a1_2, .int .i64 a1_3] 57 (0, 0))) := ⟨h2_⟩
            have n3_ : Aside0 (w32.heap[gb415]? = some (.cells #[.int .i64 0, .int .i64 0] 25 (0, 0))) := ⟨h3_⟩
            have n4_ : Aside0 (w32.heap[gb421]? = some (.cells #[.int .i64 t418, .int .i64 t420] 25 (0, 0))) := ⟨h4_⟩
            have n5_ : Aside0 (Below w.heap.size w w32) := ⟨h5_⟩
            clear BK413 BK414 BK415 BK421 HB h0_ h1_ h2_ h3_ h4_ h5_
            have HO425 := n0_
            have BK413 := n1_
            have BK414 := n2_
            have BK415 := n3_
            have BK421 := n4_
            have HB := n5_
            clear n0_ n1_ n2_ n3_ n4_ n5_
            have hHeld := hS_
            try dsimp only at hHeld
            obtain ⟨Ao33, co33, eo33⟩ := Kd.R_slice HO425.out
            (first | subst eo33 | (injection eo33 with f1_ f2_ f3_; have f4_ := f1_.symm; have f5_ := f3_.symm; clear f1_ f2_ f3_; subst f4_; subst f5_))
            refine norm_ (a' := ?_) ?_ ?_
            rotate_left
            ·simp only [putAll, Act.put, List.setIfInBounds_toArray, List.set_cons_zero, List.set_cons_succ]
             rfl
            refine three_ (i := 4) (j := 8) (k := 11) (Ni := some 33) (Nj := some 37) (Nk := some 8) #[true, true, true, true, true, true, true, true, false, false, false, false, false] #[true, true, true, true, false, true, true, true, true, false, false, false, false] #[true, true, true, true, false, true, true, true, false, false, false, true, false] rfl rfl rfl rfl rfl rfl (three_of HT_.out (by kernel_rfl)) (by decide) (by decide) (by decide) (fun K hK => ?_) (fun K hK => ?_) (fun K hK => ?_)
            ·skip
             refine goes_ Try.func41 (by kernel_rfl) rfl #[.slice Ao33 y423.length co33] (by rfl) rfl rfl (by (try simp only [List.map_toArray, List.map_cons, List.map_nil]); first | done | rfl | (simp only [List.length_drop, List.length_take]; rfl)) ?_
             with_reducible refine (sat_Add.calls k _ _ y423 t426 _ ?side1 ?side2 A9.out).mono ?_
             (case side1 => repeat (first | exact (Kd.R_reads' HO425.out).2.2 | (with_reducible refine Kd.C_alloc ?_ _) | (with_reducible refine Kd.C_drewN ?_ _) | (with_reducible refine Kd.C_drew ?_)))
             (case side2 => exact (Kd.R_reads' HO425.out).2.1)
             rintro e w' ⟨rfl, ⟨nd, rfl⟩⟩
             refine ⟨_, rfl, ?_⟩
             refine hK.out _ _ (c12 BK413.out) (fun hHeld => ?_)
             clear hK K
             refine norm_ (a' := ?_) ?_ ?_
             rotate_left
             ·show Act.put _ (some 33) _ = _
              simp only [Act.put, List.setIfInBounds_toArray, List.set_cons_zero, List.set_cons_succ, i64_w, i32_w]
              rfl
             exact norm_ (by simp only [putAll, Act.put, List.setIfInBounds_toArray, List.set_cons_zero, List.set_cons_succ] <;> rfl) (hJ2_3_4 (.slice Ao33 y423.length co33) _ ⟨hHeld, (by (with_reducible repeat (first | apply Kd.R_alloc | apply Kd.R_drewN | apply Kd.R_drew)); exact HO425.out), (by with_reducible repeat first | exact BK413.out | apply bN), (by with_reducible repeat first | exact BK414.out | apply bN), (by with_reducible repeat first | exact BK415.out | apply bN), (by with_reducible repeat first | exact BK421.out | apply bN), (by repeat (first | (with_reducible first | exact HB.out | apply below_alloc | apply pw_below_drewN | apply below_drew1 | refine below_set ?_ GE413.out | refine below_set ?_ GE414.out | refine below_set ?_ GE415.out | refine below_set ?_ GE421.out) | exact HB.out))⟩)
            ·skip
             refine Kd.R_lit_step (Kd.int .i64) _ 3 ?hg (N := 37) ?hd (xs := ([t417, a0_5] : List Int)) (inner := [.int .i64 t417, .int .i64 a0_5]) (ok := fun _ => True) (okp := fun _ => True) ?hr ?hp (fun _ hk => hk) trivial (Below.refl _ _) (Nat.le_refl _) (by simp) ?_; (case hd => rfl); (case hg => rfl); (case hr => first | (go_simp; done) | (go_simp; rfl)); (case hp => exact (Reps.one (show Kd.M (Kd.int .i64) _ _ _ t417 [.int .i64 t417] from rfl) (Reps.one (show Kd.M (Kd.int .i64) _ _ _ a0_5 [.int .i64 a0_5] from rfl) (Reps.none _ _))))
             intro v428 w33 ho34 hb hg_ hnew_
             clear hg_ hnew_
             (first | rw [← Ny427.out] at ho34 | (simp only [Int.reduceToNat] at ho34; rw [← Ny427.out] at ho34))
             have n0_ := Aside0.mk (Kd.R_elder' (by (with_reducible repeat (first | apply Kd.R_alloc | apply Kd.R_drewN | apply Kd.R_drew)); exact HO425.out) (Kd.R_base ho34) hb)
             have n1_ := Aside0.mk (Kd.R_lower (Kd.R_new' ho34 (Kd.R_lt (by (with_reducible repeat (first | apply Kd.R_alloc | apply Kd.R_drewN | apply Kd.R_drew)); exact HO425.out))) (below_size (by with_reducible repeat first | exact HB.out | apply pw_below_drewN)))
             have n2_ := Aside0.mk (blk_below (by with_reducible repeat first | exact BK413.out | apply bN) hb)
             have n3_ := Aside0.mk (blk_below (by with_reducible repeat first | exact BK414.out | apply bN) hb)
             have n4_ := Aside0.mk (blk_below (by with_reducible repeat first | exact BK415.out | apply bN) hb)
             have n5_ := Aside0.mk (blk_below (by with_reducible repeat first | exact BK421.out | apply bN) hb)
             have n6_ := Aside0.mk (below_step (by with_reducible repeat first | exact HB.out | apply pw_below_drewN) hb)
             clear HO425 BK413 BK414 BK415 BK421 HB
             have HO425 := n0_
             have HO429 := n1_
             have BK413 := n2_
             have BK414 := n3_
             have BK415 := n4_
             have BK421 := n5_
             have HB := n6_
             clear n0_ n1_ n2_ n3_ n4_ n5_ n6_ hb ho34
             refine hK.out _ _ (c12 BK413.out) (fun hHeld => ?_)
             clear hK K
             refine norm_ (a' := ?_) ?_ ?_
             rotate_left
             ·show Act.put _ (some 37) _ = _
              simp only [Act.put, List.setIfInBounds_toArray, List.set_cons_zero, List.set_cons_succ, i64_w, i32_w]
              rfl
             exact norm_ (by simp only [putAll, Act.put, List.setIfInBounds_toArray, List.set_cons_zero, List.set_cons_succ] <;> rfl) (hJ2_3_8 (_, _) _ ⟨hHeld, (by (with_reducible repeat (first | apply Kd.R_alloc | apply Kd.R_drewN | apply Kd.R_drew)); exact Kd.R_mono HO425.out (fun _ hk => hk.2)), (by (with_reducible repeat (first | apply Kd.R_alloc | apply Kd.R_drewN | apply Kd.R_drew)); exact Kd.R_mono HO429.out (fun _ hk => hk.2)), (by with_reducible repeat first | exact BK413.out | apply bN), (by with_reducible repeat first | exact BK414.out | apply bN), (by with_reducible repeat first | exact BK415.out | apply bN), (by with_reducible repeat first | exact BK421.out | apply bN), (by repeat (first | (with_reducible first | exact HB.out | apply below_alloc | apply pw_below_drewN | apply below_drew1 | refine below_set ?_ GE413.out | refine below_set ?_ GE414.out | refine below_set ?_ GE415.out | refine below_set ?_ GE421.out) | exact HB.out))⟩)
            ·skip
             refine box_step ?hg (N := 8) ?hd (cs := #[.int .i64 0, .int .i64 0]) (t := 25) ?hr ?_; (case hd => rfl); (case hg => rfl); (case hr => first | (go_simp; done) | (go_simp; rfl))
             intro gb431 hg w33 hbox hb
             have n0_ := Aside0.mk (Kd.R_below (by (with_reducible repeat (first | apply Kd.R_alloc | apply Kd.R_drewN | apply Kd.R_drew)); exact HO425.out) hb)
             have n1_ := Aside0.mk (blk_below (by with_reducible repeat first | exact BK413.out | apply bN) hb)
             have n2_ := Aside0.mk (blk_below (by with_reducible repeat first | exact BK414.out | apply bN) hb)
             have n3_ := Aside0.mk (blk_below (by with_reducible repeat first | exact BK415.out | apply bN) hb)
             have n4_ := Aside0.mk (blk_below (by with_reducible repeat first | exact BK421.out | apply bN) hb)
             have n5_ := Aside0.mk (below_step (by with_reducible repeat first | exact HB.out | apply pw_below_drewN) hb)
             have n6_ := Aside0.mk (hbox)
             have n7_ := Aside0.mk ((by rw [hg]; exact (below_size (by with_reducible repeat first | exact HB.out | apply pw_below_drewN)) : w.heap.size ≤ gb431))
             have n8_ := Aside0.mk ((by rw [hg]; exact (below_size (by with_reducible repeat first | exact HB.out | apply pw_below_drewN)) : w.heap.size ≤ gb431))
             have n9_ := Aside0.mk ((by rw [hg]; exact Nat.ne_of_lt (blk_lt (by with_reducible repeat first | exact BK413.out | apply bN)) : gb413 ≠ gb431))
             have n10_ := Aside0.mk ((by rw [hg]; exact Nat.ne_of_gt (blk_lt (by with_reducible repeat first | exact BK413.out | apply bN)) : gb431 ≠ gb413))
             have n11_ := Aside0.mk ((by rw [hg]; exact Nat.ne_of_lt (blk_lt (by with_reducible repeat first | exact BK414.out | apply bN)) : gb414 ≠ gb431))
             have n12_ := Aside0.mk ((by rw [hg]; exact Nat.ne_of_gt (blk_lt (by with_reducible repeat first | exact BK414.out | apply bN)) : gb431 ≠ gb414))
             have n13_ := Aside0.mk ((by rw [hg]; exact Nat.ne_of_lt (blk_lt (by with_reducible repeat first | exact BK415.out | apply bN)) : gb415 ≠ gb431))
             have n14_ := Aside0.mk ((by rw [hg]; exact Nat.ne_of_gt (blk_lt (by with_reducible repeat first | exact BK415.out | apply bN)) : gb431 ≠ gb415))
             have n15_ := Aside0.mk ((by rw [hg]; exact Nat.ne_of_lt (blk_lt (by with_reducible repeat first | exact BK421.out | apply bN)) : gb421 ≠ gb431))
             have n16_ := Aside0.mk ((by rw [hg]; exact Nat.ne_of_gt (blk_lt (by with_reducible repeat first | exact BK421.out | apply bN)) : gb431 ≠ gb421))
             clear HO425 BK413 BK414 BK415 BK421 HB
             have HO425 := n0_
             have BK413 := n1_
             have BK414 := n2_
             have BK415 := n3_
             have BK421 := n4_
             have HB := n5_
             have BK431 := n6_
             have GW431 := n7_
             have GE431 := n8_
             have NB413_431 := n9_
             have NB431_413 := n10_
             have NB414_431 := n11_
             have NB431_414 := n12_
             have NB415_431 := n13_
             have NB431_415 := n14_
             have NB421_431 := n15_
             have NB431_421 := n16_
             clear n0_ n1_ n2_ n3_ n4_ n5_ n6_ n7_ n8_ n9_ n10_ n11_ n12_ n13_ n14_ n15_ n16_ hb hbox hg
             refine hK.out _ _ (c12 BK413.out) (fun hHeld => ?_)
             clear hK K
             refine norm_ (a' := ?_) ?_ ?_
             rotate_left
             ·show Act.put _ (some 8) _ = _
              simp only [Act.put, List.setIfInBounds_toArray, List.set_cons_zero, List.set_cons_succ, i64_w, i32_w]
              rfl
             exact norm_ (by simp only [putAll, Act.put, List.setIfInBounds_toArray, List.set_cons_zero, List.set_cons_succ] <;> rfl) (hJ2_3_11 (_, gb431) _ ⟨hHeld, (by (with_reducible repeat (first | apply Kd.R_alloc | apply Kd.R_drewN | apply Kd.R_drew)); exact HO425.out), (by with_reducible repeat first | exact BK413.out | apply bN), (by with_reducible repeat first | exact BK414.out | apply bN), (by with_reducible repeat first | exact BK415.out | apply bN), (by with_reducible repeat first | exact BK421.out | apply bN), (by with_reducible repeat first | exact BK431.out | apply bN), GW431.out, GE431.out, NB413_431.out, NB431_413.out, NB414_431.out, NB431_414.out, NB415_431.out, NB431_415.out, NB421_431.out, NB431_421.out, (by repeat (first | (with_reducible first | exact HB.out | apply below_alloc | apply pw_below_drewN | apply below_drew1 | refine below_set ?_ GE413.out | refine below_set ?_ GE414.out | refine below_set ?_ GE415.out | refine below_set ?_ GE421.out | refine below_set ?_ GE431.out) | exact HB.out))⟩)
          ·skip
           rintro ⟨v428, gb431⟩ w33 ⟨hS_, h0_, h1_, h2_, h3_, h4_, h5_, h6_, h7_, h8_, h9_, h10_, h11_, h12_, h13_, h14_, h15_, h16_⟩
           have n0_ : Aside0 (Kd.R (Kd.int .i64) 3 w33 w.heap.size (fun _ => True) v428 y427) := ⟨h0_⟩
           have n1_ : Aside0 (w33.heap[gb413]? = some (.cells #[.int .i64 a0_0, .int .i64 a0_1, .int .i64 a0_2, .int .i64 a0_3, .int .i64 a0_4, .int .i64 a0_5, .int .i64 a0_6, .int .i64 a0_7, .int .i64 a0_8, .int .i64 a0_9, .int .i64 a0_10, .int .i64 a0_11] 23 (0, 0))) := ⟨h1_⟩
           have n2_ : Aside0 (w33.heap[gb414]? = some (.cells #[.int .i64 a1_0, .int .i64 a1_1, .int .i64 a1_2, .int .i64 a1_3] 57 (0, 0))) := ⟨h2_⟩
           have n3_ : Aside0 (w33.heap[gb415]? = some (.cells #[.int .i64 0, .int .i64 0] 25 (0, 0))) := ⟨h3_⟩
           have n4_ : Aside0 (w33.heap[gb421]? = some (.cells #[.int .i64 t418, .int .i64 t420] 25 (0, 0))) := ⟨h4_⟩
           have n5_ : Aside0 (w33.heap[gb431]? = some (.cells #[.int .i64 0, .int .i64 0] 25 (0, 0))) := ⟨h5_⟩
           have n6_ : Aside0 (w.heap.size ≤ gb431) := ⟨h6_⟩
           have n7_ : Aside0 (w.heap.size ≤ gb431) := ⟨h7_⟩
           have n8_ : Aside0 (gb413 ≠ gb431) := ⟨h8_⟩
           have n9_ : Aside0 (gb431 ≠ gb413) := ⟨h9_⟩
           have n10_ : Aside0 (gb414 ≠ gb431) := ⟨h10_⟩
           have n11_ : Aside0 (gb431 ≠ gb414) := ⟨h11_⟩
           have n12_ : Aside0 (gb415 ≠ gb431) := ⟨h12_⟩
           have n13_ : Aside0 (gb431 ≠ gb415) := ⟨h13_⟩
           have n14_ : Aside0 (gb421 ≠ gb431) := ⟨h14_⟩
           have n15_ : Aside0 (gb431 ≠ gb421) := ⟨h15_⟩
           have n16_ : Aside0 (Below w.heap.size w w33) := ⟨h16_⟩
           clear BK413 BK414 BK415 BK421 HB h0_ h1_ h2_ h3_ h4_ h5_ h6_ h7_ h8_ h9_ h10_ h11_ h12_ h13_ h14_ h15_ h16_
           have HO429 := n0_
           have BK413 := n1_
           have BK414 := n2_
           have BK415 := n3_
           have BK421 := n4_
           have BK431 := n5_
           have GW431 := n6_
           have GE431 := n7_
           have NB413_431 := n8_
           have NB431_413 := n9_
           have NB414_431 := n10_
           have NB431_414 := n11_
           have NB415_431 := n12_
           have NB431_415 := n13_
           have NB421_431 := n14_
           have NB431_421 := n15_
           have HB := n16_
           clear n0_ n1_ n2_ n3_ n4_ n5_ n6_ n7_ n8_ n9_ n10_ n11_ n12_ n13_ n14_ n15_ n16_
           have hHeld := hS_
           try dsimp only at hHeld
           refine norm_ (a' := ?_) ?_ ?_
           rotate_left
           ·simp only [putAll, Act.put, List.setIfInBounds_toArray, List.set_cons_zero, List.set_cons_succ]
            rfl
           refine one_ (i := 3) (N := some 32) #[true, true, true, true, false, true, true, true, true, false, false, true, false] rfl rfl (one_of HT_.out (by kernel_rfl)) (by decide) (fun K hK => ?_)
           refine Kd.R_lit_step (Kd.int .i64) _ 3 ?hg (N := 32) ?hd (xs := ([t417, t419] : List Int)) (inner := [.int .i64 t417, .int .i64 t419]) (ok := fun _ => True) (okp := fun _ => True) ?hr ?hp (fun _ hk => hk) trivial (Below.refl _ _) (Nat.le_refl _) (by simp) ?_; (case hd => rfl); (case hg => rfl); (case hr => first | (go_simp; done) | (go_simp; rfl)); (case hp => exact (Reps.one (show Kd.M (Kd.int .i64) _ _ _ t417 [.int .i64 t417] from rfl) (Reps.one (show Kd.M (Kd.int .i64) _ _ _ t419 [.int .i64 t419] from rfl) (Reps.none _ _))))
           intro v424 w34 ho35 hb hg_ hnew_
           clear hg_ hnew_
           (first | rw [← Ny423.out] at ho35 | (simp only [Int.reduceToNat] at ho35; rw [← Ny423.out] at ho35))
           have n0_ := Aside0.mk (Kd.R_elder' (by (with_reducible repeat (first | apply Kd.R_alloc | apply Kd.R_drewN | apply Kd.R_drew)); exact HO429.out) (Kd.R_base ho35) hb)
           have n1_ := Aside0.mk (Kd.R_lower (Kd.R_new' ho35 (Kd.R_lt (by (with_reducible repeat (first | apply Kd.R_alloc | apply Kd.R_drewN | apply Kd.R_drew)); exact HO429.out))) (below_size (by with_reducible repeat first | exact HB.out | apply pw_below_drewN)))
           have n2_ := Aside0.mk (blk_below (by with_reducible repeat first | exact BK413.out | apply bN) hb)
           have n3_ := Aside0.mk (blk_below (by with_reducible repeat first | exact BK414.out | apply bN) hb)
           have n4_ := Aside0.mk (blk_below (by with_reducible repeat first | exact BK415.out | apply bN) hb)
           have n5_ := Aside0.mk (blk_below (by with_reducible repeat first | exact BK421.out | apply bN) hb)
           have n6_ := Aside0.mk (blk_below (by with_reducible repeat first | exact BK431.out | apply bN) hb)
           have n7_ := Aside0.mk (below_step (by with_reducible repeat first | exact HB.out | apply pw_below_drewN) hb)
           clear HO429 BK413 BK414 BK415 BK421 BK431 HB
           have HO429 := n0_
           have HO425 := n1_
           have BK413 := n2_
           have BK414 := n3_
           have BK415 := n4_
           have BK421 := n5_
           have BK431 := n6_
           have HB := n7_
           clear n0_ n1_ n2_ n3_ n4_ n5_ n6_ n7_ hb ho35
           refine hK.out _ _ (c12 BK413.out) (fun hHeld => ?_)
           clear hK K
           refine norm_ (a' := ?_) ?_ ?_
           rotate_left
           ·show Act.put _ (some 32) _ = _
            simp only [Act.put, List.setIfInBounds_toArray, List.set_cons_zero, List.set_cons_succ, i64_w, i32_w]
            rfl
           exact norm_ (by simp only [putAll, Act.put, List.setIfInBounds_toArray, List.set_cons_zero, List.set_cons_succ] <;> rfl) (hJ2_3_8_11 (_, _, gb431) _ ⟨hHeld, (by (with_reducible repeat (first | apply Kd.R_alloc | apply Kd.R_drewN | apply Kd.R_drew)); exact Kd.R_mono HO425.out (fun _ hk => hk.2)), (by (with_reducible repeat (first | apply Kd.R_alloc | apply Kd.R_drewN | apply Kd.R_drew)); exact Kd.R_mono HO429.out (fun _ hk => hk.2)), (by with_reducible repeat first | exact BK413.out | apply bN), (by with_reducible repeat first | exact BK414.out | apply bN), (by with_reducible repeat first | exact BK415.out | apply bN), (by with_reducible repeat first | exact BK421.out | apply bN), (by with_reducible repeat first | exact BK431.out | apply bN), GW431.out, GE431.out, NB413_431.out, NB431_413.out, NB414_431.out, NB431_414.out, NB415_431.out, NB431_415.out, NB421_431.out, NB431_421.out, (by repeat (first | (with_reducible first | exact HB.out | apply below_alloc | apply pw_below_drewN | apply below_drew1 | refine below_set ?_ GE413.out | refine below_set ?_ GE414.out | refine below_set ?_ GE415.out | refine below_set ?_ GE421.out | refine below_set ?_ GE431.out) | exact HB.out))⟩)
         ·skip
          rintro ⟨v424, gb431⟩ w33 ⟨hS_, h0_, h1_, h2_, h3_, h4_, h5_, h6_, h7_, h8_, h9_, h10_, h11_, h12_, h13_, h14_, h15_, h16_⟩
          have n0_ : Aside0 (Kd.R (Kd.int .i64) 3 w33 w.heap.size (fun _ => True) v424 y423) := ⟨h0_⟩
          have n1_ : Aside0 (w33.heap[gb413]? = some (.cells #[.int .i64 a0_0, .int .i64 a0_1, .int .i64 a0_2, .int .i64 a0_3, .int .i64 a0_4, .int .i64 a0_5, .int .i64 a0_6, .int .i64 a0_7, .int .i64 a0_8, .int .i64 a0_9, .int .i64 a0_10, .int .i64 a0_11] 23 (0, 0))) := ⟨h1_⟩
          have n2_ : Aside0 (w33.heap[gb414]? = some (.cells #[.int .i64 a1_0, .int .i64 a1_1, .int .i64 a1_2, .int .i64 a1_3] 57 (0, 0))) := ⟨h2_⟩
          have n3_ : Aside0 (w33.heap[gb415]? = some (.cells #[.int .i64 0, .int .i64 0] 25 (0, 0))) := ⟨h3_⟩
          have n4_ : Aside0 (w33.heap[gb421]? = some (.cells #[.int .i64 t418, .int .i64 t420] 25 (0, 0))) := ⟨h4_⟩
          have n5_ : Aside0 (w33.heap[gb431]? = some (.cells #[.int .i64 0, .int .i64 0] 25 (0, 0))) := ⟨h5_⟩
          have n6_ : Aside0 (w.heap.size ≤ gb431) := ⟨h6_⟩
          have n7_ : Aside0 (w.heap.size ≤ gb431) := ⟨h7_⟩
          have n8_ : Aside0 (gb413 ≠ gb431) := ⟨h8_⟩
          have n9_ : Aside0 (gb431 ≠ gb413) := ⟨h9_⟩
          have n10_ : Aside0 (gb414 ≠ gb431) := ⟨h10_⟩
          have n11_ : Aside0 (gb431 ≠ gb414) := ⟨h11_⟩
          have n12_ : Aside0 (gb415 ≠ gb431) := ⟨h12_⟩
          have n13_ : Aside0 (gb431 ≠ gb415) := ⟨h13_⟩
          have n14_ : Aside0 (gb421 ≠ gb431) := ⟨h14_⟩
          have n15_ : Aside0 (gb431 ≠ gb421) := ⟨h15_⟩
          have n16_ : Aside0 (Below w.heap.size w w33) := ⟨h16_⟩
          clear BK413 BK414 BK415 BK421 HB h0_ h1_ h2_ h3_ h4_ h5_ h6_ h7_ h8_ h9_ h10_ h11_ h12_ h13_ h14_ h15_ h16_
          have HO425 := n0_
          have BK413 := n1_
          have BK414 := n2_
          have BK415 := n3_
          have BK421 := n4_
          have BK431 := n5_
          have GW431 := n6_
          have GE431 := n7_
          have NB413_431 := n8_
          have NB431_413 := n9_
          have NB414_431 := n10_
          have NB431_414 := n11_
          have NB415_431 := n12_
          have NB431_415 := n13_
          have NB421_431 := n14_
          have NB431_421 := n15_
          have HB := n16_
          clear n0_ n1_ n2_ n3_ n4_ n5_ n6_ n7_ n8_ n9_ n10_ n11_ n12_ n13_ n14_ n15_ n16_
          have hHeld := hS_
          try dsimp only at hHeld
          obtain ⟨Ao34, co34, eo34⟩ := Kd.R_slice HO425.out
          (first | subst eo34 | (injection eo34 with f1_ f2_ f3_; have f4_ := f1_.symm; have f5_ := f3_.symm; clear f1_ f2_ f3_; subst f4_; subst f5_))
          refine norm_ (a' := ?_) ?_ ?_
          rotate_left
          ·simp only [putAll, Act.put, List.setIfInBounds_toArray, List.set_cons_zero, List.set_cons_succ]
           rfl
          refine two_ (i := 4) (j := 8) (Ni := some 33) (Nj := some 37) #[true, true, true, true, true, true, true, true, false, false, false, true, false] #[true, true, true, true, false, true, true, true, true, false, false, true, false] rfl rfl rfl rfl (two_of HT_.out (by kernel_rfl)) (by decide) (by decide) (fun K hK => ?_) (fun K hK => ?_)
          ·skip
           refine goes_ Try.func41 (by kernel_rfl) rfl #[.slice Ao34 y423.length co34] (by rfl) rfl rfl (by (try simp only [List.map_toArray, List.map_cons, List.map_nil]); first | done | rfl | (simp only [List.length_drop, List.length_take]; rfl)) ?_
           with_reducible refine (sat_Add.calls k _ _ y423 t426 _ ?side1 ?side2 A9.out).mono ?_
           (case side1 => repeat (first | exact (Kd.R_reads' HO425.out).2.2 | (with_reducible refine Kd.C_alloc ?_ _) | (with_reducible refine Kd.C_drewN ?_ _) | (with_reducible refine Kd.C_drew ?_)))
           (case side2 => exact (Kd.R_reads' HO425.out).2.1)
           rintro e w' ⟨rfl, ⟨nd, rfl⟩⟩
           refine ⟨_, rfl, ?_⟩
           refine hK.out _ _ (c12 BK413.out) (fun hHeld => ?_)
           clear hK K
           refine norm_ (a' := ?_) ?_ ?_
           rotate_left
           ·show Act.put _ (some 33) _ = _
            simp only [Act.put, List.setIfInBounds_toArray, List.set_cons_zero, List.set_cons_succ, i64_w, i32_w]
            rfl
           exact norm_ (by simp only [putAll, Act.put, List.setIfInBounds_toArray, List.set_cons_zero, List.set_cons_succ] <;> rfl) (hJ2_3_4_11 (.slice Ao34 y423.length co34, gb431) _ ⟨hHeld, (by (with_reducible repeat (first | apply Kd.R_alloc | apply Kd.R_drewN | apply Kd.R_drew)); exact HO425.out), (by with_reducible repeat first | exact BK413.out | apply bN), (by with_reducible repeat first | exact BK414.out | apply bN), (by with_reducible repeat first | exact BK415.out | apply bN), (by with_reducible repeat first | exact BK421.out | apply bN), (by with_reducible repeat first | exact BK431.out | apply bN), GW431.out, GE431.out, NB413_431.out, NB431_413.out, NB414_431.out, NB431_414.out, NB415_431.out, NB431_415.out, NB421_431.out, NB431_421.out, (by repeat (first | (with_reducible first | exact HB.out | apply below_alloc | apply pw_below_drewN | apply below_drew1 | refine below_set ?_ GE413.out | refine below_set ?_ GE414.out | refine below_set ?_ GE415.out | refine below_set ?_ GE421.out | refine below_set ?_ GE431.out) | exact HB.out))⟩)
          ·skip
           refine Kd.R_lit_step (Kd.int .i64) _ 3 ?hg (N := 37) ?hd (xs := ([t417, a0_5] : List Int)) (inner := [.int .i64 t417, .int .i64 a0_5]) (ok := fun _ => True) (okp := fun _ => True) ?hr ?hp (fun _ hk => hk) trivial (Below.refl _ _) (Nat.le_refl _) (by simp) ?_; (case hd => rfl); (case hg => rfl); (case hr => first | (go_simp; done) | (go_simp; rfl)); (case hp => exact (Reps.one (show Kd.M (Kd.int .i64) _ _ _ t417 [.int .i64 t417] from rfl) (Reps.one (show Kd.M (Kd.int .i64) _ _ _ a0_5 [.int .i64 a0_5] from rfl) (Reps.none _ _))))
           intro v428 w34 ho35 hb hg_ hnew_
           clear hg_ hnew_
           (first | rw [← Ny427.out] at ho35 | (simp only [Int.reduceToNat] at ho35; rw [← Ny427.out] at ho35))
           have n0_ := Aside0.mk (Kd.R_elder' (by (with_reducible repeat (first | apply Kd.R_alloc | apply Kd.R_drewN | apply Kd.R_drew)); exact HO425.out) (Kd.R_base ho35) hb)
           have n1_ := Aside0.mk (Kd.R_lower (Kd.R_new' ho35 (Kd.R_lt (by (with_reducible repeat (first | apply Kd.R_alloc | apply Kd.R_drewN | apply Kd.R_drew)); exact HO425.out))) (below_size (by with_reducible repeat first | exact HB.out | apply pw_below_drewN)))
           have n2_ := Aside0.mk (blk_below (by with_reducible repeat first | exact BK413.out | apply bN) hb)
           have n3_ := Aside0.mk (blk_below (by with_reducible repeat first | exact BK414.out | apply bN) hb)
           have n4_ := Aside0.mk (blk_below (by with_reducible repeat first | exact BK415.out | apply bN) hb)
           have n5_ := Aside0.mk (blk_below (by with_reducible repeat first | exact BK421.out | apply bN) hb)
           have n6_ := Aside0.mk (blk_below (by with_reducible repeat first | exact BK431.out | apply bN) hb)
           have n7_ := Aside0.mk (below_step (by with_reducible repeat first | exact HB.out | apply pw_below_drewN) hb)
           clear HO425 BK413 BK414 BK415 BK421 BK431 HB
           have HO425 := n0_
           have HO429 := n1_
           have BK413 := n2_
           have BK414 := n3_
           have BK415 := n4_
           have BK421 := n5_
           have BK431 := n6_
           have HB := n7_
           clear n0_ n1_ n2_ n3_ n4_ n5_ n6_ n7_ hb ho35
           refine hK.out _ _ (c12 BK413.out) (fun hHeld => ?_)
           clear hK K
           refine norm_ (a' := ?_) ?_ ?_
           rotate_left
           ·show Act.put _ (some 37) _ = _
            simp only [Act.put, List.setIfInBounds_toArray, List.set_cons_zero, List.set_cons_succ, i64_w, i32_w]
            rfl
           exact norm_ (by simp only [putAll, Act.put, List.setIfInBounds_toArray, List.set_cons_zero, List.set_cons_succ] <;> rfl) (hJ2_3_8_11 (_, _, gb431) _ ⟨hHeld, (by (with_reducible repeat (first | apply Kd.R_alloc | apply Kd.R_drewN | apply Kd.R_drew)); exact Kd.R_mono HO425.out (fun _ hk => hk.2)), (by (with_reducible repeat (first | apply Kd.R_alloc | apply Kd.R_drewN | apply Kd.R_drew)); exact Kd.R_mono HO429.out (fun _ hk => hk.2)), (by with_reducible repeat first | exact BK413.out | apply bN), (by with_reducible repeat first | exact BK414.out | apply bN), (by with_reducible repeat first | exact BK415.out | apply bN), (by with_reducible repeat first | exact BK421.out | apply bN), (by with_reducible repeat first | exact BK431.out | apply bN), GW431.out, GE431.out, NB413_431.out, NB431_413.out, NB414_431.out, NB431_414.out, NB415_431.out, NB431_415.out, NB421_431.out, NB431_421.out, (by repeat (first | (with_reducible first | exact HB.out | apply below_alloc | apply pw_below_drewN | apply below_drew1 | refine below_set ?_ GE413.out | refine below_set ?_ GE414.out | refine below_set ?_ GE415.out | refine below_set ?_ GE421.out | refine below_set ?_ GE431.out) | exact HB.out))⟩)
        ·skip
         rintro ⟨v424, v428⟩ w34 ⟨hS_, h0_, h1_, h2_, h3_, h4_, h5_, h6_⟩
         have n0_ : Aside0 (Kd.R (Kd.int .i64) 3 w34 w.heap.size (fun k_ => some k_ ≠ (v428 : Value).ownBlock) v424 y423) := ⟨h0_⟩
         have n1_ : Aside0 (Kd.R (Kd.int .i64) 3 w34 w.heap.size (fun k_ => some k_ ≠ (v424 : Value).ownBlock) v428 y427) := ⟨h1_⟩
         have n2_ : Aside0 (w34.heap[gb413]? = some (.cells #[.int .i64 a0_0, .int .i64 a0_1, .int .i64 a0_2, .int .i64 a0_3, .int .i64 a0_4, .int .i64 a0_5, .int .i64 a0_6, .int .i64 a0_7, .int .i64 a0_8, .int .i64 a0_9, .int .i64 a0_10, .int .i64 a0_11] 23 (0, 0))) := ⟨h2_⟩
         have n3_ : Aside0 (w34.heap[gb414]? = some (.cells #[.int .i64 a1_0, .int .i64 a1_1, .int .i64 a1_2, .int .i64 a1_3] 57 (0, 0))) := ⟨h3_⟩
         have n4_ : Aside0 (w34.heap[gb415]? = some (.cells #[.int .i64 0, .int .i64 0] 25 (0, 0))) := ⟨h4_⟩
         have n5_ : Aside0 (w34.heap[gb421]? = some (.cells #[.int .i64 t418, .int .i64 t420] 25 (0, 0))) := ⟨h5_⟩
         have n6_ : Aside0 (Below w.heap.size w w34) := ⟨h6_⟩
         clear BK413 BK414 BK415 BK421 HB h0_ h1_ h2_ h3_ h4_ h5_ h6_
         have HO425 := n0_
         have HO429 := n1_
         have BK413 := n2_
         have BK414 := n3_
         have BK415 := n4_
         have BK421 := n5_
         have HB := n6_
         clear n0_ n1_ n2_ n3_ n4_ n5_ n6_
         have hHeld := hS_
         try dsimp only at hHeld
         obtain ⟨Ao35, co35, eo35⟩ := Kd.R_slice HO425.out
         (first | subst eo35 | (injection eo35 with f1_ f2_ f3_; have f4_ := f1_.symm; have f5_ := f3_.symm; clear f1_ f2_ f3_; subst f4_; subst f5_))
         refine norm_ (a' := ?_) ?_ ?_
         rotate_left
         ·simp only [putAll, Act.put, List.setIfInBounds_toArray, List.set_cons_zero, List.set_cons_succ]
          rfl
         refine two_ (i := 4) (j := 11) (Ni := some 33) (Nj := some 8) #[true, true, true, true, true, true, true, true, true, false, false, false, false] #[true, true, true, true, false, true, true, true, true, false, false, true, false] rfl rfl rfl rfl (two_of HT_.out (by kernel_rfl)) (by decide) (by decide) (fun K hK => ?_) (fun K hK => ?_)
         ·skip
          refine goes_ Try.func41 (by kernel_rfl) rfl #[.slice Ao35 y423.length co35] (by rfl) rfl rfl (by (try simp only [List.map_toArray, List.map_cons, List.map_nil]); first | done | rfl | (simp only [List.length_drop, List.length_take]; rfl)) ?_
          with_reducible refine (sat_Add.calls k _ _ y423 t426 _ ?side1 ?side2 A9.out).mono ?_
          (case side1 => repeat (first | exact (Kd.R_reads' HO425.out).2.2 | (with_reducible refine Kd.C_alloc ?_ _) | (with_reducible refine Kd.C_drewN ?_ _) | (with_reducible refine Kd.C_drew ?_)))
          (case side2 => exact (Kd.R_reads' HO425.out).2.1)
          rintro e w' ⟨rfl, ⟨nd, rfl⟩⟩
          refine ⟨_, rfl, ?_⟩
          refine hK.out _ _ (c12 BK413.out) (fun hHeld => ?_)
          clear hK K
          refine norm_ (a' := ?_) ?_ ?_
          rotate_left
          ·show Act.put _ (some 33) _ = _
           simp only [Act.put, List.setIfInBounds_toArray, List.set_cons_zero, List.set_cons_succ, i64_w, i32_w]
           rfl
          exact norm_ (by simp only [putAll, Act.put, List.setIfInBounds_toArray, List.set_cons_zero, List.set_cons_succ] <;> rfl) (hJ2_3_4_8 (.slice Ao35 y423.length co35, v428) _ ⟨hHeld, (by (with_reducible repeat (first | apply Kd.R_alloc | apply Kd.R_drewN | apply Kd.R_drew)); exact HO425.out), (by (with_reducible repeat (first | apply Kd.R_alloc | apply Kd.R_drewN | apply Kd.R_drew)); exact HO429.out), (by with_reducible repeat first | exact BK413.out | apply bN), (by with_reducible repeat first | exact BK414.out | apply bN), (by with_reducible repeat first | exact BK415.out | apply bN), (by with_reducible repeat first | exact BK421.out | apply bN), (by repeat (first | (with_reducible first | exact HB.out | apply below_alloc | apply pw_below_drewN | apply below_drew1 | refine below_set ?_ GE413.out | refine below_set ?_ GE414.out | refine below_set ?_ GE415.out | refine below_set ?_ GE421.out) | exact HB.out))⟩)
         ·skip
          refine box_step ?hg (N := 8) ?hd (cs := #[.int .i64 0, .int .i64 0]) (t := 25) ?hr ?_; (case hd => rfl); (case hg => rfl); (case hr => first | (go_simp; done) | (go_simp; rfl))
          intro gb431 hg w35 hbox hb
          have n0_ := Aside0.mk (Kd.R_below (by (with_reducible repeat (first | apply Kd.R_alloc | apply Kd.R_drewN | apply Kd.R_drew)); exact HO425.out) hb)
          have n1_ := Aside0.mk (Kd.R_below (by (with_reducible repeat (first | apply Kd.R_alloc | apply Kd.R_drewN | apply Kd.R_drew)); exact HO429.out) hb)
          have n2_ := Aside0.mk (blk_below (by with_reducible repeat first | exact BK413.out | apply bN) hb)
          have n3_ := Aside0.mk (blk_below (by with_reducible repeat first | exact BK414.out | apply bN) hb)
          have n4_ := Aside0.mk (blk_below (by with_reducible repeat first | exact BK415.out | apply bN) hb)
          have n5_ := Aside0.mk (blk_below (by with_reducible repeat first | exact BK421.out | apply bN) hb)
          have n6_ := Aside0.mk (below_step (by with_reducible repeat first | exact HB.out | apply pw_below_drewN) hb)
          have n7_ := Aside0.mk (hbox)
          have n8_ := Aside0.mk ((by rw [hg]; exact (below_size (by with_reducible repeat first | exact HB.out | apply pw_below_drewN)) : w.heap.size ≤ gb431))
          have n9_ := Aside0.mk ((by rw [hg]; exact (below_size (by with_reducible repeat first | exact HB.out | apply pw_below_drewN)) : w.heap.size ≤ gb431))
          have n10_ := Aside0.mk ((by rw [hg]; exact Nat.ne_of_lt (blk_lt (by with_reducible repeat first | exact BK413.out | apply bN)) : gb413 ≠ gb431))
          have n11_ := Aside0.mk ((by rw [hg]; exact Nat.ne_of_gt (blk_lt (by with_reducible repeat first | exact BK413.out | apply bN)) : gb431 ≠ gb413))
          have n12_ := Aside0.mk ((by rw [hg]; exact Nat.ne_of_lt (blk_lt (by with_reducible repeat first | exact BK414.out | apply bN)) : gb414 ≠ gb431))
          have n13_ := Aside0.mk ((by rw [hg]; exact Nat.ne_of_gt (blk_lt (by with_reducible repeat first | exact BK414.out | apply bN)) : gb431 ≠ gb414))
          have n14_ := Aside0.mk ((by rw [hg]; exact Nat.ne_of_lt (blk_lt (by with_reducible repeat first | exact BK415.out | apply bN)) : gb415 ≠ gb431))
          have n15_ := Aside0.mk ((by rw [hg]; exact Nat.ne_of_gt (blk_lt (by with_reducible repeat first | exact BK415.out | apply bN)) : gb431 ≠ gb415))
          have n16_ := Aside0.mk ((by rw [hg]; exact Nat.ne_of_lt (blk_lt (by with_reducible repeat first | exact BK421.out | apply bN)) : gb421 ≠ gb431))
          have n17_ := Aside0.mk ((by rw [hg]; exact Nat.ne_of_gt (blk_lt (by with_reducible repeat first | exact BK421.out | apply bN)) : gb431 ≠ gb421))
          clear HO425 HO429 BK413 BK414 BK415 BK421 HB
          have HO425 := n0_
          have HO429 := n1_
          have BK413 := n2_
          have BK414 := n3_
          have BK415 := n4_
          have BK421 := n5_
          have HB := n6_
          have BK431 := n7_
          have GW431 := n8_
          have GE431 := n9_
          have NB413_431 := n10_
          have NB431_413 := n11_
          have NB414_431 := n12_
          have NB431_414 := n13_
          have NB415_431 := n14_
          have NB431_415 := n15_
          have NB421_431 := n16_
          have NB431_421 := n17_
          clear n0_ n1_ n2_ n3_ n4_ n5_ n6_ n7_ n8_ n9_ n10_ n11_ n12_ n13_ n14_ n15_ n16_ n17_ hb hbox hg
          refine hK.out _ _ (c12 BK413.out) (fun hHeld => ?_)
          clear hK K
          refine norm_ (a' := ?_) ?_ ?_
          rotate_left
          ·show Act.put _ (some 8) _ = _
           simp only [Act.put, List.setIfInBounds_toArray, List.set_cons_zero, List.set_cons_succ, i64_w, i32_w]
           rfl
          exact norm_ (by simp only [putAll, Act.put, List.setIfInBounds_toArray, List.set_cons_zero, List.set_cons_succ] <;> rfl) (hJ2_3_8_11 (_, _, gb431) _ ⟨hHeld, (by (with_reducible repeat (first | apply Kd.R_alloc | apply Kd.R_drewN | apply Kd.R_drew)); exact HO425.out), (by (with_reducible repeat (first | apply Kd.R_alloc | apply Kd.R_drewN | apply Kd.R_drew)); exact HO429.out), (by with_reducible repeat first | exact BK413.out | apply bN), (by with_reducible repeat first | exact BK414.out | apply bN), (by with_reducible repeat first | exact BK415.out | apply bN), (by with_reducible repeat first | exact BK421.out | apply bN), (by with_reducible repeat first | exact BK431.out | apply bN), GW431.out, GE431.out, NB413_431.out, NB431_413.out, NB414_431.out, NB431_414.out, NB415_431.out, NB431_415.out, NB421_431.out, NB431_421.out, (by repeat (first | (with_reducible first | exact HB.out | apply below_alloc | apply pw_below_drewN | apply below_drew1 | refine below_set ?_ GE413.out | refine below_set ?_ GE414.out | refine below_set ?_ GE415.out | refine below_set ?_ GE421.out | refine below_set ?_ GE431.out) | exact HB.out))⟩)
       ·skip
        rintro v424 w33 ⟨hS_, h0_, h1_, h2_, h3_, h4_, h5_⟩
        have n0_ : Aside0 (Kd.R (Kd.int .i64) 3 w33 w.heap.size (fun _ => True) v424 y423) := ⟨h0_⟩
        have n1_ : Aside0 (w33.heap[gb413]? = some (.cells #[.int .i64 a0_0, .int .i64 a0_1, .int .i64 a0_2, .int .i64 a0_3, .int .i64 a0_4, .int .i64 a0_5, .int .i64 a0_6, .int .i64 a0_7, .int .i64 a0_8, .int .i64 a0_9, .int .i64 a0_10, .int .i64 a0_11] 23 (0, 0))) := ⟨h1_⟩
        have n2_ : Aside0 (w33.heap[gb414]? = some (.cells #[.int .i64 a1_0, .int .i64 a1_1, .int .i64 a1_2, .int .i64 a1_3] 57 (0, 0))) := ⟨h2_⟩
        have n3_ : Aside0 (w33.heap[gb415]? = some (.cells #[.int .i64 0, .int .i64 0] 25 (0, 0))) := ⟨h3_⟩
        have n4_ : Aside0 (w33.heap[gb421]? = some (.cells #[.int .i64 t418, .int .i64 t420] 25 (0, 0))) := ⟨h4_⟩
        have n5_ : Aside0 (Below w.heap.size w w33) := ⟨h5_⟩
        clear BK413 BK414 BK415 BK421 HB h0_ h1_ h2_ h3_ h4_ h5_
        have HO425 := n0_
        have BK413 := n1_
        have BK414 := n2_
        have BK415 := n3_
        have BK421 := n4_
        have HB := n5_
        clear n0_ n1_ n2_ n3_ n4_ n5_
        have hHeld := hS_
        try dsimp only at hHeld
        refine norm_ (a' := ?_) ?_ ?_
        rotate_left
        ·simp only [putAll, Act.put, List.setIfInBounds_toArray, List.set_cons_zero, List.set_cons_succ]
         rfl
        refine two_ (i := 8) (j := 11) (Ni := some 37) (Nj := some 8) #[true, true, true, true, true, true, true, true, true, false, false, false, false] #[true, true, true, true, true, true, true, true, false, false, false, true, false] rfl rfl rfl rfl (two_of HT_.out (by kernel_rfl)) (by decide) (by decide) (fun K hK => ?_) (fun K hK => ?_)
        ·skip
         refine Kd.R_lit_step (Kd.int .i64) _ 3 ?hg (N := 37) ?hd (xs := ([t417, a0_5] : List Int)) (inner := [.int .i64 t417, .int .i64 a0_5]) (ok := fun _ => True) (okp := fun _ => True) ?hr ?hp (fun _ hk => hk) trivial (Below.refl _ _) (Nat.le_refl _) (by simp) ?_; (case hd => rfl); (case hg => rfl); (case hr => first | (go_simp; done) | (go_simp; rfl)); (case hp => exact (Reps.one (show Kd.M (Kd.int .i64) _ _ _ t417 [.int .i64 t417] from rfl) (Reps.one (show Kd.M (Kd.int .i64) _ _ _ a0_5 [.int .i64 a0_5] from rfl) (Reps.none _ _))))
         intro v428 w34 ho35 hb hg_ hnew_
         clear hg_ hnew_
         (first | rw [← Ny427.out] at ho35 | (simp only [Int.reduceToNat] at ho35; rw [← Ny427.out] at ho35))
         have n0_ := Aside0.mk (Kd.R_elder' (by (with_reducible repeat (first | apply Kd.R_alloc | apply Kd.R_drewN | apply Kd.R_drew)); exact HO425.out) (Kd.R_base ho35) hb)
         have n1_ := Aside0.mk (Kd.R_lower (Kd.R_new' ho35 (Kd.R_lt (by (with_reducible repeat (first | apply Kd.R_alloc | apply Kd.R_drewN | apply Kd.R_drew)); exact HO425.out))) (below_size (by with_reducible repeat first | exact HB.out | apply pw_below_drewN)))
         have n2_ := Aside0.mk (blk_below (by with_reducible repeat first | exact BK413.out | apply bN) hb)
         have n3_ := Aside0.mk (blk_below (by with_reducible repeat first | exact BK414.out | apply bN) hb)
         have n4_ := Aside0.mk (blk_below (by with_reducible repeat first | exact BK415.out | apply bN) hb)
         have n5_ := Aside0.mk (blk_below (by with_reducible repeat first | exact BK421.out | apply bN) hb)
         have n6_ := Aside0.mk (below_step (by with_reducible repeat first | exact HB.out | apply pw_below_drewN) hb)
         clear HO425 BK413 BK414 BK415 BK421 HB
         have HO425 := n0_
         have HO429 := n1_
         have BK413 := n2_
         have BK414 := n3_
         have BK415 := n4_
         have BK421 := n5_
         have HB := n6_
         clear n0_ n1_ n2_ n3_ n4_ n5_ n6_ hb ho35
         refine hK.out _ _ (c12 BK413.out) (fun hHeld => ?_)
         clear hK K
         refine norm_ (a' := ?_) ?_ ?_
         rotate_left
         ·show Act.put _ (some 37) _ = _
          simp only [Act.put, List.setIfInBounds_toArray, List.set_cons_zero, List.set_cons_succ, i64_w, i32_w]
          rfl
         exact norm_ (by simp only [putAll, Act.put, List.setIfInBounds_toArray, List.set_cons_zero, List.set_cons_succ] <;> rfl) (hJ2_3_4_8 (_, _) _ ⟨hHeld, (by (with_reducible repeat (first | apply Kd.R_alloc | apply Kd.R_drewN | apply Kd.R_drew)); exact Kd.R_mono HO425.out (fun _ hk => hk.2)), (by (with_reducible repeat (first | apply Kd.R_alloc | apply Kd.R_drewN | apply Kd.R_drew)); exact Kd.R_mono HO429.out (fun _ hk => hk.2)), (by with_reducible repeat first | exact BK413.out | apply bN), (by with_reducible repeat first | exact BK414.out | apply bN), (by with_reducible repeat first | exact BK415.out | apply bN), (by with_reducible repeat first | exact BK421.out | apply bN), (by repeat (first | (with_reducible first | exact HB.out | apply below_alloc | apply pw_below_drewN | apply below_drew1 | refine below_set ?_ GE413.out | refine below_set ?_ GE414.out | refine below_set ?_ GE415.out | refine below_set ?_ GE421.out) | exact HB.out))⟩)
        ·skip
         refine box_step ?hg (N := 8) ?hd (cs := #[.int .i64 0, .int .i64 0]) (t := 25) ?hr ?_; (case hd => rfl); (case hg => rfl); (case hr => first | (go_simp; done) | (go_simp; rfl))
         intro gb431 hg w34 hbox hb
         have n0_ := Aside0.mk (Kd.R_below (by (with_reducible repeat (first | apply Kd.R_alloc | apply Kd.R_drewN | apply Kd.R_drew)); exact HO425.out) hb)
         have n1_ := Aside0.mk (blk_below (by with_reducible repeat first | exact BK413.out | apply bN) hb)
         have n2_ := Aside0.mk (blk_below (by with_reducible repeat first | exact BK414.out | apply bN) hb)
         have n3_ := Aside0.mk (blk_below (by with_reducible repeat first | exact BK415.out | apply bN) hb)
         have n4_ := Aside0.mk (blk_below (by with_reducible repeat first | exact BK421.out | apply bN) hb)
         have n5_ := Aside0.mk (below_step (by with_reducible repeat first | exact HB.out | apply pw_below_drewN) hb)
         have n6_ := Aside0.mk (hbox)
         have n7_ := Aside0.mk ((by rw [hg]; exact (below_size (by with_reducible repeat first | exact HB.out | apply pw_below_drewN)) : w.heap.size ≤ gb431))
         have n8_ := Aside0.mk ((by rw [hg]; exact (below_size (by with_reducible repeat first | exact HB.out | apply pw_below_drewN)) : w.heap.size ≤ gb431))
         have n9_ := Aside0.mk ((by rw [hg]; exact Nat.ne_of_lt (blk_lt (by with_reducible repeat first | exact BK413.out | apply bN)) : gb413 ≠ gb431))
         have n10_ := Aside0.mk ((by rw [hg]; exact Nat.ne_of_gt (blk_lt (by with_reducible repeat first | exact BK413.out | apply bN)) : gb431 ≠ gb413))
         have n11_ := Aside0.mk ((by rw [hg]; exact Nat.ne_of_lt (blk_lt (by with_reducible repeat first | exact BK414.out | apply bN)) : gb414 ≠ gb431))
         have n12_ := Aside0.mk ((by rw [hg]; exact Nat.ne_of_gt (blk_lt (by with_reducible repeat first | exact BK414.out | apply bN)) : gb431 ≠ gb414))
         have n13_ := Aside0.mk ((by rw [hg]; exact Nat.ne_of_lt (blk_lt (by with_reducible repeat first | exact BK415.out | apply bN)) : gb415 ≠ gb431))
         have n14_ := Aside0.mk ((by rw [hg]; exact Nat.ne_of_gt (blk_lt (by with_reducible repeat first | exact BK415.out | apply bN)) : gb431 ≠ gb415))
         have n15_ := Aside0.mk ((by rw [hg]; exact Nat.ne_of_lt (blk_lt (by with_reducible repeat first | exact BK421.out | apply bN)) : gb421 ≠ gb431))
         have n16_ := Aside0.mk ((by rw [hg]; exact Nat.ne_of_gt (blk_lt (by with_reducible repeat first | exact BK421.out | apply bN)) : gb431 ≠ gb421))
         clear HO425 BK413 BK414 BK415 BK421 HB
         have HO425 := n0_
         have BK413 := n1_
         have BK414 := n2_
         have BK415 := n3_
         have BK421 := n4_
         have HB := n5_
         have BK431 := n6_
         have GW431 := n7_
         have GE431 := n8_
         have NB413_431 := n9_
         have NB431_413 := n10_
         have NB414_431 := n11_
         have NB431_414 := n12_
         have NB415_431 := n13_
         have NB431_415 := n14_
         have NB421_431 := n15_
         have NB431_421 := n16_
         clear n0_ n1_ n2_ n3_ n4_ n5_ n6_ n7_ n8_ n9_ n10_ n11_ n12_ n13_ n14_ n15_ n16_ hb hbox hg
         refine hK.out _ _ (c12 BK413.out) (fun hHeld => ?_)
         clear hK K
         refine norm_ (a' := ?_) ?_ ?_
         rotate_left
         ·show Act.put _ (some 8) _ = _
          simp only [Act.put, List.setIfInBounds_toArray, List.set_cons_zero, List.set_cons_succ, i64_w, i32_w]
          rfl
         exact norm_ (by simp only [putAll, Act.put, List.setIfInBounds_toArray, List.set_cons_zero, List.set_cons_succ] <;> rfl) (hJ2_3_4_11 (_, gb431) _ ⟨hHeld, (by (with_reducible repeat (first | apply Kd.R_alloc | apply Kd.R_drewN | apply Kd.R_drew)); exact HO425.out), (by with_reducible repeat first | exact BK413.out | apply bN), (by with_reducible repeat first | exact BK414.out | apply bN), (by with_reducible repeat first | exact BK415.out | apply bN), (by with_reducible repeat first | exact BK421.out | apply bN), (by with_reducible repeat first | exact BK431.out | apply bN), GW431.out, GE431.out, NB413_431.out, NB431_413.out, NB414_431.out, NB431_414.out, NB415_431.out, NB431_415.out, NB421_431.out, NB431_421.out, (by repeat (first | (with_reducible first | exact HB.out | apply below_alloc | apply pw_below_drewN | apply below_drew1 | refine below_set ?_ GE413.out | refine below_set ?_ GE414.out | refine below_set ?_ GE415.out | refine below_set ?_ GE421.out | refine below_set ?_ GE431.out) | exact HB.out))⟩)
      ·skip
       rintro ⟨v424, v428, gb431⟩ w35 ⟨hS_, h0_, h1_, h2_, h3_, h4_, h5_, h6_, h7_, h8_, h9_, h10_, h11_, h12_, h13_, h14_, h15_, h16_, h17_⟩
       have n0_ : Aside0 (Kd.R (Kd.int .i64) 3 w35 w.heap.size (fun k_ => some k_ ≠ (v428 : Value).ownBlock) v424 y423) := ⟨h0_⟩
       have n1_ : Aside0 (Kd.R (Kd.int .i64) 3 w35 w.heap.size (fun k_ => some k_ ≠ (v424 : Value).ownBlock) v428 y427) := ⟨h1_⟩
       have n2_ : Aside0 (w35.heap[gb413]? = some (.cells #[.int .i64 a0_0, .int .i64 a0_1, .int .i64 a0_2, .int .i64 a0_3, .int .i64 a0_4, .int .i64 a0_5, .int .i64 a0_6, .int .i64 a0_7, .int .i64 a0_8, .int .i64 a0_9, .int .i64 a0_10, .int .i64 a0_11] 23 (0, 0))) := ⟨h2_⟩
       have n3_ : Aside0 (w35.heap[gb414]? = some (.cells #[.int .i64 a1_0, .int .i64 a1_1, .int .i64 a1_2, .int .i64 a1_3] 57 (0, 0))) := ⟨h3_⟩
       have n4_ : Aside0 (w35.heap[gb415]? = some (.cells #[.int .i64 0, .int .i64 0] 25 (0, 0))) := ⟨h4_⟩
       have n5_ : Aside0 (w35.heap[gb421]? = some (.cells #[.int .i64 t418, .int .i64 t420] 25 (0, 0))) := ⟨h5_⟩
       have n6_ : Aside0 (w35.heap[gb431]? = some (.cells #[.int .i64 0, .int .i64 0] 25 (0, 0))) := ⟨h6_⟩
       have n7_ : Aside0 (w.heap.size ≤ gb431) := ⟨h7_⟩
       have n8_ : Aside0 (w.heap.size ≤ gb431) := ⟨h8_⟩
       have n9_ : Aside0 (gb413 ≠ gb431) := ⟨h9_⟩
       have n10_ : Aside0 (gb431 ≠ gb413) := ⟨h10_⟩
       have n11_ : Aside0 (gb414 ≠ gb431) := ⟨h11_⟩
       have n12_ : Aside0 (gb431 ≠ gb414) := ⟨h12_⟩
       have n13_ : Aside0 (gb415 ≠ gb431) := ⟨h13_⟩
       have n14_ : Aside0 (gb431 ≠ gb415) := ⟨h14_⟩
       have n15_ : Aside0 (gb421 ≠ gb431) := ⟨h15_⟩
       have n16_ : Aside0 (gb431 ≠ gb421) := ⟨h16_⟩
       have n17_ : Aside0 (Below w.heap.size w w35) := ⟨h17_⟩
       clear BK413 BK414 BK415 BK421 HB h0_ h1_ h2_ h3_ h4_ h5_ h6_ h7_ h8_ h9_ h10_ h11_ h12_ h13_ h14_ h15_ h16_ h17_
       have HO425 := n0_
       have HO429 := n1_
       have BK413 := n2_
       have BK414 := n3_
       have BK415 := n4_
       have BK421 := n5_
       have BK431 := n6_
       have GW431 := n7_
       have GE431 := n8_
       have NB413_431 := n9_
       have NB431_413 := n10_
       have NB414_431 := n11_
       have NB431_414 := n12_
       have NB415_431 := n13_
       have NB431_415 := n14_
       have NB421_431 := n15_
       have NB431_421 := n16_
       have HB := n17_
       clear n0_ n1_ n2_ n3_ n4_ n5_ n6_ n7_ n8_ n9_ n10_ n11_ n12_ n13_ n14_ n15_ n16_ n17_
       have hHeld := hS_
       try dsimp only at hHeld
       obtain ⟨Ao36, co36, eo36⟩ := Kd.R_slice HO425.out
       (first | subst eo36 | (injection eo36 with f1_ f2_ f3_; have f4_ := f1_.symm; have f5_ := f3_.symm; clear f1_ f2_ f3_; subst f4_; subst f5_))
       refine norm_ (a' := ?_) ?_ ?_
       rotate_left
       ·simp only [putAll, Act.put, List.setIfInBounds_toArray, List.set_cons_zero, List.set_cons_succ]
        rfl
       refine one_ (i := 4) (N := some 33) #[true, true, true, true, true, true, true, true, true, false, false, true, false] rfl rfl (one_of HT_.out (by kernel_rfl)) (by decide) (fun K hK => ?_)
       refine goes_ Try.func41 (by kernel_rfl) rfl #[.slice Ao36 y423.length co36] (by rfl) rfl rfl (by (try simp only [List.map_toArray, List.map_cons, List.map_nil]); first | done | rfl | (simp only [List.length_drop, List.length_take]; rfl)) ?_
       with_reducible refine (sat_Add.calls k _ _ y423 t426 _ ?side1 ?side2 A9.out).mono ?_
       (case side1 => repeat (first | exact (Kd.R_reads' HO425.out).2.2 | (with_reducible refine Kd.C_alloc ?_ _) | (with_reducible refine Kd.C_drewN ?_ _) | (with_reducible refine Kd.C_drew ?_)))
       (case side2 => exact (Kd.R_reads' HO425.out).2.1)
       rintro e w' ⟨rfl, ⟨nd, rfl⟩⟩
       refine ⟨_, rfl, ?_⟩
       refine hK.out _ _ (c12 BK413.out) (fun hHeld => ?_)
       clear hK K
       refine norm_ (a' := ?_) ?_ ?_
       rotate_left
       ·show Act.put _ (some 33) _ = _
        simp only [Act.put, List.setIfInBounds_toArray, List.set_cons_zero, List.set_cons_succ, i64_w, i32_w]
        rfl
       exact norm_ (by simp only [putAll, Act.put, List.setIfInBounds_toArray, List.set_cons_zero, List.set_cons_succ] <;> rfl) (hJ2_3_4_8_11 (.slice Ao36 y423.length co36, v428, gb431) _ ⟨hHeld, (by (with_reducible repeat (first | apply Kd.R_alloc | apply Kd.R_drewN | apply Kd.R_drew)); exact HO425.out), (by (with_reducible repeat (first | apply Kd.R_alloc | apply Kd.R_drewN | apply Kd.R_drew)); exact HO429.out), (by with_reducible repeat first | exact BK413.out | apply bN), (by with_reducible repeat first | exact BK414.out | apply bN), (by with_reducible repeat first | exact BK415.out | apply bN), (by with_reducible repeat first | exact BK421.out | apply bN), (by with_reducible repeat first | exact BK431.out | apply bN), GW431.out, GE431.out, NB413_431.out, NB431_413.out, NB414_431.out, NB431_414.out, NB415_431.out, NB431_415.out, NB421_431.out, NB431_421.out, (by repeat (first | (with_reducible first | exact HB.out | apply below_alloc | apply pw_below_drewN | apply below_drew1 | refine below_set ?_ GE413.out | refine below_set ?_ GE414.out | refine below_set ?_ GE415.out | refine below_set ?_ GE421.out | refine below_set ?_ GE431.out) | exact HB.out))⟩)
     ·skip
      rintro ⟨v424, gb431⟩ w34 ⟨hS_, h0_, h1_, h2_, h3_, h4_, h5_, h6_, h7_, h8_, h9_, h10_, h11_, h12_, h13_, h14_, h15_, h16_⟩
      have n0_ : Aside0 (Kd.R (Kd.int .i64) 3 w34 w.heap.size (fun _ => True) v424 y423) := ⟨h0_⟩
      have n1_ : Aside0 (w34.heap[gb413]? = some (.cells #[.int .i64 a0_0, .int .i64 a0_1, .int .i64 a0_2, .int .i64 a0_3, .int .i64 a0_4, .int .i64 a0_5, .int .i64 a0_6, .int .i64 a0_7, .int .i64 a0_8, .int .i64 a0_9, .int .i64 a0_10, .int .i64 a0_11] 23 (0, 0))) := ⟨h1_⟩
      have n2_ : Aside0 (w34.heap[gb414]? = some (.cells #[.int .i64 a1_0, .int .i64 a1_1, .int .i64 a1_2, .int .i64 a1_3] 57 (0, 0))) := ⟨h2_⟩
      have n3_ : Aside0 (w34.heap[gb415]? = some (.cells #[.int .i64 0, .int .i64 0] 25 (0, 0))) := ⟨h3_⟩
      have n4_ : Aside0 (w34.heap[gb421]? = some (.cells #[.int .i64 t418, .int .i64 t420] 25 (0, 0))) := ⟨h4_⟩
      have n5_ : Aside0 (w34.heap[gb431]? = some (.cells #[.int .i64 0, .int .i64 0] 25 (0, 0))) := ⟨h5_⟩
      have n6_ : Aside0 (w.heap.size ≤ gb431) := ⟨h6_⟩
      have n7_ : Aside0 (w.heap.size ≤ gb431) := ⟨h7_⟩
      have n8_ : Aside0 (gb413 ≠ gb431) := ⟨h8_⟩
      have n9_ : Aside0 (gb431 ≠ gb413) := ⟨h9_⟩
      have n10_ : Aside0 (gb414 ≠ gb431) := ⟨h10_⟩
      have n11_ : Aside0 (gb431 ≠ gb414) := ⟨h11_⟩
      have n12_ : Aside0 (gb415 ≠ gb431) := ⟨h12_⟩
      have n13_ : Aside0 (gb431 ≠ gb415) := ⟨h13_⟩
      have n14_ : Aside0 (gb421 ≠ gb431) := ⟨h14_⟩
      have n15_ : Aside0 (gb431 ≠ gb421) := ⟨h15_⟩
      have n16_ : Aside0 (Below w.heap.size w w34) := ⟨h16_⟩
      clear BK413 BK414 BK415 BK421 HB h0_ h1_ h2_ h3_ h4_ h5_ h6_ h7_ h8_ h9_ h10_ h11_ h12_ h13_ h14_ h15_ h16_
      have HO425 := n0_
      have BK413 := n1_
      have BK414 := n2_
      have BK415 := n3_
      have BK421 := n4_
      have BK431 := n5_
      have GW431 := n6_
      have GE431 := n7_
      have NB413_431 := n8_
      have NB431_413 := n9_
      have NB414_431 := n10_
      have NB431_414 := n11_
      have NB415_431 := n12_
      have NB431_415 := n13_
      have NB421_431 := n14_
      have NB431_421 := n15_
      have HB := n16_
      clear n0_ n1_ n2_ n3_ n4_ n5_ n6_ n7_ n8_ n9_ n10_ n11_ n12_ n13_ n14_ n15_ n16_
      have hHeld := hS_
      try dsimp only at hHeld
      refine norm_ (a' := ?_) ?_ ?_
      rotate_left
      ·simp only [putAll, Act.put, List.setIfInBounds_toArray, List.set_cons_zero, List.set_cons_succ]
       rfl
      refine one_ (i := 8) (N := some 37) #[true, true, true, true, true, true, true, true, true, false, false, true, false] rfl rfl (one_of HT_.out (by kernel_rfl)) (by decide) (fun K hK => ?_)
      refine Kd.R_lit_step (Kd.int .i64) _ 3 ?hg (N := 37) ?hd (xs := ([t417, a0_5] : List Int)) (inner := [.int .i64 t417, .int .i64 a0_5]) (ok := fun _ => True) (okp := fun _ => True) ?hr ?hp (fun _ hk => hk) trivial (Below.refl _ _) (Nat.le_refl _) (by simp) ?_; (case hd => rfl); (case hg => rfl); (case hr => first | (go_simp; done) | (go_simp; rfl)); (case hp => exact (Reps.one (show Kd.M (Kd.int .i64) _ _ _ t417 [.int .i64 t417] from rfl) (Reps.one (show Kd.M (Kd.int .i64) _ _ _ a0_5 [.int .i64 a0_5] from rfl) (Reps.none _ _))))
      intro v428 w35 ho36 hb hg_ hnew_
      clear hg_ hnew_
      (first | rw [← Ny427.out] at ho36 | (simp only [Int.reduceToNat] at ho36; rw [← Ny427.out] at ho36))
      have n0_ := Aside0.mk (Kd.R_elder' (by (with_reducible repeat (first | apply Kd.R_alloc | apply Kd.R_drewN | apply Kd.R_drew)); exact HO425.out) (Kd.R_base ho36) hb)
      have n1_ := Aside0.mk (Kd.R_lower (Kd.R_new' ho36 (Kd.R_lt (by (with_reducible repeat (first | apply Kd.R_alloc | apply Kd.R_drewN | apply Kd.R_drew)); exact HO425.out))) (below_size (by with_reducible repeat first | exact HB.out | apply pw_below_drewN)))
      have n2_ := Aside0.mk (blk_below (by with_reducible repeat first | exact BK413.out | apply bN) hb)
      have n3_ := Aside0.mk (blk_below (by with_reducible repeat first | exact BK414.out | apply bN) hb)
      have n4_ := Aside0.mk (blk_below (by with_reducible repeat first | exact BK415.out | apply bN) hb)
      have n5_ := Aside0.mk (blk_below (by with_reducible repeat first | exact BK421.out | apply bN) hb)
      have n6_ := Aside0.mk (blk_below (by with_reducible repeat first | exact BK431.out | apply bN) hb)
      have n7_ := Aside0.mk (below_step (by with_reducible repeat first | exact HB.out | apply pw_below_drewN) hb)
      clear HO425 BK413 BK414 BK415 BK421 BK431 HB
      have HO425 := n0_
      have HO429 := n1_
      have BK413 := n2_
      have BK414 := n3_
      have BK415 := n4_
      have BK421 := n5_
      have BK431 := n6_
      have HB := n7_
      clear n0_ n1_ n2_ n3_ n4_ n5_ n6_ n7_ hb ho36
      refine hK.out _ _ (c12 BK413.out) (fun hHeld => ?_)
      clear hK K
      refine norm_ (a' := ?_) ?_ ?_
      rotate_left
      ·show Act.put _ (some 37) _ = _
       simp only [Act.put, List.setIfInBounds_toArray, List.set_cons_zero, List.set_cons_succ, i64_w, i32_w]
       rfl
      exact norm_ (by simp only [putAll, Act.put, List.setIfInBounds_toArray, List.set_cons_zero, List.set_cons_succ] <;> rfl) (hJ2_3_4_8_11 (_, _, gb431) _ ⟨hHeld, (by (with_reducible repeat (first | apply Kd.R_alloc | apply Kd.R_drewN | apply Kd.R_drew)); exact Kd.R_mono HO425.out (fun _ hk => hk.2)), (by (with_reducible repeat (first | apply Kd.R_alloc | apply Kd.R_drewN | apply Kd.R_drew)); exact Kd.R_mono HO429.out (fun _ hk => hk.2)), (by with_reducible repeat first | exact BK413.out | apply bN), (by with_reducible repeat first | exact BK414.out | apply bN), (by with_reducible repeat first | exact BK415.out | apply bN), (by with_reducible repeat first | exact BK421.out | apply bN), (by with_reducible repeat first | exact BK431.out | apply bN), GW431.out, GE431.out, NB413_431.out, NB431_413.out, NB414_431.out, NB431_414.out, NB415_431.out, NB431_415.out, NB421_431.out, NB431_421.out, (by repeat (first | (with_reducible first | exact HB.out | apply below_alloc | apply pw_below_drewN | apply below_drew1 | refine below_set ?_ GE413.out | refine below_set ?_ GE414.out | refine below_set ?_ GE415.out | refine below_set ?_ GE421.out | refine below_set ?_ GE431.out) | exact HB.out))⟩)
    ·skip
     rintro ⟨v424, v428⟩ w35 ⟨hS_, h0_, h1_, h2_, h3_, h4_, h5_, h6_⟩
     have n0_ : Aside0 (Kd.R (Kd.int .i64) 3 w35 w.heap.size (fun k_ => some k_ ≠ (v428 : Value).ownBlock) v424 y423) := ⟨h0_⟩
     have n1_ : Aside0 (Kd.R (Kd.int .i64) 3 w35 w.heap.size (fun k_ => some k_ ≠ (v424 : Value).ownBlock) v428 y427) := ⟨h1_⟩
     have n2_ : Aside0 (w35.heap[gb413]? = some (.cells #[.int .i64 a0_0, .int .i64 a0_1, .int .i64 a0_2, .int .i64 a0_3, .int .i64 a0_4, .int .i64 a0_5, .int .i64 a0_6, .int .i64 a0_7, .int .i64 a0_8, .int .i64 a0_9, .int .i64 a0_10, .int .i64 a0_11] 23 (0, 0))) := ⟨h2_⟩
     have n3_ : Aside0 (w35.heap[gb414]? = some (.cells #[.int .i64 a1_0, .int .i64 a1_1, .int .i64 a1_2, .int .i64 a1_3] 57 (0, 0))) := ⟨h3_⟩
     have n4_ : Aside0 (w35.heap[gb415]? = some (.cells #[.int .i64 0, .int .i64 0] 25 (0, 0))) := ⟨h4_⟩
     have n5_ : Aside0 (w35.heap[gb421]? = some (.cells #[.int .i64 t418, .int .i64 t420] 25 (0, 0))) := ⟨h5_⟩
     have n6_ : Aside0 (Below w.heap.size w w35) := ⟨h6_⟩
     clear BK413 BK414 BK415 BK421 HB h0_ h1_ h2_ h3_ h4_ h5_ h6_
     have HO425 := n0_
     have HO429 := n1_
     have BK413 := n2_
     have BK414 := n3_
     have BK415 := n4_
     have BK421 := n5_
     have HB := n6_
     clear n0_ n1_ n2_ n3_ n4_ n5_ n6_
     have hHeld := hS_
     try dsimp only at hHeld
     obtain ⟨Ao36, co36, eo36⟩ := Kd.R_slice HO429.out
     (first | subst eo36 | (injection eo36 with f1_ f2_ f3_; have f4_ := f1_.symm; have f5_ := f3_.symm; clear f1_ f2_ f3_; subst f4_; subst f5_))
     refine norm_ (a' := ?_) ?_ ?_
     rotate_left
     ·simp only [putAll, Act.put, List.setIfInBounds_toArray, List.set_cons_zero, List.set_cons_succ]
      rfl
     refine two_ (i := 9) (j := 11) (Ni := some 38) (Nj := some 8) #[true, true, true, true, true, true, true, true, true, true, false, false, false] #[true, true, true, true, true, true, true, true, true, false, false, true, false] rfl rfl rfl rfl (two_of HT_.out (by kernel_rfl)) (by decide) (by decide) (fun K hK => ?_) (fun K hK => ?_)
     ·skip
      refine goes_ Try.func41 (by kernel_rfl) rfl #[.slice Ao36 y427.length co36] (by rfl) rfl rfl (by (try simp only [List.map_toArray, List.map_cons, List.map_nil]); first | done | rfl | (simp only [List.length_drop, List.length_take]; rfl)) ?_
      with_reducible refine (sat_Add.calls k _ _ y427 t430 _ ?side1 ?side2 A10.out).mono ?_
      (case side1 => repeat (first | exact (Kd.R_reads' HO429.out).2.2 | (with_reducible refine Kd.C_alloc ?_ _) | (with_reducible refine Kd.C_drewN ?_ _) | (with_reducible refine Kd.C_drew ?_)))
      (case side2 => exact (Kd.R_reads' HO429.out).2.1)
      rintro e w' ⟨rfl, ⟨nd, rfl⟩⟩
      refine ⟨_, rfl, ?_⟩
      refine hK.out _ _ (c12 BK413.out) (fun hHeld => ?_)
      clear hK K
      refine norm_ (a' := ?_) ?_ ?_
      rotate_left
      ·show Act.put _ (some 38) _ = _
       simp only [Act.put, List.setIfInBounds_toArray, List.set_cons_zero, List.set_cons_succ, i64_w, i32_w]
       rfl
      refine pure_ (i := 10) (N := some 39) (v := ?_) (a' := ?_) #[true, true, true, true, true, true, true, true, true, true, true, false, false] rfl rfl (any_of HT_.out (by kernel_rfl)) (fun _ _ _ h => h) (Or.inl ⟨by rfl, ?_⟩) ?_ ?_
      rotate_left
      ·intro w'
       go_simp
       with_reducible rfl
      rotate_left
      ·simp only [Act.put, List.setIfInBounds_toArray, List.set_cons_zero, List.set_cons_succ, i64_w, i32_w]
       rfl
      exact norm_ (by simp only [putAll, Act.put, List.setIfInBounds_toArray, List.set_cons_zero, List.set_cons_succ] <;> rfl) (hJ2_3_4_8_9 (v424, .slice Ao36 y427.length co36) _ ⟨hHeld, (by (with_reducible repeat (first | apply Kd.R_alloc | apply Kd.R_drewN | apply Kd.R_drew)); exact HO425.out), (by (with_reducible repeat (first | apply Kd.R_alloc | apply Kd.R_drewN | apply Kd.R_drew)); exact HO429.out), (by with_reducible repeat first | exact BK413.out | apply bN), (by with_reducible repeat first | exact BK414.out | apply bN), (by with_reducible repeat first | exact BK415.out | apply bN), (by with_reducible repeat first | exact BK421.out | apply bN), (by repeat (first | (with_reducible first | exact HB.out | apply below_alloc | apply pw_below_drewN | apply below_drew1 | refine below_set ?_ GE413.out | refine below_set ?_ GE414.out | refine below_set ?_ GE415.out | refine below_set ?_ GE421.out) | exact HB.out))⟩)
     ·skip
      refine box_step ?hg (N := 8) ?hd (cs := #[.int .i64 0, .int .i64 0]) (t := 25) ?hr ?_; (case hd => rfl); (case hg => rfl); (case hr => first | (go_simp; done) | (go_simp; rfl))
      intro gb431 hg w36 hbox hb
      have n0_ := Aside0.mk (Kd.R_below (by (with_reducible repeat (first | apply Kd.R_alloc | apply Kd.R_drewN | apply Kd.R_drew)); exact HO425.out) hb)
      have n1_ := Aside0.mk (Kd.R_below (by (with_reducible repeat (first | apply Kd.R_alloc | apply Kd.R_drewN | apply Kd.R_drew)); exact HO429.out) hb)
      have n2_ := Aside0.mk (blk_below (by with_reducible repeat first | exact BK413.out | apply bN) hb)
      have n3_ := Aside0.mk (blk_below (by with_reducible repeat first | exact BK414.out | apply bN) hb)
      have n4_ := Aside0.mk (blk_below (by with_reducible repeat first | exact BK415.out | apply bN) hb)
      have n5_ := Aside0.mk (blk_below (by with_reducible repeat first | exact BK421.out | apply bN) hb)
      have n6_ := Aside0.mk (below_step (by with_reducible repeat first | exact HB.out | apply pw_below_drewN) hb)
      have n7_ := Aside0.mk (hbox)
      have n8_ := Aside0.mk ((by rw [hg]; exact (below_size (by with_reducible repeat first | exact HB.out | apply pw_below_drewN)) : w.heap.size ≤ gb431))
      have n9_ := Aside0.mk ((by rw [hg]; exact (below_size (by with_reducible repeat first | exact HB.out | apply pw_below_drewN)) : w.heap.size ≤ gb431))
      have n10_ := Aside0.mk ((by rw [hg]; exact Nat.ne_of_lt (blk_lt (by with_reducible repeat first | exact BK413.out | apply bN)) : gb413 ≠ gb431))
      have n11_ := Aside0.mk ((by rw [hg]; exact Nat.ne_of_gt (blk_lt (by with_reducible repeat first | exact BK413.out | apply bN)) : gb431 ≠ gb413))
      have n12_ := Aside0.mk ((by rw [hg]; exact Nat.ne_of_lt (blk_lt (by with_reducible repeat first | exact BK414.out | apply bN)) : gb414 ≠ gb431))
      have n13_ := Aside0.mk ((by rw [hg]; exact Nat.ne_of_gt (blk_lt (by with_reducible repeat first | exact BK414.out | apply bN)) : gb431 ≠ gb414))
      have n14_ := Aside0.mk ((by rw [hg]; exact Nat.ne_of_lt (blk_lt (by with_reducible repeat first | exact BK415.out | apply bN)) : gb415 ≠ gb431))
      have n15_ := Aside0.mk ((by rw [hg]; exact Nat.ne_of_gt (blk_lt (by with_reducible repeat first | exact BK415.out | apply bN)) : gb431 ≠ gb415))
      have n16_ := Aside0.mk ((by rw [hg]; exact Nat.ne_of_lt (blk_lt (by with_reducible repeat first | exact BK421.out | apply bN)) : gb421 ≠ gb431))
      have n17_ := Aside0.mk ((by rw [hg]; exact Nat.ne_of_gt (blk_lt (by with_reducible repeat first | exact BK421.out | apply bN)) : gb431 ≠ gb421))
      clear HO425 HO429 BK413 BK414 BK415 BK421 HB
      have HO425 := n0_
      have HO429 := n1_
      have BK413 := n2_
      have BK414 := n3_
      have BK415 := n4_
      have BK421 := n5_
      have HB := n6_
      have BK431 := n7_
      have GW431 := n8_
      have GE431 := n9_
      have NB413_431 := n10_
      have NB431_413 := n11_
      have NB414_431 := n12_
      have NB431_414 := n13_
      have NB415_431 := n14_
      have NB431_415 := n15_
      have NB421_431 := n16_
      have NB431_421 := n17_
      clear n0_ n1_ n2_ n3_ n4_ n5_ n6_ n7_ n8_ n9_ n10_ n11_ n12_ n13_ n14_ n15_ n16_ n17_ hb hbox hg
      refine hK.out _ _ (c12 BK413.out) (fun hHeld => ?_)
      clear hK K
      refine norm_ (a' := ?_) ?_ ?_
      rotate_left
      ·show Act.put _ (some 8) _ = _
       simp only [Act.put, List.setIfInBounds_toArray, List.set_cons_zero, List.set_cons_succ, i64_w, i32_w]
       rfl
      exact norm_ (by simp only [putAll, Act.put, List.setIfInBounds_toArray, List.set_cons_zero, List.set_cons_succ] <;> rfl) (hJ2_3_4_8_11 (_, _, gb431) _ ⟨hHeld, (by (with_reducible repeat (first | apply Kd.R_alloc | apply Kd.R_drewN | apply Kd.R_drew)); exact HO425.out), (by (with_reducible repeat (first | apply Kd.R_alloc | apply Kd.R_drewN | apply Kd.R_drew)); exact HO429.out), (by with_reducible repeat first | exact BK413.out | apply bN), (by with_reducible repeat first | exact BK414.out | apply bN), (by with_reducible repeat first | exact BK415.out | apply bN), (by with_reducible repeat first | exact BK421.out | apply bN), (by with_reducible repeat first | exact BK431.out | apply bN), GW431.out, GE431.out, NB413_431.out, NB431_413.out, NB414_431.out, NB431_414.out, NB415_431.out, NB431_415.out, NB421_431.out, NB431_421.out, (by repeat (first | (with_reducible first | exact HB.out | apply below_alloc | apply pw_below_drewN | apply below_drew1 | refine below_set ?_ GE413.out | refine below_set ?_ GE414.out | refine below_set ?_ GE415.out | refine below_set ?_ GE421.out | refine below_set ?_ GE431.out) | exact HB.out))⟩)
   ·skip
    rintro ⟨v424, v428, gb431⟩ w36 ⟨hS_, h0_, h1_, h2_, h3_, h4_, h5_, h6_, h7_, h8_, h9_, h10_, h11_, h12_, h13_, h14_, h15_, h16_, h17_⟩
    have n0_ : Aside0 (Kd.R (Kd.int .i64) 3 w36 w.heap.size (fun k_ => some k_ ≠ (v428 : Value).ownBlock) v424 y423) := ⟨h0_⟩
    have n1_ : Aside0 (Kd.R (Kd.int .i64) 3 w36 w.heap.size (fun k_ => some k_ ≠ (v424 : Value).ownBlock) v428 y427) := ⟨h1_⟩
    have n2_ : Aside0 (w36.heap[gb413]? = some (.cells #[.int .i64 a0_0, .int .i64 a0_1, .int .i64 a0_2, .int .i64 a0_3, .int .i64 a0_4, .int .i64 a0_5, .int .i64 a0_6, .int .i64 a0_7, .int .i64 a0_8, .int .i64 a0_9, .int .i64 a0_10, .int .i64 a0_11] 23 (0, 0))) := ⟨h2_⟩
    have n3_ : Aside0 (w36.heap[gb414]? = some (.cells #[.int .i64 a1_0, .int .i64 a1_1, .int .i64 a1_2, .int .i64 a1_3] 57 (0, 0))) := ⟨h3_⟩
    have n4_ : Aside0 (w36.heap[gb415]? = some (.cells #[.int .i64 0, .int .i64 0] 25 (0, 0))) := ⟨h4_⟩
    have n5_ : Aside0 (w36.heap[gb421]? = some (.cells #[.int .i64 t418, .int .i64 t420] 25 (0, 0))) := ⟨h5_⟩
    have n6_ : Aside0 (w36.heap[gb431]? = some (.cells #[.int .i64 0, .int .i64 0] 25 (0, 0))) := ⟨h6_⟩
    have n7_ : Aside0 (w.heap.size ≤ gb431) := ⟨h7_⟩
    have n8_ : Aside0 (w.heap.size ≤ gb431) := ⟨h8_⟩
    have n9_ : Aside0 (gb413 ≠ gb431) := ⟨h9_⟩
    have n10_ : Aside0 (gb431 ≠ gb413) := ⟨h10_⟩
    have n11_ : Aside0 (gb414 ≠ gb431) := ⟨h11_⟩
    have n12_ : Aside0 (gb431 ≠ gb414) := ⟨h12_⟩
    have n13_ : Aside0 (gb415 ≠ gb431) := ⟨h13_⟩
    have n14_ : Aside0 (gb431 ≠ gb415) := ⟨h14_⟩
    have n15_ : Aside0 (gb421 ≠ gb431) := ⟨h15_⟩
    have n16_ : Aside0 (gb431 ≠ gb421) := ⟨h16_⟩
    have n17_ : Aside0 (Below w.heap.size w w36) := ⟨h17_⟩
    clear BK413 BK414 BK415 BK421 HB h0_ h1_ h2_ h3_ h4_ h5_ h6_ h7_ h8_ h9_ h10_ h11_ h12_ h13_ h14_ h15_ h16_ h17_
    have HO425 := n0_
    have HO429 := n1_
    have BK413 := n2_
    have BK414 := n3_
    have BK415 := n4_
    have BK421 := n5_
    have BK431 := n6_
    have GW431 := n7_
    have GE431 := n8_
    have NB413_431 := n9_
    have NB431_413 := n10_
    have NB414_431 := n11_
    have NB431_414 := n12_
    have NB415_431 := n13_
    have NB431_415 := n14_
    have NB421_431 := n15_
    have NB431_421 := n16_
    have HB := n17_
    clear n0_ n1_ n2_ n3_ n4_ n5_ n6_ n7_ n8_ n9_ n10_ n11_ n12_ n13_ n14_ n15_ n16_ n17_
    have hHeld := hS_
    try dsimp only at hHeld
    obtain ⟨Ao37, co37, eo37⟩ := Kd.R_slice HO429.out
    (first | subst eo37 | (injection eo37 with f1_ f2_ f3_; have f4_ := f1_.symm; have f5_ := f3_.symm; clear f1_ f2_ f3_; subst f4_; subst f5_))
    refine norm_ (a' := ?_) ?_ ?_
    rotate_left
    ·simp only [putAll, Act.put, List.setIfInBounds_toArray, List.set_cons_zero, List.set_cons_succ]
     rfl
    refine one_ (i := 9) (N := some 38) #[true, true, true, true, true, true, true, true, true, true, false, true, false] rfl rfl (one_of HT_.out (by kernel_rfl)) (by decide) (fun K hK => ?_)
    refine goes_ Try.func41 (by kernel_rfl) rfl #[.slice Ao37 y427.length co37] (by rfl) rfl rfl (by (try simp only [List.map_toArray, List.map_cons, List.map_nil]); first | done | rfl | (simp only [List.length_drop, List.length_take]; rfl)) ?_
    with_reducible refine (sat_Add.calls k _ _ y427 t430 _ ?side1 ?side2 A10.out).mono ?_
    (case side1 => repeat (first | exact (Kd.R_reads' HO429.out).2.2 | (with_reducible refine Kd.C_alloc ?_ _) | (with_reducible refine Kd.C_drewN ?_ _) | (with_reducible refine Kd.C_drew ?_)))
    (case side2 => exact (Kd.R_reads' HO429.out).2.1)
    rintro e w' ⟨rfl, ⟨nd, rfl⟩⟩
    refine ⟨_, rfl, ?_⟩
    refine hK.out _ _ (c12 BK413.out) (fun hHeld => ?_)
    clear hK K
    refine norm_ (a' := ?_) ?_ ?_
    rotate_left
    ·show Act.put _ (some 38) _ = _
     simp only [Act.put, List.setIfInBounds_toArray, List.set_cons_zero, List.set_cons_succ, i64_w, i32_w]
     rfl
    refine pure_ (i := 10) (N := some 39) (v := ?_) (a' := ?_) #[true, true, true, true, true, true, true, true, true, true, true, true, false] rfl rfl (any_of HT_.out (by kernel_rfl)) (fun _ _ _ h => h) (Or.inl ⟨by rfl, ?_⟩) ?_ ?_
    rotate_left
    ·intro w'
     go_simp
     with_reducible rfl
    rotate_left
    ·simp only [Act.put, List.setIfInBounds_toArray, List.set_cons_zero, List.set_cons_succ, i64_w, i32_w]
     rfl
    exact norm_ (by simp only [putAll, Act.put, List.setIfInBounds_toArray, List.set_cons_zero, List.set_cons_succ] <;> rfl) (hJ2_3_4_8_9_11 (v424, .slice Ao37 y427.length co37, gb431) _ ⟨hHeld, (by (with_reducible repeat (first | apply Kd.R_alloc | apply Kd.R_drewN | apply Kd.R_drew)); exact HO425.out), (by (with_reducible repeat (first | apply Kd.R_alloc | apply Kd.R_drewN | apply Kd.R_drew)); exact HO429.out), (by with_reducible repeat first | exact BK413.out | apply bN), (by with_reducible repeat first | exact BK414.out | apply bN), (by with_reducible repeat first | exact BK415.out | apply bN), (by with_reducible repeat first | exact BK421.out | apply bN), (by with_reducible repeat first | exact BK431.out | apply bN), GW431.out, GE431.out, NB413_431.out, NB431_413.out, NB414_431.out, NB431_414.out, NB415_431.out, NB431_415.out, NB421_431.out, NB431_421.out, (by repeat (first | (with_reducible first | exact HB.out | apply below_alloc | apply pw_below_drewN | apply below_drew1 | refine below_set ?_ GE413.out | refine below_set ?_ GE414.out | refine below_set ?_ GE415.out | refine below_set ?_ GE421.out | refine below_set ?_ GE431.out) | exact HB.out))⟩)
  ·skip
   rintro ⟨v424, v428⟩ w36 ⟨hS_, h0_, h1_, h2_, h3_, h4_, h5_, h6_⟩
   have n0_ : Aside0 (Kd.R (Kd.int .i64) 3 w36 w.heap.size (fun k_ => some k_ ≠ (v428 : Value).ownBlock) v424 y423) := ⟨h0_⟩
   have n1_ : Aside0 (Kd.R (Kd.int .i64) 3 w36 w.heap.size (fun k_ => some k_ ≠ (v424 : Value).ownBlock) v428 y427) := ⟨h1_⟩
   have n2_ : Aside0 (w36.heap[gb413]? = some (.cells #[.int .i64 a0_0, .int .i64 a0_1, .int .i64 a0_2, .int .i64 a0_3, .int .i64 a0_4, .int .i64 a0_5, .int .i64 a0_6, .int .i64 a0_7, .int .i64 a0_8, .int .i64 a0_9, .int .i64 a0_10, .int .i64 a0_11] 23 (0, 0))) := ⟨h2_⟩
   have n3_ : Aside0 (w36.heap[gb414]? = some (.cells #[.int .i64 a1_0, .int .i64 a1_1, .int .i64 a1_2, .int .i64 a1_3] 57 (0, 0))) := ⟨h3_⟩
   have n4_ : Aside0 (w36.heap[gb415]? = some (.cells #[.int .i64 0, .int .i64 0] 25 (0, 0))) := ⟨h4_⟩
   have n5_ : Aside0 (w36.heap[gb421]? = some (.cells #[.int .i64 t418, .int .i64 t420] 25 (0, 0))) := ⟨h5_⟩
   have n6_ : Aside0 (Below w.heap.size w w36) := ⟨h6_⟩
   clear BK413 BK414 BK415 BK421 HB h0_ h1_ h2_ h3_ h4_ h5_ h6_
   have HO425 := n0_
   have HO429 := n1_
   have BK413 := n2_
   have BK414 := n3_
   have BK415 := n4_
   have BK421 := n5_
   have HB := n6_
   clear n0_ n1_ n2_ n3_ n4_ n5_ n6_
   have hHeld := hS_
   try dsimp only at hHeld
   refine norm_ (a' := ?_) ?_ ?_
   rotate_left
   ·simp only [putAll, Act.put, List.setIfInBounds_toArray, List.set_cons_zero, List.set_cons_succ]
    rfl
   refine one_ (i := 11) (N := some 8) #[true, true, true, true, true, true, true, true, true, true, true, true, false] rfl rfl (one_of HT_.out (by kernel_rfl)) (by decide) (fun K hK => ?_)
   refine box_step ?hg (N := 8) ?hd (cs := #[.int .i64 0, .int .i64 0]) (t := 25) ?hr ?_; (case hd => rfl); (case hg => rfl); (case hr => first | (go_simp; done) | (go_simp; rfl))
   intro gb431 hg w37 hbox hb
   have n0_ := Aside0.mk (Kd.R_below (by (with_reducible repeat (first | apply Kd.R_alloc | apply Kd.R_drewN | apply Kd.R_drew)); exact HO425.out) hb)
   have n1_ := Aside0.mk (Kd.R_below (by (with_reducible repeat (first | apply Kd.R_alloc | apply Kd.R_drewN | apply Kd.R_drew)); exact HO429.out) hb)
   have n2_ := Aside0.mk (blk_below (by with_reducible repeat first | exact BK413.out | apply bN) hb)
   have n3_ := Aside0.mk (blk_below (by with_reducible repeat first | exact BK414.out | apply bN) hb)
   have n4_ := Aside0.mk (blk_below (by with_reducible repeat first | exact BK415.out | apply bN) hb)
   have n5_ := Aside0.mk (blk_below (by with_reducible repeat first | exact BK421.out | apply bN) hb)
   have n6_ := Aside0.mk (below_step (by with_reducible repeat first | exact HB.out | apply pw_below_drewN) hb)
   have n7_ := Aside0.mk (hbox)
   have n8_ := Aside0.mk ((by rw [hg]; exact (below_size (by with_reducible repeat first | exact HB.out | apply pw_below_drewN)) : w.heap.size ≤ gb431))
   have n9_ := Aside0.mk ((by rw [hg]; exact (below_size (by with_reducible repeat first | exact HB.out | apply pw_below_drewN)) : w.heap.size ≤ gb431))
   have n10_ := Aside0.mk ((by rw [hg]; exact Nat.ne_of_lt (blk_lt (by with_reducible repeat first | exact BK413.out | apply bN)) : gb413 ≠ gb431))
   have n11_ := Aside0.mk ((by rw [hg]; exact Nat.ne_of_gt (blk_lt (by with_reducible repeat first | exact BK413.out | apply bN)) : gb431 ≠ gb413))
   have n12_ := Aside0.mk ((by rw [hg]; exact Nat.ne_of_lt (blk_lt (by with_reducible repeat first | exact BK414.out | apply bN)) : gb414 ≠ gb431))
   have n13_ := Aside0.mk ((by rw [hg]; exact Nat.ne_of_gt (blk_lt (by with_reducible repeat first | exact BK414.out | apply bN)) : gb431 ≠ gb414))
   have n14_ := Aside0.mk ((by rw [hg]; exact Nat.ne_of_lt (blk_lt (by with_reducible repeat first | exact BK415.out | apply bN)) : gb415 ≠ gb431))
   have n15_ := Aside0.mk ((by rw [hg]; exact Nat.ne_of_gt (blk_lt (by with_reducible repeat first | exact BK415.out | apply bN)) : gb431 ≠ gb415))
   have n16_ := Aside0.mk ((by rw [hg]; exact Nat.ne_of_lt (blk_lt (by with_reducible repeat first | exact BK421.out | apply bN)) : gb421 ≠ gb431))
   have n17_ := Aside0.mk ((by rw [hg]; exact Nat.ne_of_gt (blk_lt (by with_reducible repeat first | exact BK421.out | apply bN)) : gb431 ≠ gb421))
   clear HO425 HO429 BK413 BK414 BK415 BK421 HB
   have HO425 := n0_
   have HO429 := n1_
   have BK413 := n2_
   have BK414 := n3_
   have BK415 := n4_
   have BK421 := n5_
   have HB := n6_
   have BK431 := n7_
   have GW431 := n8_
   have GE431 := n9_
   have NB413_431 := n10_
   have NB431_413 := n11_
   have NB414_431 := n12_
   have NB431_414 := n13_
   have NB415_431 := n14_
   have NB431_415 := n15_
   have NB421_431 := n16_
   have NB431_421 := n17_
   clear n0_ n1_ n2_ n3_ n4_ n5_ n6_ n7_ n8_ n9_ n10_ n11_ n12_ n13_ n14_ n15_ n16_ n17_ hb hbox hg
   refine hK.out _ _ (c12 BK413.out) (fun hHeld => ?_)
   clear hK K
   refine norm_ (a' := ?_) ?_ ?_
   rotate_left
   ·show Act.put _ (some 8) _ = _
    simp only [Act.put, List.setIfInBounds_toArray, List.set_cons_zero, List.set_cons_succ, i64_w, i32_w]
    rfl
   exact norm_ (by simp only [putAll, Act.put, List.setIfInBounds_toArray, List.set_cons_zero, List.set_cons_succ] <;> rfl) (hJ2_3_4_8_9_11 (_, _, gb431) _ ⟨hHeld, (by (with_reducible repeat (first | apply Kd.R_alloc | apply Kd.R_drewN | apply Kd.R_drew)); exact HO425.out), (by (with_reducible repeat (first | apply Kd.R_alloc | apply Kd.R_drewN | apply Kd.R_drew)); exact HO429.out), (by with_reducible repeat first | exact BK413.out | apply bN), (by with_reducible repeat first | exact BK414.out | apply bN), (by with_reducible repeat first | exact BK415.out | apply bN), (by with_reducible repeat first | exact BK421.out | apply bN), (by with_reducible repeat first | exact BK431.out | apply bN), GW431.out, GE431.out, NB413_431.out, NB431_413.out, NB414_431.out, NB431_414.out, NB415_431.out, NB431_415.out, NB421_431.out, NB431_421.out, (by repeat (first | (with_reducible first | exact HB.out | apply below_alloc | apply pw_below_drewN | apply below_drew1 | refine below_set ?_ GE413.out | refine below_set ?_ GE414.out | refine below_set ?_ GE415.out | refine below_set ?_ GE421.out | refine below_set ?_ GE431.out) | exact HB.out))⟩)
 rintro ⟨v424, v428, gb431⟩ w37 ⟨hS_, h0_, h1_, h2_, h3_, h4_, h5_, h6_, h7_, h8_, h9_, h10_, h11_, h12_, h13_, h14_, h15_, h16_, h17_⟩
 have n0_ : Aside0 (Kd.R (Kd.int .i64) 3 w37 w.heap.size (fun k_ => some k_ ≠ (v428 : Value).ownBlock) v424 y423) := ⟨h0_⟩
 have n1_ : Aside0 (Kd.R (Kd.int .i64) 3 w37 w.heap.size (fun k_ => some k_ ≠ (v424 : Value).ownBlock) v428 y427) := ⟨h1_⟩
 have n2_ : Aside0 (w37.heap[gb413]? = some (.cells #[.int .i64 a0_0, .int .i64 a0_1, .int .i64 a0_2, .int .i64 a0_3, .int .i64 a0_4, .int .i64 a0_5, .int .i64 a0_6, .int .i64 a0_7, .int .i64 a0_8, .int .i64 a0_9, .int .i64 a0_10, .int .i64 a0_11] 23 (0, 0))) := ⟨h2_⟩
 have n3_ : Aside0 (w37.heap[gb414]? = some (.cells #[.int .i64 a1_0, .int .i64 a1_1, .int .i64 a1_2, .int .i64 a1_3] 57 (0, 0))) := ⟨h3_⟩
 have n4_ : Aside0 (w37.heap[gb415]? = some (.cells #[.int .i64 0, .int .i64 0] 25 (0, 0))) := ⟨h4_⟩
 have n5_ : Aside0 (w37.heap[gb421]? = some (.cells #[.int .i64 t418, .int .i64 t420] 25 (0, 0))) := ⟨h5_⟩
 have n6_ : Aside0 (w37.heap[gb431]? = some (.cells #[.int .i64 0, .int .i64 0] 25 (0, 0))) := ⟨h6_⟩
 have n7_ : Aside0 (w.heap.size ≤ gb431) := ⟨h7_⟩
 have n8_ : Aside0 (w.heap.size ≤ gb431) := ⟨h8_⟩
 have n9_ : Aside0 (gb413 ≠ gb431) := ⟨h9_⟩
 have n10_ : Aside0 (gb431 ≠ gb413) := ⟨h10_⟩
 have n11_ : Aside0 (gb414 ≠ gb431) := ⟨h11_⟩
 have n12_ : Aside0 (gb431 ≠ gb414) := ⟨h12_⟩
 have n13_ : Aside0 (gb415 ≠ gb431) := ⟨h13_⟩
 have n14_ : Aside0 (gb431 ≠ gb415) := ⟨h14_⟩
 have n15_ : Aside0 (gb421 ≠ gb431) := ⟨h15_⟩
 have n16_ : Aside0 (gb431 ≠ gb421) := ⟨h16_⟩
 have n17_ : Aside0 (Below w.heap.size w w37) := ⟨h17_⟩
 clear BK413 BK414 BK415 BK421 HB h0_ h1_ h2_ h3_ h4_ h5_ h6_ h7_ h8_ h9_ h10_ h11_ h12_ h13_ h14_ h15_ h16_ h17_
 have HO425 := n0_
 have HO429 := n1_
 have BK413 := n2_
 have BK414 := n3_
 have BK415 := n4_
 have BK421 := n5_
 have BK431 := n6_
 have GW431 := n7_
 have GE431 := n8_
 have NB413_431 := n9_
 have NB431_413 := n10_
 have NB414_431 := n11_
 have NB431_414 := n12_
 have NB415_431 := n13_
 have NB431_415 := n14_
 have NB421_431 := n15_
 have NB431_421 := n16_
 have HB := n17_
 clear n0_ n1_ n2_ n3_ n4_ n5_ n6_ n7_ n8_ n9_ n10_ n11_ n12_ n13_ n14_ n15_ n16_ n17_
 have hHeld := hS_
 try dsimp only at hHeld
 refine norm_ (a' := ?_) ?_ ?_
 rotate_left
 ·simp only [putAll, Act.put, List.setIfInBounds_toArray, List.set_cons_zero, List.set_cons_succ]
  rfl
 refine one_ (i := 12) (N := none) #[true, true, true, true, true, true, true, true, true, true, true, true, true] rfl rfl (one_of HT_.out (by kernel_rfl)) (by decide) (fun K hK => ?_)
 have hs38 : w37.cell? ⟨gb431, 0, none⟩ = some (.int .i64 0) := (blk_cell BK431.out 0).trans rfl
 have hfs38 := blk_frozen BK431.out 0
 have hns38_0 := NB413_431.out
 have hns38_1 := NB414_431.out
 have hns38_2 := NB415_431.out
 have hns38_3 := NB421_431.out
 have hms38_0 := NB431_413.out
 have hms38_1 := NB431_414.out
 have hms38_2 := NB431_415.out
 have hms38_3 := NB431_421.out
 have hs39 : w37.cell? ⟨gb431, 1, none⟩ = some (.int .i64 0) := (blk_cell BK431.out 1).trans rfl
 have hfs39 := blk_frozen BK431.out 1
 have hns39_0 := NB413_431.out
 have hns39_1 := NB414_431.out
 have hns39_2 := NB415_431.out
 have hns39_3 := NB421_431.out
 have hms39_0 := NB431_413.out
 have hms39_1 := NB431_414.out
 have hms39_2 := NB431_415.out
 have hms39_3 := NB431_421.out
 refine skip_ (w1 := ?_) (by rfl) rfl ?_ ?_
 rotate_left
 ·go_simp
  rfl
 refine hK.out _ _ ⟨((cell_far (p := ⟨gb431, _, none⟩) NB413_431.out _).trans (((cell_far (p := ⟨gb431, _, none⟩) NB413_431.out _).trans (hHeld.1)))), ((cell_far (p := ⟨gb431, _, none⟩) NB413_431.out _).trans (((cell_far (p := ⟨gb431, _, none⟩) NB413_431.out _).trans (hHeld.2.1)))), ((cell_far (p := ⟨gb431, _, none⟩) NB413_431.out _).trans (((cell_far (p := ⟨gb431, _, none⟩) NB413_431.out _).trans (hHeld.2.2.1)))), ((cell_far (p := ⟨gb431, _, none⟩) NB413_431.out _).trans (((cell_far (p := ⟨gb431, _, none⟩) NB413_431.out _).trans (hHeld.2.2.2.1)))), ((cell_far (p := ⟨gb431, _, none⟩) NB413_431.out _).trans (((cell_far (p := ⟨gb431, _, none⟩) NB413_431.out _).trans (hHeld.2.2.2.2.1)))), ((cell_far (p := ⟨gb431, _, none⟩) NB413_431.out _).trans (((cell_far (p := ⟨gb431, _, none⟩) NB413_431.out _).trans (hHeld.2.2.2.2.2.1)))), ((cell_far (p := ⟨gb431, _, none⟩) NB413_431.out _).trans (((cell_far (p := ⟨gb431, _, none⟩) NB413_431.out _).trans (hHeld.2.2.2.2.2.2.1)))), ((cell_far (p := ⟨gb431, _, none⟩) NB413_431.out _).trans (((cell_far (p := ⟨gb431, _, none⟩) NB413_431.out _).trans (hHeld.2.2.2.2.2.2.2.1)))), ((cell_far (p := ⟨gb431, _, none⟩) NB413_431.out _).trans (((cell_far (p := ⟨gb431, _, none⟩) NB413_431.out _).trans (hHeld.2.2.2.2.2.2.2.2.1)))), ((cell_far (p := ⟨gb431, _, none⟩) NB413_431.out _).trans (((cell_far (p := ⟨gb431, _, none⟩) NB413_431.out _).trans (hHeld.2.2.2.2.2.2.2.2.2.1)))), ((cell_far (p := ⟨gb431, _, none⟩) NB413_431.out _).trans (((cell_far (p := ⟨gb431, _, none⟩) NB413_431.out _).trans (hHeld.2.2.2.2.2.2.2.2.2.2.1)))), ((cell_far (p := ⟨gb431, _, none⟩) NB413_431.out _).trans (((cell_far (p := ⟨gb431, _, none⟩) NB413_431.out _).trans (hHeld.2.2.2.2.2.2.2.2.2.2.2))))⟩ (fun hHeld => ?_)
 clear hK K
 refine done_ (done_of HT_.out (by kernel_rfl)) ?_
 have hnb40 := NB413_414.out
 have hnc40 := NB414_413.out
 have hnb41 := NB413_415.out
 have hnc41 := NB415_413.out
 have hnb42 := NB413_421.out
 have hnc42 := NB421_413.out
 have hnb43 := NB413_431.out
 have hnc43 := NB431_413.out
 have hcz44_0 : w37.cell? ⟨gb413, 0, none⟩ = some (.int .i64 a0_0) := (blk_cell BK413.out 0).trans rfl
 have hcz44_1 : w37.cell? ⟨gb413, 1, none⟩ = some (.int .i64 a0_1) := (blk_cell BK413.out 1).trans rfl
 have hcz44_2 : w37.cell? ⟨gb413, 2, none⟩ = some (.int .i64 a0_2) := (blk_cell BK413.out 2).trans rfl
 have hcz44_3 : w37.cell? ⟨gb413, 3, none⟩ = some (.int .i64 a0_3) := (blk_cell BK413.out 3).trans rfl
 have hcz44_4 : w37.cell? ⟨gb413, 4, none⟩ = some (.int .i64 a0_4) := (blk_cell BK413.out 4).trans rfl
 have hcz44_5 : w37.cell? ⟨gb413, 5, none⟩ = some (.int .i64 a0_5) := (blk_cell BK413.out 5).trans rfl
 have hcz44_6 : w37.cell? ⟨gb413, 6, none⟩ = some (.int .i64 a0_6) := (blk_cell BK413.out 6).trans rfl
 have hcz44_7 : w37.cell? ⟨gb413, 7, none⟩ = some (.int .i64 a0_7) := (blk_cell BK413.out 7).trans rfl
 have hcz44_8 : w37.cell? ⟨gb413, 8, none⟩ = some (.int .i64 a0_8) := (blk_cell BK413.out 8).trans rfl
 have hcz44_9 : w37.cell? ⟨gb413, 9, none⟩ = some (.int .i64 a0_9) := (blk_cell BK413.out 9).trans rfl
 have hcz44_10 : w37.cell? ⟨gb413, 10, none⟩ = some (.int .i64 a0_10) := (blk_cell BK413.out 10).trans rfl
 have hcz44_11 : w37.cell? ⟨gb413, 11, none⟩ = some (.int .i64 a0_11) := (blk_cell BK413.out 11).trans rfl
 have hfz44_0 := blk_frozen BK413.out 0
 have hfz44_1 := blk_frozen BK413.out 1
 have hfz44_2 := blk_frozen BK413.out 2
 have hfz44_3 := blk_frozen BK413.out 3
 have hfz44_4 := blk_frozen BK413.out 4
 have hfz44_5 := blk_frozen BK413.out 5
 have hfz44_6 := blk_frozen BK413.out 6
 have hfz44_7 := blk_frozen BK413.out 7
 have hfz44_8 := blk_frozen BK413.out 8
 have hfz44_9 := blk_frozen BK413.out 9
 have hfz44_10 := blk_frozen BK413.out 10
 have hfz44_11 := blk_frozen BK413.out 11
 try go_wp2_with (first | ((with_reducible refine gate_callee (f := 54) rfl ?_); refine goesL_ (some 42) rfl rfl Try.func54 (by kernel_rfl) rfl #[.int .i64 2, .int .i64 a0_4] rfl (by (try simp only [List.map_toArray, List.map_cons, List.map_nil]); first | done | rfl | (simp only [List.length_drop, List.length_take]; rfl)) ?_; (with_reducible refine (sat_Mul.calls k 2 a0_4 t432 _ A11.out).mono ?_); rintro e w' ⟨rfl, ⟨nd, rfl⟩⟩; refine ⟨_, rfl, ?_⟩))
 have n0_ : Aside0 (Kd.R (Kd.int .i64) 3 ((w37.setCell ⟨gb431, 0, none⟩ (.int .i64 t426)).setCell ⟨gb431, 1, none⟩ (.int .i64 t430)) w.heap.size (fun k_ => some k_ ≠ (v428 : Value).ownBlock) v424 y423) := ⟨by (with_reducible repeat (first | apply Kd.R_alloc | apply Kd.R_drewN | apply Kd.R_drew)); exact Kd.R_mono (Kd.R_far (p := ⟨gb431, 1, none⟩) (Kd.R_far (p := ⟨gb431, 0, none⟩) (Kd.R_types HO425.out BK431.out (by decide)) (fun _ hk => hk.2) (.int .i64 t426)) (fun _ hk => hk.2) (.int .i64 t430)) (fun _ hk => hk.1)⟩
 have n1_ : Aside0 (Kd.R (Kd.int .i64) 3 ((w37.setCell ⟨gb431, 0, none⟩ (.int .i64 t426)).setCell ⟨gb431, 1, none⟩ (.int .i64 t430)) w.heap.size (fun k_ => some k_ ≠ (v424 : Value).ownBlock) v428 y427) := ⟨by (with_reducible repeat (first | apply Kd.R_alloc | apply Kd.R_drewN | apply Kd.R_drew)); exact Kd.R_mono (Kd.R_far (p := ⟨gb431, 1, none⟩) (Kd.R_far (p := ⟨gb431, 0, none⟩) (Kd.R_types HO429.out BK431.out (by decide)) (fun _ hk => hk.2) (.int .i64 t426)) (fun _ hk => hk.2) (.int .i64 t430)) (fun _ hk => hk.1)⟩
 have n2_ : Aside0 (((w37.setCell ⟨gb431, 0, none⟩ (.int .i64 t426)).setCell ⟨gb431, 1, none⟩ (.int .i64 t430)).heap[gb413]? = some (.cells #[.int .i64 a0_0, .int .i64 a0_1, .int .i64 a0_2, .int .i64 a0_3, .int .i64 a0_4, .int .i64 a0_5, .int .i64 a0_6, .int .i64 a0_7, .int .i64 a0_8, .int .i64 a0_9, .int .i64 a0_10, .int .i64 a0_11] 23 (0, 0))) := ⟨by (with_reducible repeat (first | refine blk_drewN ?_ _ | refine blk_drew ?_ | refine blk_alloc ?_ _)); refine blk_far ?_ NB413_431.out _; (with_reducible repeat (first | refine blk_drewN ?_ _ | refine blk_drew ?_ | refine blk_alloc ?_ _)); refine blk_far ?_ NB413_431.out _; (with_reducible repeat (first | refine blk_drewN ?_ _ | refine blk_drew ?_ | refine blk_alloc ?_ _)); exact BK413.out⟩
 have n3_ : Aside0 (((w37.setCell ⟨gb431, 0, none⟩ (.int .i64 t426)).setCell ⟨gb431, 1, none⟩ (.int .i64 t430)).heap[gb414]? = some (.cells #[.int .i64 a1_0, .int .i64 a1_1, .int .i64 a1_2, .int .i64 a1_3] 57 (0, 0))) := ⟨by (with_reducible repeat (first | refine blk_drewN ?_ _ | refine blk_drew ?_ | refine blk_alloc ?_ _)); refine blk_far ?_ NB414_431.out _; (with_reducible repeat (first | refine blk_drewN ?_ _ | refine blk_drew ?_ | refine blk_alloc ?_ _)); refine blk_far ?_ NB414_431.out _; (with_reducible repeat (first | refine blk_drewN ?_ _ | refine blk_drew ?_ | refine blk_alloc ?_ _)); exact BK414.out⟩
 have n4_ : Aside0 (((w37.setCell ⟨gb431, 0, none⟩ (.int .i64 t426)).setCell ⟨gb431, 1, none⟩ (.int .i64 t430)).heap[gb415]? = some (.cells #[.int .i64 0, .int .i64 0] 25 (0, 0))) := ⟨by (with_reducible repeat (first | refine blk_drewN ?_ _ | refine blk_drew ?_ | refine blk_alloc ?_ _)); refine blk_far ?_ NB415_431.out _; (with_reducible repeat (first | refine blk_drewN ?_ _ | refine blk_drew ?_ | refine blk_alloc ?_ _)); refine blk_far ?_ NB415_431.out _; (with_reducible repeat (first | refine blk_drewN ?_ _ | refine blk_drew ?_ | refine blk_alloc ?_ _)); exact BK415.out⟩
 have n5_ : Aside0 (((w37.setCell ⟨gb431, 0, none⟩ (.int .i64 t426)).setCell ⟨gb431, 1, none⟩ (.int .i64 t430)).heap[gb421]? = some (.cells #[.int .i64 t418, .int .i64 t420] 25 (0, 0))) := ⟨by (with_reducible repeat (first | refine blk_drewN ?_ _ | refine blk_drew ?_ | refine blk_alloc ?_ _)); refine blk_far ?_ NB421_431.out _; (with_reducible repeat (first | refine blk_drewN ?_ _ | refine blk_drew ?_ | refine blk_alloc ?_ _)); refine blk_far ?_ NB421_431.out _; (with_reducible repeat (first | refine blk_drewN ?_ _ | refine blk_drew ?_ | refine blk_alloc ?_ _)); exact BK421.out⟩
 have n6_ : Aside0 (((w37.setCell ⟨gb431, 0, none⟩ (.int .i64 t426)).setCell ⟨gb431, 1, none⟩ (.int .i64 t430)).heap[gb431]? = some (.cells #[.int .i64 t426, .int .i64 t430] 25 (0, 0))) := ⟨by (with_reducible repeat (first | refine blk_drewN ?_ _ | refine blk_drew ?_ | refine blk_alloc ?_ _)); refine blk_put (cs := #[.int .i64 t426, .int .i64 0]) ?_ 1 _ rfl; (with_reducible repeat (first | refine blk_drewN ?_ _ | refine blk_drew ?_ | refine blk_alloc ?_ _)); refine blk_put (cs := #[.int .i64 0, .int .i64 0]) ?_ 0 _ rfl; (with_reducible repeat (first | refine blk_drewN ?_ _ | refine blk_drew ?_ | refine blk_alloc ?_ _)); exact BK431.out⟩
 have n7_ : Aside0 (Below w.heap.size w ((w37.setCell ⟨gb431, 0, none⟩ (.int .i64 t426)).setCell ⟨gb431, 1, none⟩ (.int .i64 t430))) := ⟨by repeat (first | (with_reducible first | exact HB.out | apply below_alloc | apply pw_below_drewN | apply below_drew1 | refine below_set ?_ GE413.out | refine below_set ?_ GE414.out | refine below_set ?_ GE415.out | refine below_set ?_ GE421.out | refine below_set ?_ GE431.out) | exact HB.out)⟩
 (try clear HO425)
 (try clear HO429)
 (try clear BK413)
 (try clear BK414)
 (try clear BK415)
 (try clear BK421)
 (try clear BK431)
 (try clear HB)
 generalize ((w37.setCell ⟨gb431, 0, none⟩ (.int .i64 t426)).setCell ⟨gb431, 1, none⟩ (.int .i64 t430)) = w45 at n0_ n1_ n2_ n3_ n4_ n5_ n6_ n7_ ⊢
 have HO425 := n0_
 have HO429 := n1_
 have BK413 := n2_
 have BK414 := n3_
 have BK415 := n4_
 have BK421 := n5_
 have BK431 := n6_
 have HB := n7_
 clear n0_ n1_ n2_ n3_ n4_ n5_ n6_ n7_
 (try ((repeat rw [World.drewN_drewN]); rw [drewN_self w45]; generalize hq_ : World.drewN w45 _ = w45; have n0_ : Aside0 (Kd.R (Kd.int .i64) 3 w45 w.heap.size (fun k_ => some k_ ≠ (v428 : Value).ownBlock) v424 y423) := ⟨by rw [← hq_]; exact (by (with_reducible repeat (first | apply Kd.R_alloc | apply Kd.R_drewN | apply Kd.R_drew)); exact HO425.out)⟩; have n1_ : Aside0 (Kd.R (Kd.int .i64) 3 w45 w.heap.size (fun k_ => some k_ ≠ (v424 : Value).ownBlock) v428 y427) := ⟨by rw [← hq_]; exact (by (with_reducible repeat (first | apply Kd.R_alloc | apply Kd.R_drewN | apply Kd.R_drew)); exact HO429.out)⟩; have n2_ : Aside0 (w45.heap[gb413]? = some (.cells #[.int .i64 a0_0, .int .i64 a0_1, .int .i64 a0_2, .int .i64 a0_3, .int .i64 a0_4, .int .i64 a0_5, .int .i64 a0_6, .int .i64 a0_7, .int .i64 a0_8, .int .i64 a0_9, .int .i64 a0_10, .int .i64 a0_11] 23 (0, 0))) := ⟨by rw [← hq_]; exact (by with_reducible repeat first | exact BK413.out | apply bN)⟩; have n3_ : Aside0 (w45.heap[gb414]? = some (.cells #[.int .i64 a1_0, .int .i64 a1_1, .int .i64 a1_2, .int .i64 a1_3] 57 (0, 0))) := ⟨by rw [← hq_]; exact (by with_reducible repeat first | exact BK414.out | apply bN)⟩; have n4_ : Aside0 (w45.heap[gb415]? = some (.cells #[.int .i64 0, .int .i64 0] 25 (0, 0))) := ⟨by rw [← hq_]; exact (by with_reducible repeat first | exact BK415.out | apply bN)⟩; have n5_ : Aside0 (w45.heap[gb421]? = some (.cells #[.int .i64 t418, .int .i64 t420] 25 (0, 0))) := ⟨by rw [← hq_]; exact (by with_reducible repeat first | exact BK421.out | apply bN)⟩; have n6_ : Aside0 (w45.heap[gb431]? = some (.cells #[.int .i64 t426, .int .i64 t430] 25 (0, 0))) := ⟨by rw [← hq_]; exact (by with_reducible repeat first | exact BK431.out | apply bN)⟩; have n7_ : Aside0 (Below w.heap.size w w45) := ⟨by rw [← hq_]; exact (by repeat (first | (with_reducible first | exact HB.out | apply below_alloc | apply pw_below_drewN | apply below_drew1 | refine below_set ?_ GE413.out | refine below_set ?_ GE414.out | refine below_set ?_ GE415.out | refine below_set ?_ GE421.out | refine below_set ?_ GE431.out) | exact HB.out))⟩; clear HO425 HO429 BK413 BK414 BK415 BK421 BK431 HB hq_; have HO425 := n0_; have HO429 := n1_; have BK413 := n2_; have BK414 := n3_; have BK415 := n4_; have BK421 := n5_; have BK431 := n6_; have HB := n7_; clear n0_ n1_ n2_ n3_ n4_ n5_ n6_ n7_))
 have n0_ := Aside0.mk (Kd.R_drew HO425.out)
 have n1_ := Aside0.mk (Kd.R_drew HO429.out)
 have n2_ := Aside0.mk (blk_drew BK413.out)
 have n3_ := Aside0.mk (blk_drew BK414.out)
 have n4_ := Aside0.mk (blk_drew BK415.out)
 have n5_ := Aside0.mk (blk_drew BK421.out)
 have n6_ := Aside0.mk (blk_drew BK431.out)
 have n7_ := Aside0.mk (below_drew1 HB.out)
 clear HO425 HO429 BK413 BK414 BK415 BK421 BK431 HB
 have HO425 := n0_
 have HO429 := n1_
 have BK413 := n2_
 have BK414 := n3_
 have BK415 := n4_
 have BK421 := n5_
 have BK431 := n6_
 have HB := n7_
 clear n0_ n1_ n2_ n3_ n4_ n5_ n6_ n7_
 refine start_ (n := 13) (S := fun w' => w'.cell? ⟨gb421, 0, none⟩ = some (.int .i64 t418) ∧ w'.cell? ⟨gb421, 1, none⟩ = some (.int .i64 t420) ∧ w'.cell? ⟨gb431, 0, none⟩ = some (.int .i64 t426) ∧ w'.cell? ⟨gb431, 1, none⟩ = some (.int .i64 t430)) (ds := []) #[false, false, false, false, false, false, false, false, false, false, false, false, false] (by kernel_rfl) rfl rfl ⟨(blk_cell BK421.out 0).trans rfl, (blk_cell BK421.out 1).trans rfl, (blk_cell BK431.out 0).trans rfl, (blk_cell BK431.out 1).trans rfl⟩ (fun hHeld => ?_); refine with_tabW probe_Ahead.tab5 probe_Ahead.bits5 (fun HT_ HW_ => ?_)
 generalize w45.drew = w46 at HO425 HO429 BK413 BK414 BK415 BK421 BK431 HB hHeld ⊢
 refine pure_ (i := 1) (N := some 44) (v := ?_) (a' := ?_) #[false, true, false, false, false, false, false, false, false, false, false, false, false] rfl rfl (any_of HT_.out (by kernel_rfl)) (fun _ _ _ h => h) (Or.inl ⟨by rfl, ?_⟩) ?_ ?_
 rotate_left
 ·intro w'
  go_simp
  with_reducible rfl
 rotate_left
 ·simp only [Act.put, List.setIfInBounds_toArray, List.set_cons_zero, List.set_cons_succ, i64_w, i32_w]
  rfl
 refine pure_ (i := 3) (N := some 46) (v := ?_) (a' := ?_) #[false, true, false, true, false, false, false, false, false, false, false, false, false] rfl rfl (any_of HT_.out (by kernel_rfl)) (fun _ _ _ h => h) (Or.inl ⟨by rfl, ?_⟩) ?_ ?_
 rotate_left
 ·intro w'
  go_simp
  with_reducible rfl
 rotate_left
 ·simp only [Act.put, List.setIfInBounds_toArray, List.set_cons_zero, List.set_cons_succ, i64_w, i32_w]
  rfl
 refine pure_ (i := 6) (N := some 49) (v := ?_) (a' := ?_) #[false, true, false, true, false, false, true, false, false, false, false, false, false] rfl rfl (any_of HT_.out (by kernel_rfl)) (fun _ _ _ h => h) (Or.inl ⟨by rfl, ?_⟩) ?_ ?_
 rotate_left
 ·intro w'
  go_simp
  with_reducible rfl
 rotate_left
 ·simp only [Act.put, List.setIfInBounds_toArray, List.set_cons_zero, List.set_cons_succ, i64_w, i32_w]
  rfl
 refine pure_ (i := 8) (N := some 51) (v := ?_) (a' := ?_) #[false, true, false, true, false, false, true, false, true, false, false, false, false] rfl rfl (any_of HT_.out (by kernel_rfl)) (fun _ _ _ h => h) (Or.inl ⟨by rfl, ?_⟩) ?_ ?_
 rotate_left
 ·intro w'
  go_simp
  with_reducible rfl
 rotate_left
 ·simp only [Act.put, List.setIfInBounds_toArray, List.set_cons_zero, List.set_cons_succ, i64_w, i32_w]
  rfl
 refine take_ (i := 0) (N := some 43) (v := ?_) (a' := ?_) #[true, true, false, true, false, false, true, false, true, false, false, false, false] rfl rfl (take_ofW HT_.out HW_.out (by kernel_rfl)) (fun _ _ _ h => h) (Or.inl ⟨by rfl, ?_⟩) hHeld ?_ ?_
 rotate_left
 ·rintro w' ⟨s0, s1, s2, s3⟩
  go_simp
  with_reducible rfl
 rotate_left
 ·simp only [Act.put, List.setIfInBounds_toArray, List.set_cons_zero, List.set_cons_succ, i64_w, i32_w]
  rfl
 refine take_ (i := 5) (N := some 48) (v := ?_) (a' := ?_) #[true, true, false, true, false, true, true, false, true, false, false, false, false] rfl rfl (take_ofW HT_.out HW_.out (by kernel_rfl)) (fun _ _ _ h => h) (Or.inl ⟨by rfl, ?_⟩) hHeld ?_ ?_
 rotate_left
 ·rintro w' ⟨s0, s1, s2, s3⟩
  go_simp
  with_reducible rfl
 rotate_left
 ·simp only [Act.put, List.setIfInBounds_toArray, List.set_cons_zero, List.set_cons_succ, i64_w, i32_w]
  rfl
 refine one_ (i := 2) (N := some 45) #[true, true, true, true, false, true, true, false, true, false, false, false, false] rfl rfl (one_of HT_.out (by kernel_rfl)) (by decide) (fun K hK => ?_)
 refine goes_ Try.func45 (by kernel_rfl) rfl #[.int .i64 t432] (by rfl) rfl rfl (by (try simp only [List.map_toArray, List.map_cons, List.map_nil]); first | done | rfl | (simp only [List.length_drop, List.length_take]; rfl)) ?_
 with_reducible refine (sat_Neg.calls k t432 t433 _ A12.out).mono ?_
 rintro e w' ⟨rfl, ⟨nd, rfl⟩⟩
 refine ⟨_, rfl, ?_⟩
 refine hK.out _ _ ⟨(blk_cell BK421.out 0).trans rfl, (blk_cell BK421.out 1).trans rfl, (blk_cell BK431.out 0).trans rfl, (blk_cell BK431.out 1).trans rfl⟩ (fun hHeld => ?_)
 clear hK K
 refine norm_ (a' := ?_) ?_ ?_
 rotate_left
 ·show Act.put _ (some 45) _ = _
  simp only [Act.put, List.setIfInBounds_toArray, List.set_cons_zero, List.set_cons_succ, i64_w, i32_w]
  rfl
 refine one_ (i := 4) (N := some 47) #[true, true, true, true, true, true, true, false, true, false, false, false, false] rfl rfl (one_of HT_.out (by kernel_rfl)) (by decide) (fun K hK => ?_)
 refine goes_ Try.func39 (by kernel_rfl) rfl #[.agg #[.int .i64 t418, .int .i64 t420], .int .i64 t433, .int .i64 t432] (by rfl) rfl rfl (by (try simp only [List.map_toArray, List.map_cons, List.map_nil]); first | done | rfl | (simp only [List.length_drop, List.length_take]; rfl)) ?_
 with_reducible refine (span_Shift.calls k t418 t420 t433 t432 t434 t435 _ A13.out).mono ?_
 rintro e w47 ⟨rfl, hb⟩
 refine ⟨_, rfl, ?_⟩
 have n0_ := Aside0.mk (Kd.R_below (by (with_reducible repeat (first | apply Kd.R_alloc | apply Kd.R_drewN | apply Kd.R_drew)); exact HO425.out) hb)
 have n1_ := Aside0.mk (Kd.R_below (by (with_reducible repeat (first | apply Kd.R_alloc | apply Kd.R_drewN | apply Kd.R_drew)); exact HO429.out) hb)
 have n2_ := Aside0.mk (blk_below (by with_reducible repeat first | exact BK413.out | apply bN) hb)
 have n3_ := Aside0.mk (blk_below (by with_reducible repeat first | exact BK414.out | apply bN) hb)
 have n4_ := Aside0.mk (blk_below (by with_reducible repeat first | exact BK415.out | apply bN) hb)
 have n5_ := Aside0.mk (blk_below (by with_reducible repeat first | exact BK421.out | apply bN) hb)
 have n6_ := Aside0.mk (blk_below (by with_reducible repeat first | exact BK431.out | apply bN) hb)
 have n7_ := Aside0.mk (below_step (by with_reducible repeat first | exact HB.out | apply pw_below_drewN) hb)
 clear HO425 HO429 BK413 BK414 BK415 BK421 BK431 HB
 have HO425 := n0_
 have HO429 := n1_
 have BK413 := n2_
 have BK414 := n3_
 have BK415 := n4_
 have BK421 := n5_
 have BK431 := n6_
 have HB := n7_
 clear n0_ n1_ n2_ n3_ n4_ n5_ n6_ n7_
 (try clear hb)
 (try clear hb2)
 (try clear hk)
 (try clear hi)
 refine hK.out _ _ ⟨(blk_cell BK421.out 0).trans rfl, (blk_cell BK421.out 1).trans rfl, (blk_cell BK431.out 0).trans rfl, (blk_cell BK431.out 1).trans rfl⟩ (fun hHeld => ?_)
 clear hK K
 refine norm_ (a' := ?_) ?_ ?_
 rotate_left
 ·show Act.put _ (some 47) _ = _
  simp only [Act.put, List.setIfInBounds_toArray, List.set_cons_zero, List.set_cons_succ, i64_w, i32_w]
  rfl
 refine one_ (i := 7) (N := some 50) #[true, true, true, true, true, true, true, true, true, false, false, false, false] rfl rfl (one_of HT_.out (by kernel_rfl)) (by decide) (fun K hK => ?_)
 refine goes_ Try.func45 (by kernel_rfl) rfl #[.int .i64 t432] (by rfl) rfl rfl (by (try simp only [List.map_toArray, List.map_cons, List.map_nil]); first | done | rfl | (simp only [List.length_drop, List.length_take]; rfl)) ?_
 with_reducible refine (sat_Neg.calls k t432 t433 _ A14.out).mono ?_
 rintro e w' ⟨rfl, ⟨nd, rfl⟩⟩
 refine ⟨_, rfl, ?_⟩
 refine hK.out _ _ ⟨(blk_cell BK421.out 0).trans rfl, (blk_cell BK421.out 1).trans rfl, (blk_cell BK431.out 0).trans rfl, (blk_cell BK431.out 1).trans rfl⟩ (fun hHeld => ?_)
 clear hK K
 refine norm_ (a' := ?_) ?_ ?_
 rotate_left
 ·show Act.put _ (some 50) _ = _
  simp only [Act.put, List.setIfInBounds_toArray, List.set_cons_zero, List.set_cons_succ, i64_w, i32_w]
  rfl
 refine one_ (i := 9) (N := some 52) #[true, true, true, true, true, true, true, true, true, true, false, false, false] rfl rfl (one_of HT_.out (by kernel_rfl)) (by decide) (fun K hK => ?_)
 refine goes_ Try.func39 (by kernel_rfl) rfl #[.agg #[.int .i64 t426, .int .i64 t430], .int .i64 t433, .int .i64 t432] (by rfl) rfl rfl (by (try simp only [List.map_toArray, List.map_cons, List.map_nil]); first | done | rfl | (simp only [List.length_drop, List.length_take]; rfl)) ?_
 with_reducible refine (span_Shift.calls k t426 t430 t433 t432 t437 t438 _ A15.out).mono ?_
 rintro e w48 ⟨rfl, hb⟩
 refine ⟨_, rfl, ?_⟩
 have n0_ := Aside0.mk (Kd.R_below (by (with_reducible repeat (first | apply Kd.R_alloc | apply Kd.R_drewN | apply Kd.R_drew)); exact HO425.out) hb)
 have n1_ := Aside0.mk (Kd.R_below (by (with_reducible repeat (first | apply Kd.R_alloc | apply Kd.R_drewN | apply Kd.R_drew)); exact HO429.out) hb)
 have n2_ := Aside0.mk (blk_below (by with_reducible repeat first | exact BK413.out | apply bN) hb)
 have n3_ := Aside0.mk (blk_below (by with_reducible repeat first | exact BK414.out | apply bN) hb)
 have n4_ := Aside0.mk (blk_below (by with_reducible repeat first | exact BK415.out | apply bN) hb)
 have n5_ := Aside0.mk (blk_below (by with_reducible repeat first | exact BK421.out | apply bN) hb)
 have n6_ := Aside0.mk (blk_below (by with_reducible repeat first | exact BK431.out | apply bN) hb)
 have n7_ := Aside0.mk (below_step (by with_reducible repeat first | exact HB.out | apply pw_below_drewN) hb)
 clear HO425 HO429 BK413 BK414 BK415 BK421 BK431 HB
 have HO425 := n0_
 have HO429 := n1_
 have BK413 := n2_
 have BK414 := n3_
 have BK415 := n4_
 have BK421 := n5_
 have BK431 := n6_
 have HB := n7_
 clear n0_ n1_ n2_ n3_ n4_ n5_ n6_ n7_
 (try clear hb)
 (try clear hb2)
 (try clear hk)
 (try clear hi)
 refine hK.out _ _ ⟨(blk_cell BK421.out 0).trans rfl, (blk_cell BK421.out 1).trans rfl, (blk_cell BK431.out 0).trans rfl, (blk_cell BK431.out 1).trans rfl⟩ (fun hHeld => ?_)
 clear hK K
 refine norm_ (a' := ?_) ?_ ?_
 rotate_left
 ·show Act.put _ (some 52) _ = _
  simp only [Act.put, List.setIfInBounds_toArray, List.set_cons_zero, List.set_cons_succ, i64_w, i32_w]
  rfl
 refine one_ (i := 10) (N := some 53) #[true, true, true, true, true, true, true, true, true, true, true, false, false] rfl rfl (one_of HT_.out (by kernel_rfl)) (by decide) (fun K hK => ?_)
 refine Kd.R_lit_step k25 _ 25 ?hg (N := 53) ?hd (xs := ([(⟨t434, t435⟩ : S25), (⟨t437, t438⟩ : S25)] : List (S25))) (inner := [.int .i64 t434, .int .i64 t435, .int .i64 t437, .int .i64 t438]) (ok := fun _ => True) (okp := fun _ => True) ?hr ?hp (fun _ hk => hk) trivial (Below.refl _ _) (Nat.le_refl _) (by simp) ?_; (case hd => rfl); (case hg => rfl); (case hr => first | (go_simp; done) | (go_simp; rfl)); (case hp => exact (Reps.c2 (show Kd.M k25 _ _ _ (⟨t434, t435⟩ : S25) [.int .i64 t434, .int .i64 t435] from (k25_mkM _ _ _ (⟨t434, t435⟩ : S25) )) (Reps.c2 (show Kd.M k25 _ _ _ (⟨t437, t438⟩ : S25) [.int .i64 t437, .int .i64 t438] from (k25_mkM _ _ _ (⟨t437, t438⟩ : S25) )) (Reps.none _ _))))
 intro v440 w49 ho50 hb hg_ hnew_
 clear hg_ hnew_
 (first | rw [← Ny439.out] at ho50 | (simp only [Int.reduceToNat] at ho50; rw [← Ny439.out] at ho50))
 have n0_ := Aside0.mk (Kd.R_below (by (with_reducible repeat (first | apply Kd.R_alloc | apply Kd.R_drewN | apply Kd.R_drew)); exact HO425.out) hb)
 have n1_ := Aside0.mk (Kd.R_below (by (with_reducible repeat (first | apply Kd.R_alloc | apply Kd.R_drewN | apply Kd.R_drew)); exact HO429.out) hb)
 have n2_ := Aside0.mk (Kd.R_lower (Kd.R_newB (Kd.R_newB (Kd.R_newB ho50 (by with_reducible repeat first | exact BK415.out | apply bN)) (by with_reducible repeat first | exact BK421.out | apply bN)) (by with_reducible repeat first | exact BK431.out | apply bN)) (below_size (by with_reducible repeat first | exact HB.out | apply pw_below_drewN)))
 have n3_ := Aside0.mk (blk_below (by with_reducible repeat first | exact BK413.out | apply bN) hb)
 have n4_ := Aside0.mk (blk_below (by with_reducible repeat first | exact BK414.out | apply bN) hb)
 have n5_ := Aside0.mk (blk_below (by with_reducible repeat first | exact BK415.out | apply bN) hb)
 have n6_ := Aside0.mk (blk_below (by with_reducible repeat first | exact BK421.out | apply bN) hb)
 have n7_ := Aside0.mk (blk_below (by with_reducible repeat first | exact BK431.out | apply bN) hb)
 have n8_ := Aside0.mk (below_step (by with_reducible repeat first | exact HB.out | apply pw_below_drewN) hb)
 clear HO425 HO429 BK413 BK414 BK415 BK421 BK431 HB
 have HO425 := n0_
 have HO429 := n1_
 have HO441 := n2_
 have BK413 := n3_
 have BK414 := n4_
 have BK415 := n5_
 have BK421 := n6_
 have BK431 := n7_
 have HB := n8_
 clear n0_ n1_ n2_ n3_ n4_ n5_ n6_ n7_ n8_ hb ho50
 obtain ⟨Ao51, co51, eo51⟩ := Kd.R_slice HO441.out
 (first | subst eo51 | (injection eo51 with f1_ f2_ f3_; have f4_ := f1_.symm; have f5_ := f3_.symm; clear f1_ f2_ f3_; subst f4_; subst f5_))
 refine hK.out _ _ ⟨(blk_cell BK421.out 0).trans rfl, (blk_cell BK421.out 1).trans rfl, (blk_cell BK431.out 0).trans rfl, (blk_cell BK431.out 1).trans rfl⟩ (fun hHeld => ?_)
 clear hK K
 refine norm_ (a' := ?_) ?_ ?_
 rotate_left
 ·show Act.put _ (some 53) _ = _
  simp only [Act.put, List.setIfInBounds_toArray, List.set_cons_zero, List.set_cons_succ, i64_w, i32_w]
  rfl
 refine one_ (i := 11) (N := some 54) #[true, true, true, true, true, true, true, true, true, true, true, true, false] rfl rfl (one_of HT_.out (by kernel_rfl)) (by decide) (fun K hK => ?_)
 refine goes_ Try.func55 (by kernel_rfl) rfl #[.slice Ao51 y439.length co51] (by rfl) rfl rfl (by (try simp only [List.map_toArray, List.map_cons, List.map_nil]); first | done | rfl | (simp only [List.length_drop, List.length_take]; rfl)) ?_
 with_reducible refine (span_Meet.calls k _ _ y439 t442 t443 _ ?side1 ?side2 A16.out).mono ?_
 (case side1 => repeat (first | exact (Kd.R_reads' HO441.out).2.2 | (with_reducible refine Kd.C_alloc ?_ _) | (with_reducible refine Kd.C_drewN ?_ _) | (with_reducible refine Kd.C_drew ?_)))
 (case side2 => exact (Kd.R_reads' HO441.out).2.1)
 rintro e w52 ⟨rfl, hb⟩
 refine ⟨_, rfl, ?_⟩
 have n0_ := Aside0.mk (Kd.R_below (by (with_reducible repeat (first | apply Kd.R_alloc | apply Kd.R_drewN | apply Kd.R_drew)); exact HO425.out) hb)
 have n1_ := Aside0.mk (Kd.R_below (by (with_reducible repeat (first | apply Kd.R_alloc | apply Kd.R_drewN | apply Kd.R_drew)); exact HO429.out) hb)
 have n2_ := Aside0.mk (Kd.R_below (by (with_reducible repeat (first | apply Kd.R_alloc | apply Kd.R_drewN | apply Kd.R_drew)); exact HO441.out) hb)
 have n3_ := Aside0.mk (blk_below (by with_reducible repeat first | exact BK413.out | apply bN) hb)
 have n4_ := Aside0.mk (blk_below (by with_reducible repeat first | exact BK414.out | apply bN) hb)
 have n5_ := Aside0.mk (blk_below (by with_reducible repeat first | exact BK415.out | apply bN) hb)
 have n6_ := Aside0.mk (blk_below (by with_reducible repeat first | exact BK421.out | apply bN) hb)
 have n7_ := Aside0.mk (blk_below (by with_reducible repeat first | exact BK431.out | apply bN) hb)
 have n8_ := Aside0.mk (below_step (by with_reducible repeat first | exact HB.out | apply pw_below_drewN) hb)
 clear HO425 HO429 HO441 BK413 BK414 BK415 BK421 BK431 HB
 have HO425 := n0_
 have HO429 := n1_
 have HO441 := n2_
 have BK413 := n3_
 have BK414 := n4_
 have BK415 := n5_
 have BK421 := n6_
 have BK431 := n7_
 have HB := n8_
 clear n0_ n1_ n2_ n3_ n4_ n5_ n6_ n7_ n8_
 (try clear hb)
 (try clear hb2)
 (try clear hk)
 (try clear hi)
 refine hK.out _ _ ⟨(blk_cell BK421.out 0).trans rfl, (blk_cell BK421.out 1).trans rfl, (blk_cell BK431.out 0).trans rfl, (blk_cell BK431.out 1).trans rfl⟩ (fun hHeld => ?_)
 clear hK K
 refine norm_ (a' := ?_) ?_ ?_
 rotate_left
 ·show Act.put _ (some 54) _ = _
  simp only [Act.put, List.setIfInBounds_toArray, List.set_cons_zero, List.set_cons_succ, i64_w, i32_w]
  rfl
 refine one_ (i := 12) (N := none) #[true, true, true, true, true, true, true, true, true, true, true, true, true] rfl rfl (one_of HT_.out (by kernel_rfl)) (by decide) (fun K hK => ?_)
 have hs53 : w52.cell? ⟨gb415, 0, none⟩ = some (.int .i64 0) := (blk_cell BK415.out 0).trans rfl
 have hfs53 := blk_frozen BK415.out 0
 have hns53_0 := NB413_415.out
 have hns53_1 := NB414_415.out
 have hns53_3 := NB421_415.out
 have hns53_4 := NB431_415.out
 have hms53_0 := NB415_413.out
 have hms53_1 := NB415_414.out
 have hms53_3 := NB415_421.out
 have hms53_4 := NB415_431.out
 have hs54 : w52.cell? ⟨gb415, 1, none⟩ = some (.int .i64 0) := (blk_cell BK415.out 1).trans rfl
 have hfs54 := blk_frozen BK415.out 1
 have hns54_0 := NB413_415.out
 have hns54_1 := NB414_415.out
 have hns54_3 := NB421_415.out
 have hns54_4 := NB431_415.out
 have hms54_0 := NB415_413.out
 have hms54_1 := NB415_414.out
 have hms54_3 := NB415_421.out
 have hms54_4 := NB415_431.out
 refine skip_ (w1 := ?_) (by rfl) rfl ?_ ?_
 rotate_left
 ·go_simp
  rfl
 refine hK.out _ _ ⟨((cell_far (p := ⟨gb415, _, none⟩) NB421_415.out _).trans (((cell_far (p := ⟨gb415, _, none⟩) NB421_415.out _).trans (hHeld.1)))), ((cell_far (p := ⟨gb415, _, none⟩) NB421_415.out _).trans (((cell_far (p := ⟨gb415, _, none⟩) NB421_415.out _).trans (hHeld.2.1)))), ((cell_far (p := ⟨gb415, _, none⟩) NB431_415.out _).trans (((cell_far (p := ⟨gb415, _, none⟩) NB431_415.out _).trans (hHeld.2.2.1)))), ((cell_far (p := ⟨gb415, _, none⟩) NB431_415.out _).trans (((cell_far (p := ⟨gb415, _, none⟩) NB431_415.out _).trans (hHeld.2.2.2))))⟩ (fun hHeld => ?_)
 clear hK K
 refine done_ (done_of HT_.out (by kernel_rfl)) ?_
 try go_wp2
 refine bodyPost_ret (results_cell_row rfl _ _ gb415 25 #[.int .i64 t442, .int .i64 t443] (0, 0) _ rfl (by (with_reducible repeat (first | refine blk_drewN ?_ _ | refine blk_drew ?_ | refine blk_alloc ?_ _)); refine blk_put (cs := #[.int .i64 t442, .int .i64 0]) ?_ 1 _ rfl; (with_reducible repeat (first | refine blk_drewN ?_ _ | refine blk_drew ?_ | refine blk_alloc ?_ _)); refine blk_put (cs := #[.int .i64 0, .int .i64 0]) ?_ 0 _ rfl; (with_reducible repeat (first | refine blk_drewN ?_ _ | refine blk_drew ?_ | refine blk_alloc ?_ _)); exact BK415.out) Try.underlying25 rfl (by kernel_rfl)) rfl ?_
 exact ⟨by first | rfl | (simp [errW_none, errW_some] <;> rfl) | (simp [*, errW_none, errW_some] <;> rfl), by repeat (first | (with_reducible first | exact HB.out | apply below_alloc | apply pw_below_drewN | apply below_drew1 | refine below_set ?_ GE413.out | refine below_set ?_ GE414.out | refine below_set ?_ GE415.out | refine below_set ?_ GE421.out | refine below_set ?_ GE431.out) | exact HB.out)⟩

end Go.Proofs.Ytigpigfoahlfjaa.Q
