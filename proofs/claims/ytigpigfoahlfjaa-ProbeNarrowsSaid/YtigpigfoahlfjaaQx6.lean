/- The calls of these Go functions answer what the Lean functions beside them answer; written by a program (wip/pr2.py, out of the print of the loaded program); under no condition but those that stand in the theorems. -/
import Derived.Test.YtigpigfoahlfjaaQx0
import Derived.Test.YtigpigfoahlfjaaQx2
import Derived.Test.YtigpigfoahlfjaaQx3
import Derived.Test.YtigpigfoahlfjaaQx4
import Derived.Test.YtigpigfoahlfjaaQx5
namespace Go.Proofs.Ytigpigfoahlfjaa.Q
open Go.RowKit Go.Proofs.YtigpigfoahlfjaaW.PrintWords Go.Proofs.YtigpigfoahlfjaaW.PrintLast Go.Proofs.YtigpigfoahlfjaaW.PrintMore
attribute [local go_sem] max2_int min2_int max_two min_two max_three min_three max_four min_four   -- for this text's walks alone
set_option linter.unusedVariables false
set_option linter.unusedSimpArgs false

/-! ### probe_Ahead: function 33 -/
def probe_Ahead.f (k : Nat) (a0_0 : Int) (a0_1 : Int) (a0_2 : Int) (a0_3 : Int) (a0_4 : Int) (a0_5 : Int) (a0_6 : Int) (a0_7 : Int) (a0_8 : Int) (a0_9 : Int) (a0_10 : Int) (a0_11 : Int) (a1_0 : Int) (a1_1 : Int) (a1_2 : Int) (a1_3 : Int) : Option (Int × Int) := (sat_Sub.f k a1_1 a1_0).bind fun t132 => ((sat_Sub.f k a1_2 a1_3).bind fun t133 => ((sat_Sub.f k t132 a0_5).bind fun t134 => ((probe_least.f k a0_0 a0_1 a0_2 a0_3 a0_4 a0_5 a0_6 a0_7 a0_8 a0_9 a0_10 a0_11).bind fun t135 => ((sat_Sub.f k t132 t135).bind fun t136 => ((probe_least.f k a0_0 a0_1 a0_2 a0_3 a0_4 a0_5 a0_6 a0_7 a0_8 a0_9 a0_10 a0_11).bind fun t138 => ((sat_Add.f k (([t133, t138] : List Int))).bind fun t142 => ((sat_Add.f k (([t133, a0_5] : List Int))).bind fun t146 => ((sat_Mul.f k 2 a0_4).bind fun t148 => ((sat_Neg.f k t148).bind fun t149 => ((span_Shift.f k t134 t136 t149 t148).bind fun bt150 => ((sat_Neg.f k t148).bind fun t152 => ((span_Shift.f k t142 t146 t152 t148).bind fun bt153 => ((span_Meet.f k (([(⟨bt150.1, bt150.2⟩ : S25), (⟨bt153.1, bt153.2⟩ : S25)] : List (S25)))).bind fun bt158 => (some (bt158.1, bt158.2)))))))))))))))
theorem probe_Ahead.mono : ∀ a0 a1 a2 a3 a4 a5 a6 a7 a8 a9 a10 a11 a12 a13 a14 a15 k, LeO (probe_Ahead.f k a0 a1 a2 a3 a4 a5 a6 a7 a8 a9 a10 a11 a12 a13 a14 a15) (probe_Ahead.f (k + 1) a0 a1 a2 a3 a4 a5 a6 a7 a8 a9 a10 a11 a12 a13 a14 a15) := by
 intro a0 a1 a2 a3 a4 a5 a6 a7 a8 a9 a10 a11 a12 a13 a14 a15 k
 unfold probe_Ahead.f
 repeat' first
   | (with_reducible exact probe_least.mono _ _ _ _ _ _ _ _ _ _ _ _ _)
   | (with_reducible exact sat_Add.mono _ _)
   | (with_reducible exact sat_Mul.mono _ _ _)
   | (with_reducible exact sat_Neg.mono _ _)
   | (with_reducible exact sat_Sub.mono _ _ _)
   | (with_reducible exact span_Meet.mono _ _)
   | (with_reducible exact span_Shift.mono _ _ _ _ _)
   | (with_reducible exact LeO.refl _)
   | (with_reducible exact LeO.none _)
   | (with_reducible refine LeO.ite ?_ ?_)
   | (with_reducible refine LeO.bind ?_ (fun _ => ?_))
   | exact probe_least.mono _ _ _ _ _ _ _ _ _ _ _ _ _
   | exact sat_Add.mono _ _
   | exact sat_Mul.mono _ _ _
   | exact sat_Neg.mono _ _
   | exact sat_Sub.mono _ _ _
   | exact span_Meet.mono _ _
   | exact span_Shift.mono _ _ _ _ _
   | exact LeO.none _
   | refine LeO.ite ?_ ?_
   | refine LeO.bind ?_ (fun _ => ?_)
def probe_Ahead.T1 : Bool × List (List Nat × List Nat) := (true, [([], []), ([0], [0]), ([], []), ([2], [2]), ([1, 3], [1, 3]), ([], []), ([5], [5]), ([], []), ([7], [7]), ([6, 8, 4], [6, 8]), ([4, 9, 0, 1, 2, 3, 4], [4]), ([9, 10, 0, 1, 2, 3, 4, 5, 6, 7, 8, 9, 10], [9])])
def probe_Ahead.B1 : List Nat := [0, 1, 0, 4, 15, 0, 32, 0, 128, 511, 1023, 2047]
theorem probe_Ahead.tab1 : rtab .any (opsOf Try.f33 1) = probe_Ahead.T1 := by kernel_rfl
theorem probe_Ahead.bits1 : waitsOk probe_Ahead.T1.2 probe_Ahead.B1 = true := by kernel_rfl
def probe_Ahead.T2 : Bool × List (List Nat × List Nat) := (true, [([], []), ([], []), ([1], [1]), ([0, 2], [0, 2]), ([], []), ([], []), ([5, 3], [5]), ([4, 6, 6], [4, 6]), ([3, 7], [3, 7]), ([], []), ([9, 8, 7, 0, 1, 2, 3, 4, 5, 6, 7, 8, 9], [8, 9])])
def probe_Ahead.B2 : List Nat := [0, 0, 2, 7, 0, 0, 47, 127, 255, 0, 1023]
theorem probe_Ahead.tab2 : rtab .any (opsOf Try.f33 2) = probe_Ahead.T2 := by kernel_rfl
theorem probe_Ahead.bits2 : waitsOk probe_Ahead.T2.2 probe_Ahead.B2 = true := by kernel_rfl
def probe_Ahead.T3 : Bool × List (List Nat × List Nat) := (true, [([], []), ([], []), ([1], [1]), ([0, 2], [0, 2]), ([3, 2], [3]), ([], []), ([], []), ([6], [6]), ([5, 7], [5, 7]), ([8, 4], [8]), ([4, 9], [4, 9]), ([], []), ([11, 10, 9, 0, 1, 2, 3, 4, 5, 6, 7, 8, 9, 10, 11], [10, 11])])
def probe_Ahead.B3 : List Nat := [0, 0, 2, 7, 15, 0, 0, 64, 224, 511, 1023, 0, 4095]
theorem probe_Ahead.tab3 : rtab .any (opsOf Try.f33 3) = probe_Ahead.T3 := by kernel_rfl
theorem probe_Ahead.bits3 : waitsOk probe_Ahead.T3.2 probe_Ahead.B3 = true := by kernel_rfl
def probe_Ahead.T5 : Bool × List (List Nat × List Nat) := (true, [([], []), ([], []), ([1], [1]), ([], []), ([0, 2, 3, 2], [0, 2, 3]), ([], []), ([], []), ([6, 4], [6]), ([], []), ([5, 7, 8, 7], [5, 7, 8]), ([4, 9], [4, 9]), ([10, 9], [10]), ([11, 11, 0, 1, 2, 3, 4, 5, 6, 7, 8, 9, 10, 11], [11])])
def probe_Ahead.B5 : List Nat := [0, 0, 2, 0, 15, 0, 0, 95, 0, 511, 1023, 2047, 4095]
theorem probe_Ahead.tab5 : rtab .any (opsOf Try.f33 5) = probe_Ahead.T5 := by kernel_rfl
theorem probe_Ahead.bits5 : waitsOk probe_Ahead.T5.2 probe_Ahead.B5 = true := by kernel_rfl
set_option maxHeartbeats 8000000 in
set_option maxRecDepth 100000 in
theorem probe_Ahead.calls (k : Nat) (a0_0 : Int) (a0_1 : Int) (a0_2 : Int) (a0_3 : Int) (a0_4 : Int) (a0_5 : Int) (a0_6 : Int) (a0_7 : Int) (a0_8 : Int) (a0_9 : Int) (a0_10 : Int) (a0_11 : Int) (a1_0 : Int) (a1_1 : Int) (a1_2 : Int) (a1_3 : Int) (r1 : Int) (r2 : Int) (w : World) (h : probe_Ahead.f k a0_0 a0_1 a0_2 a0_3 a0_4 a0_5 a0_6 a0_7 a0_8 a0_9 a0_10 a0_11 a1_0 a1_1 a1_2 a1_3 = some (r1, r2)) :
  Calls Try.prog 33 #[.agg #[.int .i64 a0_0, .int .i64 a0_1, .int .i64 a0_2, .int .i64 a0_3, .int .i64 a0_4, .int .i64 a0_5, .int .i64 a0_6, .int .i64 a0_7, .int .i64 a0_8, .int .i64 a0_9, .int .i64 a0_10, .int .i64 a0_11], .agg #[.int .i64 a1_0, .int .i64 a1_1, .int .i64 a1_2, .int .i64 a1_3]] w fun e w' => e = .returned (.agg #[.int .i64 r1, .int .i64 r2]) ∧ Below w.heap.size w w' := by
 have hu23 := Try.underlying23
 have hu57 := Try.underlying57
 have hu25 := Try.underlying25
 have HB := Aside0.mk (Below.refl w.heap.size w)
 have H : ((sat_Sub.f k a1_1 a1_0).bind fun t132 => ((sat_Sub.f k a1_2 a1_3).bind fun t133 => ((sat_Sub.f k t132 a0_5).bind fun t134 => ((probe_least.f k a0_0 a0_1 a0_2 a0_3 a0_4 a0_5 a0_6 a0_7 a0_8 a0_9 a0_10 a0_11).bind fun t135 => ((sat_Sub.f k t132 t135).bind fun t136 => ((probe_least.f k a0_0 a0_1 a0_2 a0_3 a0_4 a0_5 a0_6 a0_7 a0_8 a0_9 a0_10 a0_11).bind fun t138 => ((sat_Add.f k (([t133, t138] : List Int))).bind fun t142 => ((sat_Add.f k (([t133, a0_5] : List Int))).bind fun t146 => ((sat_Mul.f k 2 a0_4).bind fun t148 => ((sat_Neg.f k t148).bind fun t149 => ((span_Shift.f k t134 t136 t149 t148).bind fun bt150 => ((sat_Neg.f k t148).bind fun t152 => ((span_Shift.f k t142 t146 t152 t148).bind fun bt153 => ((span_Meet.f k (([(⟨bt150.1, bt150.2⟩ : S25), (⟨bt153.1, bt153.2⟩ : S25)] : List (S25)))).bind fun bt158 => (some (bt158.1, bt158.2)))))))))))))))) = some (r1, r2) := h
 clear h
 replace H := Option.bind_eq_some_iff.mp H
 obtain ⟨t132, A30, H⟩ := H
 replace H : ((sat_Sub.f k a1_2 a1_3).bind fun t133 => ((sat_Sub.f k t132 a0_5).bind fun t134 => ((probe_least.f k a0_0 a0_1 a0_2 a0_3 a0_4 a0_5 a0_6 a0_7 a0_8 a0_9 a0_10 a0_11).bind fun t135 => ((sat_Sub.f k t132 t135).bind fun t136 => ((probe_least.f k a0_0 a0_1 a0_2 a0_3 a0_4 a0_5 a0_6 a0_7 a0_8 a0_9 a0_10 a0_11).bind fun t138 => ((sat_Add.f k (([t133, t138] : List Int))).bind fun t142 => ((sat_Add.f k (([t133, a0_5] : List Int))).bind fun t146 => ((sat_Mul.f k 2 a0_4).bind fun t148 => ((sat_Neg.f k t148).bind fun t149 => ((span_Shift.f k t134 t136 t149 t148).bind fun bt150 => ((sat_Neg.f k t148).bind fun t152 => ((span_Shift.f k t142 t146 t152 t148).bind fun bt153 => ((span_Meet.f k (([(⟨bt150.1, bt150.2⟩ : S25), (⟨bt153.1, bt153.2⟩ : S25)] : List (S25)))).bind fun bt158 => (some (bt158.1, bt158.2))))))))))))))) = some (r1, r2) := H
 have A3 := Aside0.mk A30
 clear A30
 replace H := Option.bind_eq_some_iff.mp H
 obtain ⟨t133, A40, H⟩ := H
 replace H : ((sat_Sub.f k t132 a0_5).bind fun t134 => ((probe_least.f k a0_0 a0_1 a0_2 a0_3 a0_4 a0_5 a0_6 a0_7 a0_8 a0_9 a0_10 a0_11).bind fun t135 => ((sat_Sub.f k t132 t135).bind fun t136 => ((probe_least.f k a0_0 a0_1 a0_2 a0_3 a0_4 a0_5 a0_6 a0_7 a0_8 a0_9 a0_10 a0_11).bind fun t138 => ((sat_Add.f k (([t133, t138] : List Int))).bind fun t142 => ((sat_Add.f k (([t133, a0_5] : List Int))).bind fun t146 => ((sat_Mul.f k 2 a0_4).bind fun t148 => ((sat_Neg.f k t148).bind fun t149 => ((span_Shift.f k t134 t136 t149 t148).bind fun bt150 => ((sat_Neg.f k t148).bind fun t152 => ((span_Shift.f k t142 t146 t152 t148).bind fun bt153 => ((span_Meet.f k (([(⟨bt150.1, bt150.2⟩ : S25), (⟨bt153.1, bt153.2⟩ : S25)] : List (S25)))).bind fun bt158 => (some (bt158.1, bt158.2)))))))))))))) = some (r1, r2) := H
 have A4 := Aside0.mk A40
 clear A40
 replace H := Option.bind_eq_some_iff.mp H
 obtain ⟨t134, A50, H⟩ := H
 replace H : ((probe_least.f k a0_0 a0_1 a0_2 a0_3 a0_4 a0_5 a0_6 a0_7 a0_8 a0_9 a0_10 a0_11).bind fun t135 => ((sat_Sub.f k t132 t135).bind fun t136 => ((probe_least.f k a0_0 a0_1 a0_2 a0_3 a0_4 a0_5 a0_6 a0_7 a0_8 a0_9 a0_10 a0_11).bind fun t138 => ((sat_Add.f k (([t133, t138] : List Int))).bind fun t142 => ((sat_Add.f k (([t133, a0_5] : List Int))).bind fun t146 => ((sat_Mul.f k 2 a0_4).bind fun t148 => ((sat_Neg.f k t148).bind fun t149 => ((span_Shift.f k t134 t136 t149 t148).bind fun bt150 => ((sat_Neg.f k t148).bind fun t152 => ((span_Shift.f k t142 t146 t152 t148).bind fun bt153 => ((span_Meet.f k (([(⟨bt150.1, bt150.2⟩ : S25), (⟨bt153.1, bt153.2⟩ : S25)] : List (S25)))).bind fun bt158 => (some (bt158.1, bt158.2))))))))))))) = some (r1, r2) := H
 have A5 := Aside0.mk A50
 clear A50
 replace H := Option.bind_eq_some_iff.mp H
 obtain ⟨t135, A60, H⟩ := H
 replace H : ((sat_Sub.f k t132 t135).bind fun t136 => ((probe_least.f k a0_0 a0_1 a0_2 a0_3 a0_4 a0_5 a0_6 a0_7 a0_8 a0_9 a0_10 a0_11).bind fun t138 => ((sat_Add.f k (([t133, t138] : List Int))).bind fun t142 => ((sat_Add.f k (([t133, a0_5] : List Int))).bind fun t146 => ((sat_Mul.f k 2 a0_4).bind fun t148 => ((sat_Neg.f k t148).bind fun t149 => ((span_Shift.f k t134 t136 t149 t148).bind fun bt150 => ((sat_Neg.f k t148).bind fun t152 => ((span_Shift.f k t142 t146 t152 t148).bind fun bt153 => ((span_Meet.f k (([(⟨bt150.1, bt150.2⟩ : S25), (⟨bt153.1, bt153.2⟩ : S25)] : List (S25)))).bind fun bt158 => (some (bt158.1, bt158.2)))))))))))) = some (r1, r2) := H
 have A6 := Aside0.mk A60
 clear A60
 replace H := Option.bind_eq_some_iff.mp H
 obtain ⟨t136, A70, H⟩ := H
 replace H : ((probe_least.f k a0_0 a0_1 a0_2 a0_3 a0_4 a0_5 a0_6 a0_7 a0_8 a0_9 a0_10 a0_11).bind fun t138 => ((sat_Add.f k (([t133, t138] : List Int))).bind fun t142 => ((sat_Add.f k (([t133, a0_5] : List Int))).bind fun t146 => ((sat_Mul.f k 2 a0_4).bind fun t148 => ((sat_Neg.f k t148).bind fun t149 => ((span_Shift.f k t134 t136 t149 t148).bind fun bt150 => ((sat_Neg.f k t148).bind fun t152 => ((span_Shift.f k t142 t146 t152 t148).bind fun bt153 => ((span_Meet.f k (([(⟨bt150.1, bt150.2⟩ : S25), (⟨bt153.1, bt153.2⟩ : S25)] : List (S25)))).bind fun bt158 => (some (bt158.1, bt158.2))))))))))) = some (r1, r2) := H
 have A7 := Aside0.mk A70
 clear A70
 replace H := Option.bind_eq_some_iff.mp H
 obtain ⟨t138, A80, H⟩ := H
 replace H : ((sat_Add.f k (([t133, t138] : List Int))).bind fun t142 => ((sat_Add.f k (([t133, a0_5] : List Int))).bind fun t146 => ((sat_Mul.f k 2 a0_4).bind fun t148 => ((sat_Neg.f k t148).bind fun t149 => ((span_Shift.f k t134 t136 t149 t148).bind fun bt150 => ((sat_Neg.f k t148).bind fun t152 => ((span_Shift.f k t142 t146 t152 t148).bind fun bt153 => ((span_Meet.f k (([(⟨bt150.1, bt150.2⟩ : S25), (⟨bt153.1, bt153.2⟩ : S25)] : List (S25)))).bind fun bt158 => (some (bt158.1, bt158.2)))))))))) = some (r1, r2) := H
 have A8 := Aside0.mk A80
 clear A80
 obtain rfl : t135 = t138 := Option.some.inj (A6.out.symm.trans A8.out)
 obtain ⟨y139, hy139⟩ : ∃ y_ : List Int, y_ = (([t133, t135] : List Int)) := ⟨_, rfl⟩
 replace H : ((sat_Add.f k y139).bind fun t142 => ((sat_Add.f k (([t133, a0_5] : List Int))).bind fun t146 => ((sat_Mul.f k 2 a0_4).bind fun t148 => ((sat_Neg.f k t148).bind fun t149 => ((span_Shift.f k t134 t136 t149 t148).bind fun bt150 => ((sat_Neg.f k t148).bind fun t152 => ((span_Shift.f k t142 t146 t152 t148).bind fun bt153 => ((span_Meet.f k (([(⟨bt150.1, bt150.2⟩ : S25), (⟨bt153.1, bt153.2⟩ : S25)] : List (S25)))).bind fun bt158 => (some (bt158.1, bt158.2)))))))))) = some (r1, r2) := by first | (rw [hy139]; with_reducible exact H) | (have H2_ := (Option.bind_some _ _).symm.trans H; rw [hy139]; with_reducible exact H2_) | (have H2_ := (Option.bind_some _ _).symm.trans H; with_reducible exact H2_) | with_reducible exact H | (rw [hy139]; exact H) | exact H
 have Ny139 := Aside0.mk hy139
 clear hy139
 replace H := Option.bind_eq_some_iff.mp H
 obtain ⟨t142, A90, H⟩ := H
 replace H : ((sat_Add.f k (([t133, a0_5] : List Int))).bind fun t146 => ((sat_Mul.f k 2 a0_4).bind fun t148 => ((sat_Neg.f k t148).bind fun t149 => ((span_Shift.f k t134 t136 t149 t148).bind fun bt150 => ((sat_Neg.f k t148).bind fun t152 => ((span_Shift.f k t142 t146 t152 t148).bind fun bt153 => ((span_Meet.f k (([(⟨bt150.1, bt150.2⟩ : S25), (⟨bt153.1, bt153.2⟩ : S25)] : List (S25)))).bind fun bt158 => (some (bt158.1, bt158.2))))))))) = some (r1, r2) := H
 have A9 := Aside0.mk A90
 clear A90
 obtain ⟨y143, hy143⟩ : ∃ y_ : List Int, y_ = (([t133, a0_5] : List Int)) := ⟨_, rfl⟩
 replace H : ((sat_Add.f k y143).bind fun t146 => ((sat_Mul.f k 2 a0_4).bind fun t148 => ((sat_Neg.f k t148).bind fun t149 => ((span_Shift.f k t134 t136 t149 t148).bind fun bt150 => ((sat_Neg.f k t148).bind fun t152 => ((span_Shift.f k t142 t146 t152 t148).bind fun bt153 => ((span_Meet.f k (([(⟨bt150.1, bt150.2⟩ : S25), (⟨bt153.1, bt153.2⟩ : S25)] : List (S25)))).bind fun bt158 => (some (bt158.1, bt158.2))))))))) = some (r1, r2) := by first | (rw [hy143]; with_reducible exact H) | (have H2_ := (Option.bind_some _ _).symm.trans H; rw [hy143]; with_reducible exact H2_) | (have H2_ := (Option.bind_some _ _).symm.trans H; with_reducible exact H2_) | with_reducible exact H | (rw [hy143]; exact H) | exact H
 have Ny143 := Aside0.mk hy143
 clear hy143
 replace H := Option.bind_eq_some_iff.mp H
 obtain ⟨t146, A100, H⟩ := H
 replace H : ((sat_Mul.f k 2 a0_4).bind fun t148 => ((sat_Neg.f k t148).bind fun t149 => ((span_Shift.f k t134 t136 t149 t148).bind fun bt150 => ((sat_Neg.f k t148).bind fun t152 => ((span_Shift.f k t142 t146 t152 t148).bind fun bt153 => ((span_Meet.f k (([(⟨bt150.1, bt150.2⟩ : S25), (⟨bt153.1, bt153.2⟩ : S25)] : List (S25)))).bind fun bt158 => (some (bt158.1, bt158.2)))))))) = some (r1, r2) := H
 have A10 := Aside0.mk A100
 clear A100
 replace H := Option.bind_eq_some_iff.mp H
 obtain ⟨t148, A110, H⟩ := H
 replace H : ((sat_Neg.f k t148).bind fun t149 => ((span_Shift.f k t134 t136 t149 t148).bind fun bt150 => ((sat_Neg.f k t148).bind fun t152 => ((span_Shift.f k t142 t146 t152 t148).bind fun bt153 => ((span_Meet.f k (([(⟨bt150.1, bt150.2⟩ : S25), (⟨bt153.1, bt153.2⟩ : S25)] : List (S25)))).bind fun bt158 => (some (bt158.1, bt158.2))))))) = some (r1, r2) := H
 have A11 := Aside0.mk A110
 clear A110
 replace H := Option.bind_eq_some_iff.mp H
 obtain ⟨t149, A120, H⟩ := H
 replace H : ((span_Shift.f k t134 t136 t149 t148).bind fun bt150 => ((sat_Neg.f k t148).bind fun t152 => ((span_Shift.f k t142 t146 t152 t148).bind fun bt153 => ((span_Meet.f k (([(⟨bt150.1, bt150.2⟩ : S25), (⟨bt153.1, bt153.2⟩ : S25)] : List (S25)))).bind fun bt158 => (some (bt158.1, bt158.2)))))) = some (r1, r2) := H
 have A12 := Aside0.mk A120
 clear A120
 replace H := Option.bind_eq_some_iff.mp H
 obtain ⟨⟨t150, t151⟩, A130, H⟩ := H
 replace H : ((sat_Neg.f k t148).bind fun t152 => ((span_Shift.f k t142 t146 t152 t148).bind fun bt153 => ((span_Meet.f k (([(⟨t150, t151⟩ : S25), (⟨bt153.1, bt153.2⟩ : S25)] : List (S25)))).bind fun bt158 => (some (bt158.1, bt158.2))))) = some (r1, r2) := H
 have A13 := Aside0.mk A130
 clear A130
 replace H := Option.bind_eq_some_iff.mp H
 obtain ⟨t152, A140, H⟩ := H
 replace H : ((span_Shift.f k t142 t146 t152 t148).bind fun bt153 => ((span_Meet.f k (([(⟨t150, t151⟩ : S25), (⟨bt153.1, bt153.2⟩ : S25)] : List (S25)))).bind fun bt158 => (some (bt158.1, bt158.2)))) = some (r1, r2) := H
 have A14 := Aside0.mk A140
 clear A140
 obtain rfl : t149 = t152 := Option.some.inj (A12.out.symm.trans A14.out)
 replace H := Option.bind_eq_some_iff.mp H
 obtain ⟨⟨t153, t154⟩, A150, H⟩ := H
 replace H : ((span_Meet.f k (([(⟨t150, t151⟩ : S25), (⟨t153, t154⟩ : S25)] : List (S25)))).bind fun bt158 => (some (bt158.1, bt158.2))) = some (r1, r2) := H
 have A15 := Aside0.mk A150
 clear A150
 obtain ⟨y155, hy155⟩ : ∃ y_ : List (S25), y_ = (([(⟨t150, t151⟩ : S25), (⟨t153, t154⟩ : S25)] : List (S25))) := ⟨_, rfl⟩
 replace H : ((span_Meet.f k y155).bind fun bt158 => (some (bt158.1, bt158.2))) = some (r1, r2) := by first | (rw [hy155]; with_reducible exact H) | (have H2_ := (Option.bind_some _ _).symm.trans H; rw [hy155]; with_reducible exact H2_) | (have H2_ := (Option.bind_some _ _).symm.trans H; with_reducible exact H2_) | with_reducible exact H | (rw [hy155]; exact H) | exact H
 have Ny155 := Aside0.mk hy155
 clear hy155
 replace H := Option.bind_eq_some_iff.mp H
 obtain ⟨⟨t158, t159⟩, A160, H⟩ := H
 replace H : (some (t158, t159)) = some (r1, r2) := H
 have A16 := Aside0.mk A160
 clear A160
 simp only [Option.some.injEq, Prod.mk.injEq] at H
 obtain ⟨rfl, rfl⟩ := H
 go_enter Try.func33, Try.ntmps33
 try go_wp2_with (first | ((with_reducible refine gate_dst (N := 2) rfl ?_); refine box_event ?hg (N := 2) ?hd (cs := #[.int .i64 a0_0, .int .i64 a0_1, .int .i64 a0_2, .int .i64 a0_3, .int .i64 a0_4, .int .i64 a0_5, .int .i64 a0_6, .int .i64 a0_7, .int .i64 a0_8, .int .i64 a0_9, .int .i64 a0_10, .int .i64 a0_11]) (t := 23) ?hr ?_; (case hd => rfl); (case hg => rfl); (case hr => first | (go_simp; done) | (go_simp; rfl)); intro gb129 hg w17 hbox hb; have n0_ := Aside0.mk (below_step (by with_reducible repeat first | exact HB.out | apply pw_below_drewN) hb); have n1_ := Aside0.mk (hbox); have n2_ := Aside0.mk ((by rw [hg]; exact (below_size (by with_reducible repeat first | exact HB.out | apply pw_below_drewN)) : w.heap.size ≤ gb129)); have n3_ := Aside0.mk ((by rw [hg]; exact (below_size (by with_reducible repeat first | exact HB.out | apply pw_below_drewN)) : w.heap.size ≤ gb129)); clear HB; have HB := n0_; have BK129 := n1_; have GW129 := n2_; have GE129 := n3_; clear n0_ n1_ n2_ n3_; clear hb hbox hg) | ((with_reducible refine gate_dst (N := 3) rfl ?_); refine box_event ?hg (N := 3) ?hd (cs := #[.int .i64 a1_0, .int .i64 a1_1, .int .i64 a1_2, .int .i64 a1_3]) (t := 57) ?hr ?_; (case hd => rfl); (case hg => rfl); (case hr => first | (go_simp; done) | (go_simp; rfl)); intro gb130 hg w18 hbox hb; have n0_ := Aside0.mk (blk_below (by with_reducible repeat first | exact BK129.out | apply bN) hb); have n1_ := Aside0.mk (below_step (by with_reducible repeat first | exact HB.out | apply pw_below_drewN) hb); have n2_ := Aside0.mk (hbox); have n3_ := Aside0.mk ((by rw [hg]; exact (below_size (by with_reducible repeat first | exact HB.out | apply pw_below_drewN)) : w.heap.size ≤ gb130)); have n4_ := Aside0.mk ((by rw [hg]; exact (below_size (by with_reducible repeat first | exact HB.out | apply pw_below_drewN)) : w.heap.size ≤ gb130)); have n5_ := Aside0.mk ((by rw [hg]; exact Nat.ne_of_lt (blk_lt (by with_reducible repeat first | exact BK129.out | apply bN)) : gb129 ≠ gb130)); have n6_ := Aside0.mk ((by rw [hg]; exact Nat.ne_of_gt (blk_lt (by with_reducible repeat first | exact BK129.out | apply bN)) : gb130 ≠ gb129)); clear BK129; clear HB; have BK129 := n0_; have HB := n1_; have BK130 := n2_; have GW130 := n3_; have GE130 := n4_; have NB129_130 := n5_; have NB130_129 := n6_; clear n0_ n1_ n2_ n3_ n4_ n5_ n6_; clear hb hbox hg) | ((with_reducible refine gate_dst (N := 4) rfl ?_); refine box_event ?hg (N := 4) ?hd (cs := #[.int .i64 0, .int .i64 0]) (t := 25) ?hr ?_; (case hd => rfl); (case hg => rfl); (case hr => first | (go_simp; done) | (go_simp; rfl)); intro gb131 hg w19 hbox hb; have n0_ := Aside0.mk (blk_below (by with_reducible repeat first | exact BK129.out | apply bN) hb); have n1_ := Aside0.mk (blk_below (by with_reducible repeat first | exact BK130.out | apply bN) hb); have n2_ := Aside0.mk (below_step (by with_reducible repeat first | exact HB.out | apply pw_below_drewN) hb); have n3_ := Aside0.mk (hbox); have n4_ := Aside0.mk ((by rw [hg]; exact (below_size (by with_reducible repeat first | exact HB.out | apply pw_below_drewN)) : w.heap.size ≤ gb131)); have n5_ := Aside0.mk ((by rw [hg]; exact (below_size (by with_reducible repeat first | exact HB.out | apply pw_below_drewN)) : w.heap.size ≤ gb131)); have n6_ := Aside0.mk ((by rw [hg]; exact Nat.ne_of_lt (blk_lt (by with_reducible repeat first | exact BK129.out | apply bN)) : gb129 ≠ gb131)); have n7_ := Aside0.mk ((by rw [hg]; exact Nat.ne_of_gt (blk_lt (by with_reducible repeat first | exact BK129.out | apply bN)) : gb131 ≠ gb129)); have n8_ := Aside0.mk ((by rw [hg]; exact Nat.ne_of_lt (blk_lt (by with_reducible repeat first | exact BK130.out | apply bN)) : gb130 ≠ gb131)); have n9_ := Aside0.mk ((by rw [hg]; exact Nat.ne_of_gt (blk_lt (by with_reducible repeat first | exact BK130.out | apply bN)) : gb131 ≠ gb130)); clear BK129; clear BK130; clear HB; have BK129 := n0_; have BK130 := n1_; have HB := n2_; have BK131 := n3_; have GW131 := n4_; have GE131 := n5_; have NB129_131 := n6_; have NB131_129 := n7_; have NB130_131 := n8_; have NB131_130 := n9_; clear n0_ n1_ n2_ n3_ n4_ n5_ n6_ n7_ n8_ n9_; clear hb hbox hg))
 have n0_ := Aside0.mk (blk_drew BK129.out)
 have n1_ := Aside0.mk (blk_drew BK130.out)
 have n2_ := Aside0.mk (blk_drew BK131.out)
 have n3_ := Aside0.mk (below_drew1 HB.out)
 clear BK129 BK130 BK131 HB
 have BK129 := n0_
 have BK130 := n1_
 have BK131 := n2_
 have HB := n3_
 clear n0_ n1_ n2_ n3_
 refine start_ (n := 12) (S := fun w' => w'.cell? ⟨gb130, 0, none⟩ = some (.int .i64 a1_0) ∧ w'.cell? ⟨gb130, 1, none⟩ = some (.int .i64 a1_1) ∧ w'.cell? ⟨gb130, 2, none⟩ = some (.int .i64 a1_2) ∧ w'.cell? ⟨gb130, 3, none⟩ = some (.int .i64 a1_3)) (ds := []) #[false, false, false, false, false, false, false, false, false, false, false, false] (by kernel_rfl) rfl rfl ⟨(blk_cell BK130.out 0).trans rfl, (blk_cell BK130.out 1).trans rfl, (blk_cell BK130.out 2).trans rfl, (blk_cell BK130.out 3).trans rfl⟩ (fun hHeld => ?_); refine with_tabW probe_Ahead.tab1 probe_Ahead.bits1 (fun HT_ HW_ => ?_)
 generalize w19.drew = w20 at BK129 BK130 BK131 HB hHeld ⊢
 refine pure_ (i := 0) (N := some 10) (v := ?_) (a' := ?_) #[true, false, false, false, false, false, false, false, false, false, false, false] rfl rfl (any_of HT_.out (by kernel_rfl)) (fun _ _ _ h => h) (Or.inl ⟨by rfl, ?_⟩) ?_ ?_
 rotate_left
 ·intro w'
  go_simp
  with_reducible rfl
 rotate_left
 ·simp only [Act.put, List.setIfInBounds_toArray, List.set_cons_zero, List.set_cons_succ, i64_w, i32_w]
  rfl
 refine pure_ (i := 2) (N := some 12) (v := ?_) (a' := ?_) #[true, false, true, false, false, false, false, false, false, false, false, false] rfl rfl (any_of HT_.out (by kernel_rfl)) (fun _ _ _ h => h) (Or.inl ⟨by rfl, ?_⟩) ?_ ?_
 rotate_left
 ·intro w'
  go_simp
  with_reducible rfl
 rotate_left
 ·simp only [Act.put, List.setIfInBounds_toArray, List.set_cons_zero, List.set_cons_succ, i64_w, i32_w]
  rfl
 refine pure_ (i := 5) (N := some 15) (v := ?_) (a' := ?_) #[true, false, true, false, false, true, false, false, false, false, false, false] rfl rfl (any_of HT_.out (by kernel_rfl)) (fun _ _ _ h => h) (Or.inl ⟨by rfl, ?_⟩) ?_ ?_
 rotate_left
 ·intro w'
  go_simp
  with_reducible rfl
 rotate_left
 ·simp only [Act.put, List.setIfInBounds_toArray, List.set_cons_zero, List.set_cons_succ, i64_w, i32_w]
  rfl
 refine pure_ (i := 7) (N := some 17) (v := ?_) (a' := ?_) #[true, false, true, false, false, true, false, true, false, false, false, false] rfl rfl (any_of HT_.out (by kernel_rfl)) (fun _ _ _ h => h) (Or.inl ⟨by rfl, ?_⟩) ?_ ?_
 rotate_left
 ·intro w'
  go_simp
  with_reducible rfl
 rotate_left
 ·simp only [Act.put, List.setIfInBounds_toArray, List.set_cons_zero, List.set_cons_succ, i64_w, i32_w]
  rfl
 refine take_ (i := 1) (N := some 11) (v := ?_) (a' := ?_) #[true, true, true, false, false, true, false, true, false, false, false, false] rfl rfl (take_ofW HT_.out HW_.out (by kernel_rfl)) (fun _ _ _ h => h) (Or.inl ⟨by rfl, ?_⟩) hHeld ?_ ?_
 rotate_left
 ·rintro w' ⟨s0, s1, s2, s3⟩
  go_simp
  with_reducible rfl
 rotate_left
 ·simp only [Act.put, List.setIfInBounds_toArray, List.set_cons_zero, List.set_cons_succ, i64_w, i32_w]
  rfl
 refine take_ (i := 3) (N := some 13) (v := ?_) (a' := ?_) #[true, true, true, true, false, true, false, true, false, false, false, false] rfl rfl (take_ofW HT_.out HW_.out (by kernel_rfl)) (fun _ _ _ h => h) (Or.inl ⟨by rfl, ?_⟩) hHeld ?_ ?_
 rotate_left
 ·rintro w' ⟨s0, s1, s2, s3⟩
  go_simp
  with_reducible rfl
 rotate_left
 ·simp only [Act.put, List.setIfInBounds_toArray, List.set_cons_zero, List.set_cons_succ, i64_w, i32_w]
  rfl
 refine take_ (i := 6) (N := some 16) (v := ?_) (a' := ?_) #[true, true, true, true, false, true, true, true, false, false, false, false] rfl rfl (take_ofW HT_.out HW_.out (by kernel_rfl)) (fun _ _ _ h => h) (Or.inl ⟨by rfl, ?_⟩) hHeld ?_ ?_
 rotate_left
 ·rintro w' ⟨s0, s1, s2, s3⟩
  go_simp
  with_reducible rfl
 rotate_left
 ·simp only [Act.put, List.setIfInBounds_toArray, List.set_cons_zero, List.set_cons_succ, i64_w, i32_w]
  rfl
 refine take_ (i := 8) (N := some 18) (v := ?_) (a' := ?_) #[true, true, true, true, false, true, true, true, true, false, false, false] rfl rfl (take_ofW HT_.out HW_.out (by kernel_rfl)) (fun _ _ _ h => h) (Or.inl ⟨by rfl, ?_⟩) hHeld ?_ ?_
 rotate_left
 ·rintro w' ⟨s0, s1, s2, s3⟩
  go_simp
  with_reducible rfl
 rotate_left
 ·simp only [Act.put, List.setIfInBounds_toArray, List.set_cons_zero, List.set_cons_succ, i64_w, i32_w]
  rfl
 refine one_ (i := 4) (N := some 14) #[true, true, true, true, true, true, true, true, true, false, false, false] rfl rfl (one_of HT_.out (by kernel_rfl)) (by decide) (fun K hK => ?_)
 refine goes_ Try.func40 (by kernel_rfl) rfl #[.int .i64 a1_1, .int .i64 a1_0] (by rfl) rfl rfl (by (try simp only [List.map_toArray, List.map_cons, List.map_nil]); first | done | rfl | (simp only [List.length_drop, List.length_take]; rfl)) ?_
 with_reducible refine (sat_Sub.calls k a1_1 a1_0 t132 _ A3.out).mono ?_
 rintro e w' ⟨rfl, ⟨nd, rfl⟩⟩
 refine ⟨_, rfl, ?_⟩
 refine hK.out _ _ ⟨(blk_cell BK130.out 0).trans rfl, (blk_cell BK130.out 1).trans rfl, (blk_cell BK130.out 2).trans rfl, (blk_cell BK130.out 3).trans rfl⟩ (fun hHeld => ?_)
 clear hK K
 refine norm_ (a' := ?_) ?_ ?_
 rotate_left
 ·show Act.put _ (some 14) _ = _
  simp only [Act.put, List.setIfInBounds_toArray, List.set_cons_zero, List.set_cons_succ, i64_w, i32_w]
  rfl
 refine one_ (i := 9) (N := some 19) #[true, true, true, true, true, true, true, true, true, true, false, false] rfl rfl (one_of HT_.out (by kernel_rfl)) (by decide) (fun K hK => ?_)
 refine goes_ Try.func40 (by kernel_rfl) rfl #[.int .i64 a1_2, .int .i64 a1_3] (by rfl) rfl rfl (by (try simp only [List.map_toArray, List.map_cons, List.map_nil]); first | done | rfl | (simp only [List.length_drop, List.length_take]; rfl)) ?_
 with_reducible refine (sat_Sub.calls k a1_2 a1_3 t133 _ A4.out).mono ?_
 rintro e w' ⟨rfl, ⟨nd, rfl⟩⟩
 refine ⟨_, rfl, ?_⟩
 refine hK.out _ _ ⟨(blk_cell BK130.out 0).trans rfl, (blk_cell BK130.out 1).trans rfl, (blk_cell BK130.out 2).trans rfl, (blk_cell BK130.out 3).trans rfl⟩ (fun hHeld => ?_)
 clear hK K
 refine norm_ (a' := ?_) ?_ ?_
 rotate_left
 ·show Act.put _ (some 19) _ = _
  simp only [Act.put, List.setIfInBounds_toArray, List.set_cons_zero, List.set_cons_succ, i64_w, i32_w]
  rfl
 refine pure_ (i := 10) (N := some 5) (v := ?_) (a' := ?_) #[true, true, true, true, true, true, true, true, true, true, true, false] rfl rfl (any_of HT_.out (by kernel_rfl)) (fun _ _ _ h => h) (Or.inl ⟨by rfl, ?_⟩) ?_ ?_
 rotate_left
 ·intro w'
  go_simp
  with_reducible rfl
 rotate_left
 ·simp only [Act.put, List.setIfInBounds_toArray, List.set_cons_zero, List.set_cons_succ, i64_w, i32_w]
  rfl
 refine pure_ (i := 11) (N := some 6) (v := ?_) (a' := ?_) #[true, true, true, true, true, true, true, true, true, true, true, true] rfl rfl (any_of HT_.out (by kernel_rfl)) (fun _ _ _ h => h) (Or.inl ⟨by rfl, ?_⟩) ?_ ?_
 rotate_left
 ·intro w'
  go_simp
  with_reducible rfl
 rotate_left
 ·simp only [Act.put, List.setIfInBounds_toArray, List.set_cons_zero, List.set_cons_succ, i64_w, i32_w]
  rfl
 refine done_ (done_of HT_.out (by kernel_rfl)) ?_
 try go_wp2
 (try ((repeat rw [World.drewN_drewN]); rw [drewN_self w20]; generalize hq_ : World.drewN w20 _ = w20; have n0_ : Aside0 (w20.heap[gb129]? = some (.cells #[.int .i64 a0_0, .int .i64 a0_1, .int .i64 a0_2, .int .i64 a0_3, .int .i64 a0_4, .int .i64 a0_5, .int .i64 a0_6, .int .i64 a0_7, .int .i64 a0_8, .int .i64 a0_9, .int .i64 a0_10, .int .i64 a0_11] 23 (0, 0))) := ⟨by rw [← hq_]; exact (by with_reducible repeat first | exact BK129.out | apply bN)⟩; have n1_ : Aside0 (w20.heap[gb130]? = some (.cells #[.int .i64 a1_0, .int .i64 a1_1, .int .i64 a1_2, .int .i64 a1_3] 57 (0, 0))) := ⟨by rw [← hq_]; exact (by with_reducible repeat first | exact BK130.out | apply bN)⟩; have n2_ : Aside0 (w20.heap[gb131]? = some (.cells #[.int .i64 0, .int .i64 0] 25 (0, 0))) := ⟨by rw [← hq_]; exact (by with_reducible repeat first | exact BK131.out | apply bN)⟩; have n3_ : Aside0 (Below w.heap.size w w20) := ⟨by rw [← hq_]; exact (by repeat (first | (with_reducible first | exact HB.out | apply below_alloc | apply pw_below_drewN | apply below_drew1 | refine below_set ?_ GE129.out | refine below_set ?_ GE130.out | refine below_set ?_ GE131.out) | exact HB.out))⟩; clear BK129 BK130 BK131 HB hq_; have BK129 := n0_; have BK130 := n1_; have BK131 := n2_; have HB := n3_; clear n0_ n1_ n2_ n3_))
 have n0_ := Aside0.mk (blk_drew BK129.out)
 have n1_ := Aside0.mk (blk_drew BK130.out)
 have n2_ := Aside0.mk (blk_drew BK131.out)
 have n3_ := Aside0.mk (below_drew1 HB.out)
 clear BK129 BK130 BK131 HB
 have BK129 := n0_
 have BK130 := n1_
 have BK131 := n2_
 have HB := n3_
 clear n0_ n1_ n2_ n3_
 refine start_ (n := 11) (S := fun w' => w'.cell? ⟨gb129, 0, none⟩ = some (.int .i64 a0_0) ∧ w'.cell? ⟨gb129, 1, none⟩ = some (.int .i64 a0_1) ∧ w'.cell? ⟨gb129, 2, none⟩ = some (.int .i64 a0_2) ∧ w'.cell? ⟨gb129, 3, none⟩ = some (.int .i64 a0_3) ∧ w'.cell? ⟨gb129, 4, none⟩ = some (.int .i64 a0_4) ∧ w'.cell? ⟨gb129, 5, none⟩ = some (.int .i64 a0_5) ∧ w'.cell? ⟨gb129, 6, none⟩ = some (.int .i64 a0_6) ∧ w'.cell? ⟨gb129, 7, none⟩ = some (.int .i64 a0_7) ∧ w'.cell? ⟨gb129, 8, none⟩ = some (.int .i64 a0_8) ∧ w'.cell? ⟨gb129, 9, none⟩ = some (.int .i64 a0_9) ∧ w'.cell? ⟨gb129, 10, none⟩ = some (.int .i64 a0_10) ∧ w'.cell? ⟨gb129, 11, none⟩ = some (.int .i64 a0_11)) (ds := []) #[false, false, false, false, false, false, false, false, false, false, false] (by kernel_rfl) rfl rfl (c12 BK129.out) (fun hHeld => ?_); refine with_tabW probe_Ahead.tab2 probe_Ahead.bits2 (fun HT_ HW_ => ?_)
 generalize w20.drew = w21 at BK129 BK130 BK131 HB hHeld ⊢
 refine pure_ (i := 0) (N := some 20) (v := ?_) (a' := ?_) #[true, false, false, false, false, false, false, false, false, false, false] rfl rfl (any_of HT_.out (by kernel_rfl)) (fun _ _ _ h => h) (Or.inl ⟨by rfl, ?_⟩) ?_ ?_
 rotate_left
 ·intro w'
  go_simp
  with_reducible rfl
 rotate_left
 ·simp only [Act.put, List.setIfInBounds_toArray, List.set_cons_zero, List.set_cons_succ, i64_w, i32_w]
  rfl
 refine pure_ (i := 1) (N := some 21) (v := ?_) (a' := ?_) #[true, true, false, false, false, false, false, false, false, false, false] rfl rfl (any_of HT_.out (by kernel_rfl)) (fun _ _ _ h => h) (Or.inl ⟨by rfl, ?_⟩) ?_ ?_
 rotate_left
 ·intro w'
  go_simp
  with_reducible rfl
 rotate_left
 ·simp only [Act.put, List.setIfInBounds_toArray, List.set_cons_zero, List.set_cons_succ, i64_w, i32_w]
  rfl
 refine pure_ (i := 4) (N := some 24) (v := ?_) (a' := ?_) #[true, true, false, false, true, false, false, false, false, false, false] rfl rfl (any_of HT_.out (by kernel_rfl)) (fun _ _ _ h => h) (Or.inl ⟨by rfl, ?_⟩) ?_ ?_
 rotate_left
 ·intro w'
  go_simp
  with_reducible rfl
 rotate_left
 ·simp only [Act.put, List.setIfInBounds_toArray, List.set_cons_zero, List.set_cons_succ, i64_w, i32_w]
  rfl
 refine take_ (i := 2) (N := some 22) (v := ?_) (a' := ?_) #[true, true, true, false, true, false, false, false, false, false, false] rfl rfl (take_ofW HT_.out HW_.out (by kernel_rfl)) (fun _ _ _ h => h) (Or.inl ⟨by rfl, ?_⟩) hHeld ?_ ?_
 rotate_left
 ·rintro w' ⟨s0, s1, s2, s3, s4, s5, s6, s7, s8, s9, s10, s11⟩
  go_simp
  with_reducible rfl
 rotate_left
 ·simp only [Act.put, List.setIfInBounds_toArray, List.set_cons_zero, List.set_cons_succ, i64_w, i32_w]
  rfl
 refine take_ (i := 5) (N := some 25) (v := ?_) (a' := ?_) #[true, true, true, false, true, true, false, false, false, false, false] rfl rfl (take_ofW HT_.out HW_.out (by kernel_rfl)) (fun _ _ _ h => h) (Or.inl ⟨by rfl, ?_⟩) hHeld ?_ ?_
 rotate_left
 ·rintro w' ⟨s0, s1, s2, s3, s4, s5, s6, s7, s8, s9, s10, s11⟩
  go_simp
  with_reducible rfl
 rotate_left
 ·simp only [Act.put, List.setIfInBounds_toArray, List.set_cons_zero, List.set_cons_succ, i64_w, i32_w]
  rfl
 refine join_ (σ := Nat) 1 #[true, true, true, true, true, true, true, true, true, true, false] (fun s_ => [(23, .int .i64 t134), (26, .int .i64 t135), (27, .int .i64 t136), (7, .pointer (some ⟨s_, 0, none⟩)), (28, .agg #[.int .i64 t134, .int .i64 t136])]) (fun s_ w' => (w'.cell? ⟨gb129, 0, none⟩ = some (.int .i64 a0_0) ∧ w'.cell? ⟨gb129, 1, none⟩ = some (.int .i64 a0_1) ∧ w'.cell? ⟨gb129, 2, none⟩ = some (.int .i64 a0_2) ∧ w'.cell? ⟨gb129, 3, none⟩ = some (.int .i64 a0_3) ∧ w'.cell? ⟨gb129, 4, none⟩ = some (.int .i64 a0_4) ∧ w'.cell? ⟨gb129, 5, none⟩ = some (.int .i64 a0_5) ∧ w'.cell? ⟨gb129, 6, none⟩ = some (.int .i64 a0_6) ∧ w'.cell? ⟨gb129, 7, none⟩ = some (.int .i64 a0_7) ∧ w'.cell? ⟨gb129, 8, none⟩ = some (.int .i64 a0_8) ∧ w'.cell? ⟨gb129, 9, none⟩ = some (.int .i64 a0_9) ∧ w'.cell? ⟨gb129, 10, none⟩ = some (.int .i64 a0_10) ∧ w'.cell? ⟨gb129, 11, none⟩ = some (.int .i64 a0_11)) ∧ (w'.heap[gb129]? = some (.cells #[.int .i64 a0_0, .int .i64 a0_1, .int .i64 a0_2, .int .i64 a0_3, .int .i64 a0_4, .int .i64 a0_5, .int .i64 a0_6, .int .i64 a0_7, .int .i64 a0_8, .int .i64 a0_9, .int .i64 a0_10, .int .i64 a0_11] 23 (0, 0))) ∧ (w'.heap[gb130]? = some (.cells #[.int .i64 a1_0, .int .i64 a1_1, .int .i64 a1_2, .int .i64 a1_3] 57 (0, 0))) ∧ (w'.heap[gb131]? = some (.cells #[.int .i64 0, .int .i64 0] 25 (0, 0))) ∧ (w'.heap[s_]? = some (.cells #[.int .i64 0, .int .i64 0] 25 (0, 0))) ∧ (w.heap.size ≤ s_) ∧ (w.heap.size ≤ s_) ∧ (gb129 ≠ s_) ∧ (s_ ≠ gb129) ∧ (gb130 ≠ s_) ∧ (s_ ≠ gb130) ∧ (gb131 ≠ s_) ∧ (s_ ≠ gb131) ∧ (Below w.heap.size w w')) ?_ ?_
 rotate_left
 ·intro hCont
  refine two_ (i := 3) (j := 9) (Ni := some 23) (Nj := some 7) #[true, true, true, true, true, true, false, false, false, false, false] #[true, true, true, false, true, true, false, false, false, true, false] rfl rfl rfl rfl (two_of HT_.out (by kernel_rfl)) (by decide) (by decide) (fun K hK => ?_) (fun K hK => ?_)
  ·skip
   refine goes_ Try.func40 (by kernel_rfl) rfl #[.int .i64 t132, .int .i64 a0_5] (by rfl) rfl rfl (by (try simp only [List.map_toArray, List.map_cons, List.map_nil]); first | done | rfl | (simp only [List.length_drop, List.length_take]; rfl)) ?_
   with_reducible refine (sat_Sub.calls k t132 a0_5 t134 _ A5.out).mono ?_
   rintro e w' ⟨rfl, ⟨nd, rfl⟩⟩
   refine ⟨_, rfl, ?_⟩
   refine hK.out _ _ (c12 BK129.out) (fun hHeld => ?_)
   clear hK K
   refine norm_ (a' := ?_) ?_ ?_
   rotate_left
   ·show Act.put _ (some 23) _ = _
    simp only [Act.put, List.setIfInBounds_toArray, List.set_cons_zero, List.set_cons_succ, i64_w, i32_w]
    rfl
   refine two_ (i := 6) (j := 9) (Ni := some 26) (Nj := some 7) #[true, true, true, true, true, true, true, false, false, false, false] #[true, true, true, true, true, true, false, false, false, true, false] rfl rfl rfl rfl (two_of HT_.out (by kernel_rfl)) (by decide) (by decide) (fun K hK => ?_) (fun K hK => ?_)
   ·skip
    refine goes_ Try.func53 (by kernel_rfl) rfl #[.agg #[.int .i64 a0_0, .int .i64 a0_1, .int .i64 a0_2, .int .i64 a0_3, .int .i64 a0_4, .int .i64 a0_5, .int .i64 a0_6, .int .i64 a0_7, .int .i64 a0_8, .int .i64 a0_9, .int .i64 a0_10, .int .i64 a0_11]] (by rfl) rfl rfl (by (try simp only [List.map_toArray, List.map_cons, List.map_nil]); first | done | rfl | (simp only [List.length_drop, List.length_take]; rfl)) ?_
    with_reducible refine (probe_least.calls k a0_0 a0_1 a0_2 a0_3 a0_4 a0_5 a0_6 a0_7 a0_8 a0_9 a0_10 a0_11 t135 _ A6.out).mono ?_
    rintro e w22 ⟨rfl, hb⟩
    refine ⟨_, rfl, ?_⟩
    have n0_ := Aside0.mk (blk_below (by with_reducible repeat first | exact BK129.out | apply bN) hb)
    have n1_ := Aside0.mk (blk_below (by with_reducible repeat first | exact BK130.out | apply bN) hb)
    have n2_ := Aside0.mk (blk_below (by with_reducible repeat first | exact BK131.out | apply bN) hb)
    have n3_ := Aside0.mk (below_step (by with_reducible repeat first | exact HB.out | apply pw_below_drewN) hb)
    clear BK129 BK130 BK131 HB
    have BK129 := n0_
    have BK130 := n1_
    have BK131 := n2_
    have HB := n3_
    clear n0_ n1_ n2_ n3_
    (try clear hb)
    (try clear hb2)
    (try clear hk)
    (try clear hi)
    refine hK.out _ _ (c12 BK129.out) (fun hHeld => ?_)
    clear hK K
    refine norm_ (a' := ?_) ?_ ?_
    rotate_left
    ·show Act.put _ (some 26) _ = _
     simp only [Act.put, List.setIfInBounds_toArray, List.set_cons_zero, List.set_cons_succ, i64_w, i32_w]
     rfl
    refine two_ (i := 7) (j := 9) (Ni := some 27) (Nj := some 7) #[true, true, true, true, true, true, true, true, false, false, false] #[true, true, true, true, true, true, true, false, false, true, false] rfl rfl rfl rfl (two_of HT_.out (by kernel_rfl)) (by decide) (by decide) (fun K hK => ?_) (fun K hK => ?_)
    ·skip
     refine goes_ Try.func40 (by kernel_rfl) rfl #[.int .i64 t132, .int .i64 t135] (by rfl) rfl rfl (by (try simp only [List.map_toArray, List.map_cons, List.map_nil]); first | done | rfl | (simp only [List.length_drop, List.length_take]; rfl)) ?_
     with_reducible refine (sat_Sub.calls k t132 t135 t136 _ A7.out).mono ?_
     rintro e w' ⟨rfl, ⟨nd, rfl⟩⟩
     refine ⟨_, rfl, ?_⟩
     refine hK.out _ _ (c12 BK129.out) (fun hHeld => ?_)
     clear hK K
     refine norm_ (a' := ?_) ?_ ?_
     rotate_left
     ·show Act.put _ (some 27) _ = _
      simp only [Act.put, List.setIfInBounds_toArray, List.set_cons_zero, List.set_cons_succ, i64_w, i32_w]
      rfl
     refine pure_ (i := 8) (N := some 28) (v := ?_) (a' := ?_) #[true, true, true, true, true, true, true, true, true, false, false] rfl rfl (any_of HT_.out (by kernel_rfl)) (fun _ _ _ h => h) (Or.inl ⟨by rfl, ?_⟩) ?_ ?_
     rotate_left
     ·intro w'
      go_simp
      with_reducible rfl
     rotate_left
     ·simp only [Act.put, List.setIfInBounds_toArray, List.set_cons_zero, List.set_cons_succ, i64_w, i32_w]
      rfl
     refine one_ (i := 9) (N := some 7) #[true, true, true, true, true, true, true, true, true, true, false] rfl rfl (one_of HT_.out (by kernel_rfl)) (by decide) (fun K hK => ?_)
     refine box_step ?hg (N := 7) ?hd (cs := #[.int .i64 0, .int .i64 0]) (t := 25) ?hr ?_; (case hd => rfl); (case hg => rfl); (case hr => first | (go_simp; done) | (go_simp; rfl))
     intro gb137 hg w23 hbox hb
     have n0_ := Aside0.mk (blk_below (by with_reducible repeat first | exact BK129.out | apply bN) hb)
     have n1_ := Aside0.mk (blk_below (by with_reducible repeat first | exact BK130.out | apply bN) hb)
     have n2_ := Aside0.mk (blk_below (by with_reducible repeat first | exact BK131.out | apply bN) hb)
     have n3_ := Aside0.mk (below_step (by with_reducible repeat first | exact HB.out | apply pw_below_drewN) hb)
     have n4_ := Aside0.mk (hbox)
     have n5_ := Aside0.mk ((by rw [hg]; exact (below_size (by with_reducible repeat first | exact HB.out | apply pw_below_drewN)) : w.heap.size ≤ gb137))
     have n6_ := Aside0.mk ((by rw [hg]; exact (below_size (by with_reducible repeat first | exact HB.out | apply pw_below_drewN)) : w.heap.size ≤ gb137))
     have n7_ := Aside0.mk ((by rw [hg]; exact Nat.ne_of_lt (blk_lt (by with_reducible repeat first | exact BK129.out | apply bN)) : gb129 ≠ gb137))
     have n8_ := Aside0.mk ((by rw [hg]; exact Nat.ne_of_gt (blk_lt (by with_reducible repeat first | exact BK129.out | apply bN)) : gb137 ≠ gb129))
     have n9_ := Aside0.mk ((by rw [hg]; exact Nat.ne_of_lt (blk_lt (by with_reducible repeat first | exact BK130.out | apply bN)) : gb130 ≠ gb137))
     have n10_ := Aside0.mk ((by rw [hg]; exact Nat.ne_of_gt (blk_lt (by with_reducible repeat first | exact BK130.out | apply bN)) : gb137 ≠ gb130))
     have n11_ := Aside0.mk ((by rw [hg]; exact Nat.ne_of_lt (blk_lt (by with_reducible repeat first | exact BK131.out | apply bN)) : gb131 ≠ gb137))
     have n12_ := Aside0.mk ((by rw [hg]; exact Nat.ne_of_gt (blk_lt (by with_reducible repeat first | exact BK131.out | apply bN)) : gb137 ≠ gb131))
     clear BK129 BK130 BK131 HB
     have BK129 := n0_
     have BK130 := n1_
     have BK131 := n2_
     have HB := n3_
     have BK137 := n4_
     have GW137 := n5_
     have GE137 := n6_
     have NB129_137 := n7_
     have NB137_129 := n8_
     have NB130_137 := n9_
     have NB137_130 := n10_
     have NB131_137 := n11_
     have NB137_131 := n12_
     clear n0_ n1_ n2_ n3_ n4_ n5_ n6_ n7_ n8_ n9_ n10_ n11_ n12_ hb hbox hg
     refine hK.out _ _ (c12 BK129.out) (fun hHeld => ?_)
     clear hK K
     refine norm_ (a' := ?_) ?_ ?_
     rotate_left
     ·show Act.put _ (some 7) _ = _
      simp only [Act.put, List.setIfInBounds_toArray, List.set_cons_zero, List.set_cons_succ, i64_w, i32_w]
      rfl
     exact norm_ (by simp only [putAll, Act.put, List.setIfInBounds_toArray, List.set_cons_zero, List.set_cons_succ]) (hCont (gb137) _ ⟨hHeld, (by with_reducible repeat first | exact BK129.out | apply bN), (by with_reducible repeat first | exact BK130.out | apply bN), (by with_reducible repeat first | exact BK131.out | apply bN), (by with_reducible repeat first | exact BK137.out | apply bN), GW137.out, GE137.out, NB129_137.out, NB137_129.out, NB130_137.out, NB137_130.out, NB131_137.out, NB137_131.out, (by repeat (first | (with_reducible first | exact HB.out | apply below_alloc | apply pw_below_drewN | apply below_drew1 | refine below_set ?_ GE129.out | refine below_set ?_ GE130.out | refine below_set ?_ GE131.out | refine below_set ?_ GE137.out) | exact HB.out))⟩)
    ·skip
     refine box_step ?hg (N := 7) ?hd (cs := #[.int .i64 0, .int .i64 0]) (t := 25) ?hr ?_; (case hd => rfl); (case hg => rfl); (case hr => first | (go_simp; done) | (go_simp; rfl))
     intro gb137 hg w23 hbox hb
     have n0_ := Aside0.mk (blk_below (by with_reducible repeat first | exact BK129.out | apply bN) hb)
     have n1_ := Aside0.mk (blk_below (by with_reducible repeat first | exact BK130.out | apply bN) hb)
     have n2_ := Aside0.mk (blk_below (by with_reducible repeat first | exact BK131.out | apply bN) hb)
     have n3_ := Aside0.mk (below_step (by with_reducible repeat first | exact HB.out | apply pw_below_drewN) hb)
     have n4_ := Aside0.mk (hbox)
     have n5_ := Aside0.mk ((by rw [hg]; exact (below_size (by with_reducible repeat first | exact HB.out | apply pw_below_drewN)) : w.heap.size ≤ gb137))
     have n6_ := Aside0.mk ((by rw [hg]; exact (below_size (by with_reducible repeat first | exact HB.out | apply pw_below_drewN)) : w.heap.size ≤ gb137))
     have n7_ := Aside0.mk ((by rw [hg]; exact Nat.ne_of_lt (blk_lt (by with_reducible repeat first | exact BK129.out | apply bN)) : gb129 ≠ gb137))
     have n8_ := Aside0.mk ((by rw [hg]; exact Nat.ne_of_gt (blk_lt (by with_reducible repeat first | exact BK129.out | apply bN)) : gb137 ≠ gb129))
     have n9_ := Aside0.mk ((by rw [hg]; exact Nat.ne_of_lt (blk_lt (by with_reducible repeat first | exact BK130.out | apply bN)) : gb130 ≠ gb137))
     have n10_ := Aside0.mk ((by rw [hg]; exact Nat.ne_of_gt (blk_lt (by with_reducible repeat first | exact BK130.out | apply bN)) : gb137 ≠ gb130))
     have n11_ := Aside0.mk ((by rw [hg]; exact Nat.ne_of_lt (blk_lt (by with_reducible repeat first | exact BK131.out | apply bN)) : gb131 ≠ gb137))
     have n12_ := Aside0.mk ((by rw [hg]; exact Nat.ne_of_gt (blk_lt (by with_reducible repeat first | exact BK131.out | apply bN)) : gb137 ≠ gb131))
     clear BK129 BK130 BK131 HB
     have BK129 := n0_
     have BK130 := n1_
     have BK131 := n2_
     have HB := n3_
     have BK137 := n4_
     have GW137 := n5_
     have GE137 := n6_
     have NB129_137 := n7_
     have NB137_129 := n8_
     have NB130_137 := n9_
     have NB137_130 := n10_
     have NB131_137 := n11_
     have NB137_131 := n12_
     clear n0_ n1_ n2_ n3_ n4_ n5_ n6_ n7_ n8_ n9_ n10_ n11_ n12_ hb hbox hg
     refine hK.out _ _ (c12 BK129.out) (fun hHeld => ?_)
     clear hK K
     refine norm_ (a' := ?_) ?_ ?_
     rotate_left
     ·show Act.put _ (some 7) _ = _
      simp only [Act.put, List.setIfInBounds_toArray, List.set_cons_zero, List.set_cons_succ, i64_w, i32_w]
      rfl
     refine one_ (i := 7) (N := some 27) #[true, true, true, true, true, true, true, true, false, true, false] rfl rfl (one_of HT_.out (by kernel_rfl)) (by decide) (fun K hK => ?_)
     refine goes_ Try.func40 (by kernel_rfl) rfl #[.int .i64 t132, .int .i64 t135] (by rfl) rfl rfl (by (try simp only [List.map_toArray, List.map_cons, List.map_nil]); first | done | rfl | (simp only [List.length_drop, List.length_take]; rfl)) ?_
     with_reducible refine (sat_Sub.calls k t132 t135 t136 _ A7.out).mono ?_
     rintro e w' ⟨rfl, ⟨nd, rfl⟩⟩
     refine ⟨_, rfl, ?_⟩
     refine hK.out _ _ (c12 BK129.out) (fun hHeld => ?_)
     clear hK K
     refine norm_ (a' := ?_) ?_ ?_
     rotate_left
     ·show Act.put _ (some 27) _ = _
      simp only [Act.put, List.setIfInBounds_toArray, List.set_cons_zero, List.set_cons_succ, i64_w, i32_w]
      rfl
     refine pure_ (i := 8) (N := some 28) (v := ?_) (a' := ?_) #[true, true, true, true, true, true, true, true, true, true, false] rfl rfl (any_of HT_.out (by kernel_rfl)) (fun _ _ _ h => h) (Or.inl ⟨by rfl, ?_⟩) ?_ ?_
     rotate_left
     ·intro w'
      go_simp
      with_reducible rfl
     rotate_left
     ·simp only [Act.put, List.setIfInBounds_toArray, List.set_cons_zero, List.set_cons_succ, i64_w, i32_w]
      rfl
     exact norm_ (by simp only [putAll, Act.put, List.setIfInBounds_toArray, List.set_cons_zero, List.set_cons_succ]) (hCont (gb137) _ ⟨hHeld, (by with_reducible repeat first | exact BK129.out | apply bN), (by with_reducible repeat first | exact BK130.out | apply bN), (by with_reducible repeat first | exact BK131.out | apply bN), (by with_reducible repeat first | exact BK137.out | apply bN), GW137.out, GE137.out, NB129_137.out, NB137_129.out, NB130_137.out, NB137_130.out, NB131_137.out, NB137_131.out, (by repeat (first | (with_reducible first | exact HB.out | apply below_alloc | apply pw_below_drewN | apply below_drew1 | refine below_set ?_ GE129.out | refine below_set ?_ GE130.out | refine below_set ?_ GE131.out | refine below_set ?_ GE137.out) | exact HB.out))⟩)
   ·skip
    refine box_step ?hg (N := 7) ?hd (cs := #[.int .i64 0, .int .i64 0]) (t := 25) ?hr ?_; (case hd => rfl); (case hg => rfl); (case hr => first | (go_simp; done) | (go_simp; rfl))
    intro gb137 hg w22 hbox hb
    have n0_ := Aside0.mk (blk_below (by with_reducible repeat first | exact BK129.out | apply bN) hb)
    have n1_ := Aside0.mk (blk_below (by with_reducible repeat first | exact BK130.out | apply bN) hb)
    have n2_ := Aside0.mk (blk_below (by with_reducible repeat first | exact BK131.out | apply bN) hb)
    have n3_ := Aside0.mk (below_step (by with_reducible repeat first | exact HB.out | apply pw_below_drewN) hb)
    have n4_ := Aside0.mk (hbox)
    have n5_ := Aside0.mk ((by rw [hg]; exact (below_size (by with_reducible repeat first | exact HB.out | apply pw_below_drewN)) : w.heap.size ≤ gb137))
    have n6_ := Aside0.mk ((by rw [hg]; exact (below_size (by with_reducible repeat first | exact HB.out | apply pw_below_drewN)) : w.heap.size ≤ gb137))
    have n7_ := Aside0.mk ((by rw [hg]; exact Nat.ne_of_lt (blk_lt (by with_reducible repeat first | exact BK129.out | apply bN)) : gb129 ≠ gb137))
    have n8_ := Aside0.mk ((by rw [hg]; exact Nat.ne_of_gt (blk_lt (by with_reducible repeat first | exact BK129.out | apply bN)) : gb137 ≠ gb129))
    have n9_ := Aside0.mk ((by rw [hg]; exact Nat.ne_of_lt (blk_lt (by with_reducible repeat first | exact BK130.out | apply bN)) : gb130 ≠ gb137))
    have n10_ := Aside0.mk ((by rw [hg]; exact Nat.ne_of_gt (blk_lt (by with_reducible repeat first | exact BK130.out | apply bN)) : gb137 ≠ gb130))
    have n11_ := Aside0.mk ((by rw [hg]; exact Nat.ne_of_lt (blk_lt (by with_reducible repeat first | exact BK131.out | apply bN)) : gb131 ≠ gb137))
    have n12_ := Aside0.mk ((by rw [hg]; exact Nat.ne_of_gt (blk_lt (by with_reducible repeat first | exact BK131.out | apply bN)) : gb137 ≠ gb131))
    clear BK129 BK130 BK131 HB
    have BK129 := n0_
    have BK130 := n1_
    have BK131 := n2_
    have HB := n3_
    have BK137 := n4_
    have GW137 := n5_
    have GE137 := n6_
    have NB129_137 := n7_
    have NB137_129 := n8_
    have NB130_137 := n9_
    have NB137_130 := n10_
    have NB131_137 := n11_
    have NB137_131 := n12_
    clear n0_ n1_ n2_ n3_ n4_ n5_ n6_ n7_ n8_ n9_ n10_ n11_ n12_ hb hbox hg
    refine hK.out _ _ (c12 BK129.out) (fun hHeld => ?_)
    clear hK K
    refine norm_ (a' := ?_) ?_ ?_
    rotate_left
    ·show Act.put _ (some 7) _ = _
     simp only [Act.put, List.setIfInBounds_toArray, List.set_cons_zero, List.set_cons_succ, i64_w, i32_w]
     rfl
    refine one_ (i := 6) (N := some 26) #[true, true, true, true, true, true, true, false, false, true, false] rfl rfl (one_of HT_.out (by kernel_rfl)) (by decide) (fun K hK => ?_)
    refine goes_ Try.func53 (by kernel_rfl) rfl #[.agg #[.int .i64 a0_0, .int .i64 a0_1, .int .i64 a0_2, .int .i64 a0_3, .int .i64 a0_4, .int .i64 a0_5, .int .i64 a0_6, .int .i64 a0_7, .int .i64 a0_8, .int .i64 a0_9, .int .i64 a0_10, .int .i64 a0_11]] (by rfl) rfl rfl (by (try simp only [List.map_toArray, List.map_cons, List.map_nil]); first | done | rfl | (simp only [List.length_drop, List.length_take]; rfl)) ?_
    with_reducible refine (probe_least.calls k a0_0 a0_1 a0_2 a0_3 a0_4 a0_5 a0_6 a0_7 a0_8 a0_9 a0_10 a0_11 t135 _ A6.out).mono ?_
    rintro e w23 ⟨rfl, hb⟩
    refine ⟨_, rfl, ?_⟩
    have n0_ := Aside0.mk (blk_below (by with_reducible repeat first | exact BK129.out | apply bN) hb)
    have n1_ := Aside0.mk (blk_below (by with_reducible repeat first | exact BK130.out | apply bN) hb)
    have n2_ := Aside0.mk (blk_below (by with_reducible repeat first | exact BK131.out | apply bN) hb)
    have n3_ := Aside0.mk (blk_below (by with_reducible repeat first | exact BK137.out | apply bN) hb)
    have n4_ := Aside0.mk (below_step (by with_reducible repeat first | exact HB.out | apply pw_below_drewN) hb)
    clear BK129 BK130 BK131 BK137 HB
    have BK129 := n0_
    have BK130 := n1_
    have BK131 := n2_
    have BK137 := n3_
    have HB := n4_
    clear n0_ n1_ n2_ n3_ n4_
    (try clear hb)
    (try clear hb2)
    (try clear hk)
    (try clear hi)
    refine hK.out _ _ (c12 BK129.out) (fun hHeld => ?_)
    clear hK K
    refine norm_ (a' := ?_) ?_ ?_
    rotate_left
    ·show Act.put _ (some 26) _ = _
     simp only [Act.put, List.setIfInBounds_toArray, List.set_cons_zero, List.set_cons_succ, i64_w, i32_w]
     rfl
    refine one_ (i := 7) (N := some 27) #[true, true, true, true, true, true, true, true, false, true, false] rfl rfl (one_of HT_.out (by kernel_rfl)) (by decide) (fun K hK => ?_)
    refine goes_ Try.func40 (by kernel_rfl) rfl #[.int .i64 t132, .int .i64 t135] (by rfl) rfl rfl (by (try simp only [List.map_toArray, List.map_cons, List.map_nil]); first | done | rfl | (simp only [List.length_drop, List.length_take]; rfl)) ?_
    with_reducible refine (sat_Sub.calls k t132 t135 t136 _ A7.out).mono ?_
    rintro e w' ⟨rfl, ⟨nd, rfl⟩⟩
    refine ⟨_, rfl, ?_⟩
    refine hK.out _ _ (c12 BK129.out) (fun hHeld => ?_)
    clear hK K
    refine norm_ (a' := ?_) ?_ ?_
    rotate_left
    ·show Act.put _ (some 27) _ = _
     simp only [Act.put, List.setIfInBounds_toArray, List.set_cons_zero, List.set_cons_succ, i64_w, i32_w]
     rfl
    refine pure_ (i := 8) (N := some 28) (v := ?_) (a' := ?_) #[true, true, true, true, true, true, true, true, true, true, false] rfl rfl (any_of HT_.out (by kernel_rfl)) (fun _ _ _ h => h) (Or.inl ⟨by rfl, ?_⟩) ?_ ?_
    rotate_left
    ·intro w'
     go_simp
     with_reducible rfl
    rotate_left
    ·simp only [Act.put, List.setIfInBounds_toArray, List.set_cons_zero, List.set_cons_succ, i64_w, i32_w]
     rfl
    exact norm_ (by simp only [putAll, Act.put, List.setIfInBounds_toArray, List.set_cons_zero, List.set_cons_succ]) (hCont (gb137) _ ⟨hHeld, (by with_reducible repeat first | exact BK129.out | apply bN), (by with_reducible repeat first | exact BK130.out | apply bN), (by with_reducible repeat first | exact BK131.out | apply bN), (by with_reducible repeat first | exact BK137.out | apply bN), GW137.out, GE137.out, NB129_137.out, NB137_129.out, NB130_137.out, NB137_130.out, NB131_137.out, NB137_131.out, (by repeat (first | (with_reducible first | exact HB.out | apply below_alloc | apply pw_below_drewN | apply below_drew1 | refine below_set ?_ GE129.out | refine below_set ?_ GE130.out | refine below_set ?_ GE131.out | refine below_set ?_ GE137.out) | exact HB.out))⟩)
  ·skip
   refine box_step ?hg (N := 7) ?hd (cs := #[.int .i64 0, .int .i64 0]) (t := 25) ?hr ?_; (case hd => rfl); (case hg => rfl); (case hr => first | (go_simp; done) | (go_simp; rfl))
   intro gb137 hg w22 hbox hb
   have n0_ := Aside0.mk (blk_below (by with_reducible repeat first | exact BK129.out | apply bN) hb)
   have n1_ := Aside0.mk (blk_below (by with_reducible repeat first | exact BK130.out | apply bN) hb)
   have n2_ := Aside0.mk (blk_below (by with_reducible repeat first | exact BK131.out | apply bN) hb)
   have n3_ := Aside0.mk (below_step (by with_reducible repeat first | exact HB.out | apply pw_below_drewN) hb)
   have n4_ := Aside0.mk (hbox)
   have n5_ := Aside0.mk ((by rw [hg]; exact (below_size (by with_reducible repeat first | exact HB.out | apply pw_below_drewN)) : w.heap.size ≤ gb137))
   have n6_ := Aside0.mk ((by rw [hg]; exact (below_size (by with_reducible repeat first | exact HB.out | apply pw_below_drewN)) : w.heap.size ≤ gb137))
   have n7_ := Aside0.mk ((by rw [hg]; exact Nat.ne_of_lt (blk_lt (by with_reducible repeat first | exact BK129.out | apply bN)) : gb129 ≠ gb137))
   have n8_ := Aside0.mk ((by rw [hg]; exact Nat.ne_of_gt (blk_lt (by with_reducible repeat first | exact BK129.out | apply bN)) : gb137 ≠ gb129))
   have n9_ := Aside0.mk ((by rw [hg]; exact Nat.ne_of_lt (blk_lt (by with_reducible repeat first | exact BK130.out | apply bN)) : gb130 ≠ gb137))
   have n10_ := Aside0.mk ((by rw [hg]; exact Nat.ne_of_gt (blk_lt (by with_reducible repeat first | exact BK130.out | apply bN)) : gb137 ≠ gb130))
   have n11_ := Aside0.mk ((by rw [hg]; exact Nat.ne_of_lt (blk_lt (by with_reducible repeat first | exact BK131.out | apply bN)) : gb131 ≠ gb137))
   have n12_ := Aside0.mk ((by rw [hg]; exact Nat.ne_of_gt (blk_lt (by with_reducible repeat first | exact BK131.out | apply bN)) : gb137 ≠ gb131))
   clear BK129 BK130 BK131 HB
   have BK129 := n0_
   have BK130 := n1_
   have BK131 := n2_
   have HB := n3_
   have BK137 := n4_
   have GW137 := n5_
   have GE137 := n6_
   have NB129_137 := n7_
   have NB137_129 := n8_
   have NB130_137 := n9_
   have NB137_130 := n10_
   have NB131_137 := n11_
   have NB137_131 := n12_
   clear n0_ n1_ n2_ n3_ n4_ n5_ n6_ n7_ n8_ n9_ n10_ n11_ n12_ hb hbox hg
   refine hK.out _ _ (c12 BK129.out) (fun hHeld => ?_)
   clear hK K
   refine norm_ (a' := ?_) ?_ ?_
   rotate_left
   ·show Act.put _ (some 7) _ = _
    simp only [Act.put, List.setIfInBounds_toArray, List.set_cons_zero, List.set_cons_succ, i64_w, i32_w]
    rfl
   refine one_ (i := 3) (N := some 23) #[true, true, true, true, true, true, false, false, false, true, false] rfl rfl (one_of HT_.out (by kernel_rfl)) (by decide) (fun K hK => ?_)
   refine goes_ Try.func40 (by kernel_rfl) rfl #[.int .i64 t132, .int .i64 a0_5] (by rfl) rfl rfl (by (try simp only [List.map_toArray, List.map_cons, List.map_nil]); first | done | rfl | (simp only [List.length_drop, List.length_take]; rfl)) ?_
   with_reducible refine (sat_Sub.calls k t132 a0_5 t134 _ A5.out).mono ?_
   rintro e w' ⟨rfl, ⟨nd, rfl⟩⟩
   refine ⟨_, rfl, ?_⟩
   refine hK.out _ _ (c12 BK129.out) (fun hHeld => ?_)
   clear hK K
   refine norm_ (a' := ?_) ?_ ?_
   rotate_left
   ·show Act.put _ (some 23) _ = _
    simp only [Act.put, List.setIfInBounds_toArray, List.set_cons_zero, List.set_cons_succ, i64_w, i32_w]
    rfl
   refine one_ (i := 6) (N := some 26) #[true, true, true, true, true, true, true, false, false, true, false] rfl rfl (one_of HT_.out (by kernel_rfl)) (by decide) (fun K hK => ?_)
   refine goes_ Try.func53 (by kernel_rfl) rfl #[.agg #[.int .i64 a0_0, .int .i64 a0_1, .int .i64 a0_2, .int .i64 a0_3, .int .i64 a0_4, .int .i64 a0_5, .int .i64 a0_6, .int .i64 a0_7, .int .i64 a0_8, .int .i64 a0_9, .int .i64 a0_10, .int .i64 a0_11]] (by rfl) rfl rfl (by (try simp only [List.map_toArray, List.map_cons, List.map_nil]); first | done | rfl | (simp only [List.length_drop, List.length_take]; rfl)) ?_
   with_reducible refine (probe_least.calls k a0_0 a0_1 a0_2 a0_3 a0_4 a0_5 a0_6 a0_7 a0_8 a0_9 a0_10 a0_11 t135 _ A6.out).mono ?_
   rintro e w23 ⟨rfl, hb⟩
   refine ⟨_, rfl, ?_⟩
   have n0_ := Aside0.mk (blk_below (by with_reducible repeat first | exact BK129.out | apply bN) hb)
   have n1_ := Aside0.mk (blk_below (by with_reducible repeat first | exact BK130.out | apply bN) hb)
   have n2_ := Aside0.mk (blk_below (by with_reducible repeat first | exact BK131.out | apply bN) hb)
   have n3_ := Aside0.mk (blk_below (by with_reducible repeat first | exact BK137.out | apply bN) hb)
   have n4_ := Aside0.mk (below_step (by with_reducible repeat first | exact HB.out | apply pw_below_drewN) hb)
   clear BK129 BK130 BK131 BK137 HB
   have BK129 := n0_
   have BK130 := n1_
   have BK131 := n2_
   have BK137 := n3_
   have HB := n4_
   clear n0_ n1_ n2_ n3_ n4_
   (try clear hb)
   (try clear hb2)
   (try clear hk)
   (try clear hi)
   refine hK.out _ _ (c12 BK129.out) (fun hHeld => ?_)
   clear hK K
   refine norm_ (a' := ?_) ?_ ?_
   rotate_left
   ·show Act.put _ (some 26) _ = _
    simp only [Act.put, List.setIfInBounds_toArray, List.set_cons_zero, List.set_cons_succ, i64_w, i32_w]
    rfl
   refine one_ (i := 7) (N := some 27) #[true, true, true, true, true, true, true, true, false, true, false] rfl rfl (one_of HT_.out (by kernel_rfl)) (by decide) (fun K hK => ?_)
   refine goes_ Try.func40 (by kernel_rfl) rfl #[.int .i64 t132, .int .i64 t135] (by rfl) rfl rfl (by (try simp only [List.map_toArray, List.map_cons, List.map_nil]); first | done | rfl | (simp only [List.length_drop, List.length_take]; rfl)) ?_
   with_reducible refine (sat_Sub.calls k t132 t135 t136 _ A7.out).mono ?_
   rintro e w' ⟨rfl, ⟨nd, rfl⟩⟩
   refine ⟨_, rfl, ?_⟩
   refine hK.out _ _ (c12 BK129.out) (fun hHeld => ?_)
   clear hK K
   refine norm_ (a' := ?_) ?_ ?_
   rotate_left
   ·show Act.put _ (some 27) _ = _
    simp only [Act.put, List.setIfInBounds_toArray, List.set_cons_zero, List.set_cons_succ, i64_w, i32_w]
    rfl
   refine pure_ (i := 8) (N := some 28) (v := ?_) (a' := ?_) #[true, true, true, true, true, true, true, true, true, true, false] rfl rfl (any_of HT_.out (by kernel_rfl)) (fun _ _ _ h => h) (Or.inl ⟨by rfl, ?_⟩) ?_ ?_
   rotate_left
   ·intro w'
    go_simp
    with_reducible rfl
   rotate_left
   ·simp only [Act.put, List.setIfInBounds_toArray, List.set_cons_zero, List.set_cons_succ, i64_w, i32_w]
    rfl
   exact norm_ (by simp only [putAll, Act.put, List.setIfInBounds_toArray, List.set_cons_zero, List.set_cons_succ]) (hCont (gb137) _ ⟨hHeld, (by with_reducible repeat first | exact BK129.out | apply bN), (by with_reducible repeat first | exact BK130.out | apply bN), (by with_reducible repeat first | exact BK131.out | apply bN), (by with_reducible repeat first | exact BK137.out | apply bN), GW137.out, GE137.out, NB129_137.out, NB137_129.out, NB130_137.out, NB137_130.out, NB131_137.out, NB137_131.out, (by repeat (first | (with_reducible first | exact HB.out | apply below_alloc | apply pw_below_drewN | apply below_drew1 | refine below_set ?_ GE129.out | refine below_set ?_ GE130.out | refine below_set ?_ GE131.out | refine below_set ?_ GE137.out) | exact HB.out))⟩)
 rintro gb137 w24 ⟨hS_, h0_, h1_, h2_, h3_, h4_, h5_, h6_, h7_, h8_, h9_, h10_, h11_, h12_⟩
 have n0_ : Aside0 (w24.heap[gb129]? = some (.cells #[.int .i64 a0_0, .int .i64 a0_1, .int .i64 a0_2, .int .i64 a0_3, .int .i64 a0_4, .int .i64 a0_5, .int .i64 a0_6, .int .i64 a0_7, .int .i64 a0_8, .int .i64 a0_9, .int .i64 a0_10, .int .i64 a0_11] 23 (0, 0))) := ⟨h0_⟩
 have n1_ : Aside0 (w24.heap[gb130]? = some (.cells #[.int .i64 a1_0, .int .i64 a1_1, .int .i64 a1_2, .int .i64 a1_3] 57 (0, 0))) := ⟨h1_⟩
 have n2_ : Aside0 (w24.heap[gb131]? = some (.cells #[.int .i64 0, .int .i64 0] 25 (0, 0))) := ⟨h2_⟩
 have n3_ : Aside0 (w24.heap[gb137]? = some (.cells #[.int .i64 0, .int .i64 0] 25 (0, 0))) := ⟨h3_⟩
 have n4_ : Aside0 (w.heap.size ≤ gb137) := ⟨h4_⟩
 have n5_ : Aside0 (w.heap.size ≤ gb137) := ⟨h5_⟩
 have n6_ : Aside0 (gb129 ≠ gb137) := ⟨h6_⟩
 have n7_ : Aside0 (gb137 ≠ gb129) := ⟨h7_⟩
 have n8_ : Aside0 (gb130 ≠ gb137) := ⟨h8_⟩
 have n9_ : Aside0 (gb137 ≠ gb130) := ⟨h9_⟩
 have n10_ : Aside0 (gb131 ≠ gb137) := ⟨h10_⟩
 have n11_ : Aside0 (gb137 ≠ gb131) := ⟨h11_⟩
 have n12_ : Aside0 (Below w.heap.size w w24) := ⟨h12_⟩
 clear BK129 BK130 BK131 HB h0_ h1_ h2_ h3_ h4_ h5_ h6_ h7_ h8_ h9_ h10_ h11_ h12_
 have BK129 := n0_
 have BK130 := n1_
 have BK131 := n2_
 have BK137 := n3_
 have GW137 := n4_
 have GE137 := n5_
 have NB129_137 := n6_
 have NB137_129 := n7_
 have NB130_137 := n8_
 have NB137_130 := n9_
 have NB131_137 := n10_
 have NB137_131 := n11_
 have HB := n12_
 clear n0_ n1_ n2_ n3_ n4_ n5_ n6_ n7_ n8_ n9_ n10_ n11_ n12_
 have hHeld := hS_
 try dsimp only at hHeld
 refine norm_ (a' := ?_) ?_ ?_
 rotate_left
 ·simp only [putAll, Act.put, List.setIfInBounds_toArray, List.set_cons_zero, List.set_cons_succ]
  rfl
 refine one_ (i := 10) (N := none) #[true, true, true, true, true, true, true, true, true, true, true] rfl rfl (one_of HT_.out (by kernel_rfl)) (by decide) (fun K hK => ?_)
 have hs25 : w24.cell? ⟨gb137, 0, none⟩ = some (.int .i64 0) := (blk_cell BK137.out 0).trans rfl
 have hfs25 := blk_frozen BK137.out 0
 have hns25_0 := NB129_137.out
 have hns25_1 := NB130_137.out
 have hns25_2 := NB131_137.out
 have hms25_0 := NB137_129.out
 have hms25_1 := NB137_130.out
 have hms25_2 := NB137_131.out
 have hs26 : w24.cell? ⟨gb137, 1, none⟩ = some (.int .i64 0) := (blk_cell BK137.out 1).trans rfl
 have hfs26 := blk_frozen BK137.out 1
 have hns26_0 := NB129_137.out
 have hns26_1 := NB130_137.out
 have hns26_2 := NB131_137.out
 have hms26_0 := NB137_129.out
 have hms26_1 := NB137_130.out
 have hms26_2 := NB137_131.out
 refine skip_ (w1 := ?_) (by rfl) rfl ?_ ?_
 rotate_left
 ·go_simp
  rfl
 refine hK.out _ _ ⟨((cell_far (p := ⟨gb137, _, none⟩) NB129_137.out _).trans (((cell_far (p := ⟨gb137, _, none⟩) NB129_137.out _).trans (hHeld.1)))), ((cell_far (p := ⟨gb137, _, none⟩) NB129_137.out _).trans (((cell_far (p := ⟨gb137, _, none⟩) NB129_137.out _).trans (hHeld.2.1)))), ((cell_far (p := ⟨gb137, _, none⟩) NB129_137.out _).trans (((cell_far (p := ⟨gb137, _, none⟩) NB129_137.out _).trans (hHeld.2.2.1)))), ((cell_far (p := ⟨gb137, _, none⟩) NB129_137.out _).trans (((cell_far (p := ⟨gb137, _, none⟩) NB129_137.out _).trans (hHeld.2.2.2.1)))), ((cell_far (p := ⟨gb137, _, none⟩) NB129_137.out _).trans (((cell_far (p := ⟨gb137, _, none⟩) NB129_137.out _).trans (hHeld.2.2.2.2.1)))), ((cell_far (p := ⟨gb137, _, none⟩) NB129_137.out _).trans (((cell_far (p := ⟨gb137, _, none⟩) NB129_137.out _).trans (hHeld.2.2.2.2.2.1)))), ((cell_far (p := ⟨gb137, _, none⟩) NB129_137.out _).trans (((cell_far (p := ⟨gb137, _, none⟩) NB129_137.out _).trans (hHeld.2.2.2.2.2.2.1)))), ((cell_far (p := ⟨gb137, _, none⟩) NB129_137.out _).trans (((cell_far (p := ⟨gb137, _, none⟩) NB129_137.out _).trans (hHeld.2.2.2.2.2.2.2.1)))), ((cell_far (p := ⟨gb137, _, none⟩) NB129_137.out _).trans (((cell_far (p := ⟨gb137, _, none⟩) NB129_137.out _).trans (hHeld.2.2.2.2.2.2.2.2.1)))), ((cell_far (p := ⟨gb137, _, none⟩) NB129_137.out _).trans (((cell_far (p := ⟨gb137, _, none⟩) NB129_137.out _).trans (hHeld.2.2.2.2.2.2.2.2.2.1)))), ((cell_far (p := ⟨gb137, _, none⟩) NB129_137.out _).trans (((cell_far (p := ⟨gb137, _, none⟩) NB129_137.out _).trans (hHeld.2.2.2.2.2.2.2.2.2.2.1)))), ((cell_far (p := ⟨gb137, _, none⟩) NB129_137.out _).trans (((cell_far (p := ⟨gb137, _, none⟩) NB129_137.out _).trans (hHeld.2.2.2.2.2.2.2.2.2.2.2))))⟩ (fun hHeld => ?_)
 clear hK K
 refine done_ (done_of HT_.out (by kernel_rfl)) ?_
 try go_wp2
 have n0_ : Aside0 (((w24.setCell ⟨gb137, 0, none⟩ (.int .i64 t134)).setCell ⟨gb137, 1, none⟩ (.int .i64 t136)).heap[gb129]? = some (.cells #[.int .i64 a0_0, .int .i64 a0_1, .int .i64 a0_2, .int .i64 a0_3, .int .i64 a0_4, .int .i64 a0_5, .int .i64 a0_6, .int .i64 a0_7, .int .i64 a0_8, .int .i64 a0_9, .int .i64 a0_10, .int .i64 a0_11] 23 (0, 0))) := ⟨by (with_reducible repeat (first | refine blk_drewN ?_ _ | refine blk_drew ?_ | refine blk_alloc ?_ _)); refine blk_far ?_ NB129_137.out _; (with_reducible repeat (first | refine blk_drewN ?_ _ | refine blk_drew ?_ | refine blk_alloc ?_ _)); refine blk_far ?_ NB129_137.out _; (with_reducible repeat (first | refine blk_drewN ?_ _ | refine blk_drew ?_ | refine blk_alloc ?_ _)); exact BK129.out⟩
 have n1_ : Aside0 (((w24.setCell ⟨gb137, 0, none⟩ (.int .i64 t134)).setCell ⟨gb137, 1, none⟩ (.int .i64 t136)).heap[gb130]? = some (.cells #[.int .i64 a1_0, .int .i64 a1_1, .int .i64 a1_2, .int .i64 a1_3] 57 (0, 0))) := ⟨by (with_reducible repeat (first | refine blk_drewN ?_ _ | refine blk_drew ?_ | refine blk_alloc ?_ _)); refine blk_far ?_ NB130_137.out _; (with_reducible repeat (first | refine blk_drewN ?_ _ | refine blk_drew ?_ | refine blk_alloc ?_ _)); refine blk_far ?_ NB130_137.out _; (with_reducible repeat (first | refine blk_drewN ?_ _ | refine blk_drew ?_ | refine blk_alloc ?_ _)); exact BK130.out⟩
 have n2_ : Aside0 (((w24.setCell ⟨gb137, 0, none⟩ (.int .i64 t134)).setCell ⟨gb137, 1, none⟩ (.int .i64 t136)).heap[gb131]? = some (.cells #[.int .i64 0, .int .i64 0] 25 (0, 0))) := ⟨by (with_reducible repeat (first | refine blk_drewN ?_ _ | refine blk_drew ?_ | refine blk_alloc ?_ _)); refine blk_far ?_ NB131_137.out _; (with_reducible repeat (first | refine blk_drewN ?_ _ | refine blk_drew ?_ | refine blk_alloc ?_ _)); refine blk_far ?_ NB131_137.out _; (with_reducible repeat (first | refine blk_drewN ?_ _ | refine blk_drew ?_ | refine blk_alloc ?_ _)); exact BK131.out⟩
 have n3_ : Aside0 (((w24.setCell ⟨gb137, 0, none⟩ (.int .i64 t134)).setCell ⟨gb137, 1, none⟩ (.int .i64 t136)).heap[gb137]? = some (.cells #[.int .i64 t134, .int .i64 t136] 25 (0, 0))) := ⟨by (with_reducible repeat (first | refine blk_drewN ?_ _ | refine blk_drew ?_ | refine blk_alloc ?_ _)); refine blk_put (cs := #[.int .i64 t134, .int .i64 0]) ?_ 1 _ rfl; (with_reducible repeat (first | refine blk_drewN ?_ _ | refine blk_drew ?_ | refine blk_alloc ?_ _)); refine blk_put (cs := #[.int .i64 0, .int .i64 0]) ?_ 0 _ rfl; (with_reducible repeat (first | refine blk_drewN ?_ _ | refine blk_drew ?_ | refine blk_alloc ?_ _)); exact BK137.out⟩
 have n4_ : Aside0 (Below w.heap.size w ((w24.setCell ⟨gb137, 0, none⟩ (.int .i64 t134)).setCell ⟨gb137, 1, none⟩ (.int .i64 t136))) := ⟨by repeat (first | (with_reducible first | exact HB.out | apply below_alloc | apply pw_below_drewN | apply below_drew1 | refine below_set ?_ GE129.out | refine below_set ?_ GE130.out | refine below_set ?_ GE131.out | refine below_set ?_ GE137.out) | exact HB.out)⟩
 (try clear BK129)
 (try clear BK130)
 (try clear BK131)
 (try clear BK137)
 (try clear HB)
 generalize ((w24.setCell ⟨gb137, 0, none⟩ (.int .i64 t134)).setCell ⟨gb137, 1, none⟩ (.int .i64 t136)) = w27 at n0_ n1_ n2_ n3_ n4_ ⊢
 have BK129 := n0_
 have BK130 := n1_
 have BK131 := n2_
 have BK137 := n3_
 have HB := n4_
 clear n0_ n1_ n2_ n3_ n4_
 have n0_ := Aside0.mk (blk_drew BK129.out)
 have n1_ := Aside0.mk (blk_drew BK130.out)
 have n2_ := Aside0.mk (blk_drew BK131.out)
 have n3_ := Aside0.mk (blk_drew BK137.out)
 have n4_ := Aside0.mk (below_drew1 HB.out)
 clear BK129 BK130 BK131 BK137 HB
 have BK129 := n0_
 have BK130 := n1_
 have BK131 := n2_
 have BK137 := n3_
 have HB := n4_
 clear n0_ n1_ n2_ n3_ n4_
 refine start_ (n := 13) (S := fun w' => w'.cell? ⟨gb129, 0, none⟩ = some (.int .i64 a0_0) ∧ w'.cell? ⟨gb129, 1, none⟩ = some (.int .i64 a0_1) ∧ w'.cell? ⟨gb129, 2, none⟩ = some (.int .i64 a0_2) ∧ w'.cell? ⟨gb129, 3, none⟩ = some (.int .i64 a0_3) ∧ w'.cell? ⟨gb129, 4, none⟩ = some (.int .i64 a0_4) ∧ w'.cell? ⟨gb129, 5, none⟩ = some (.int .i64 a0_5) ∧ w'.cell? ⟨gb129, 6, none⟩ = some (.int .i64 a0_6) ∧ w'.cell? ⟨gb129, 7, none⟩ = some (.int .i64 a0_7) ∧ w'.cell? ⟨gb129, 8, none⟩ = some (.int .i64 a0_8) ∧ w'.cell? ⟨gb129, 9, none⟩ = some (.int .i64 a0_9) ∧ w'.cell? ⟨gb129, 10, none⟩ = some (.int .i64 a0_10) ∧ w'.cell? ⟨gb129, 11, none⟩ = some (.int .i64 a0_11)) (ds := []) #[false, false, false, false, false, false, false, false, false, false, false, false, false] (by kernel_rfl) rfl rfl (c12 BK129.out) (fun hHeld => ?_); refine with_tabW probe_Ahead.tab3 probe_Ahead.bits3 (fun HT_ HW_ => ?_)
 generalize w27.drew = w28 at BK129 BK130 BK131 BK137 HB hHeld ⊢
 refine pure_ (i := 0) (N := some 29) (v := ?_) (a' := ?_) #[true, false, false, false, false, false, false, false, false, false, false, false, false] rfl rfl (any_of HT_.out (by kernel_rfl)) (fun _ _ _ h => h) (Or.inl ⟨by rfl, ?_⟩) ?_ ?_
 rotate_left
 ·intro w'
  go_simp
  with_reducible rfl
 rotate_left
 ·simp only [Act.put, List.setIfInBounds_toArray, List.set_cons_zero, List.set_cons_succ, i64_w, i32_w]
  rfl
 refine pure_ (i := 5) (N := some 34) (v := ?_) (a' := ?_) #[true, false, false, false, false, true, false, false, false, false, false, false, false] rfl rfl (any_of HT_.out (by kernel_rfl)) (fun _ _ _ h => h) (Or.inl ⟨by rfl, ?_⟩) ?_ ?_
 rotate_left
 ·intro w'
  go_simp
  with_reducible rfl
 rotate_left
 ·simp only [Act.put, List.setIfInBounds_toArray, List.set_cons_zero, List.set_cons_succ, i64_w, i32_w]
  rfl
 refine pure_ (i := 6) (N := some 35) (v := ?_) (a' := ?_) #[true, false, false, false, false, true, true, false, false, false, false, false, false] rfl rfl (any_of HT_.out (by kernel_rfl)) (fun _ _ _ h => h) (Or.inl ⟨by rfl, ?_⟩) ?_ ?_
 rotate_left
 ·intro w'
  go_simp
  with_reducible rfl
 rotate_left
 ·simp only [Act.put, List.setIfInBounds_toArray, List.set_cons_zero, List.set_cons_succ, i64_w, i32_w]
  rfl
 refine take_ (i := 1) (N := some 30) (v := ?_) (a' := ?_) #[true, true, false, false, false, true, true, false, false, false, false, false, false] rfl rfl (take_ofW HT_.out HW_.out (by kernel_rfl)) (fun _ _ _ h => h) (Or.inl ⟨by rfl, ?_⟩) hHeld ?_ ?_
 rotate_left
 ·rintro w' ⟨s0, s1, s2, s3, s4, s5, s6, s7, s8, s9, s10, s11⟩
  go_simp
  with_reducible rfl
 rotate_left
 ·simp only [Act.put, List.setIfInBounds_toArray, List.set_cons_zero, List.set_cons_succ, i64_w, i32_w]
  rfl
 refine take_ (i := 7) (N := some 36) (v := ?_) (a' := ?_) #[true, true, false, false, false, true, true, true, false, false, false, false, false] rfl rfl (take_ofW HT_.out HW_.out (by kernel_rfl)) (fun _ _ _ h => h) (Or.inl ⟨by rfl, ?_⟩) hHeld ?_ ?_
 rotate_left
 ·rintro w' ⟨s0, s1, s2, s3, s4, s5, s6, s7, s8, s9, s10, s11⟩
  go_simp
  with_reducible rfl
 rotate_left
 ·simp only [Act.put, List.setIfInBounds_toArray, List.set_cons_zero, List.set_cons_succ, i64_w, i32_w]
  rfl
 refine join_ (σ := Value × Value × Nat) 1 #[true, true, true, true, true, true, true, true, true, true, true, true, false] (fun s_ => [(31, .int .i64 t135), (32, s_.1), (33, .int .i64 t142), (37, s_.2.1), (38, .int .i64 t146), (8, .pointer (some ⟨s_.2.2, 0, none⟩)), (39, .agg #[.int .i64 t142, .int .i64 t146])]) (fun s_ w' => (w'.cell? ⟨gb129, 0, none⟩ = some (.int .i64 a0_0) ∧ w'.cell? ⟨gb129, 1, none⟩ = some (.int .i64 a0_1) ∧ w'.cell? ⟨gb129, 2, none⟩ = some (.int .i64 a0_2) ∧ w'.cell? ⟨gb129, 3, none⟩ = some (.int .i64 a0_3) ∧ w'.cell? ⟨gb129, 4, none⟩ = some (.int .i64 a0_4) ∧ w'.cell? ⟨gb129, 5, none⟩ = some (.int .i64 a0_5) ∧ w'.cell? ⟨gb129, 6, none⟩ = some (.int .i64 a0_6) ∧ w'.cell? ⟨gb129, 7, none⟩ = some (.int .i64 a0_7) ∧ w'.cell? ⟨gb129, 8, none⟩ = some (.int .i64 a0_8) ∧ w'.cell? ⟨gb129, 9, none⟩ = some (.int .i64 a0_9) ∧ w'.cell? ⟨gb129, 10, none⟩ = some (.int .i64 a0_10) ∧ w'.cell? ⟨gb129, 11, none⟩ = some (.int .i64 a0_11)) ∧ (Kd.R (Kd.int .i64) 3 w' w.heap.size (fun k_ => some k_ ≠ (s_.2.1 : Value).ownBlock) s_.1 y139) ∧ (Kd.R (Kd.int .i64) 3 w' w.heap.size (fun k_ => some k_ ≠ (s_.1 : Value).ownBlock) s_.2.1 y143) ∧ (w'.heap[gb129]? = some (.cells #[.int .i64 a0_0, .int .i64 a0_1, .int .i64 a0_2, .int .i64 a0_3, .int .i64 a0_4, .int .i64 a0_5, .int .i64 a0_6, .int .i64 a0_7, .int .i64 a0_8, .int .i64 a0_9, .int .i64 a0_10, .int .i64 a0_11] 23 (0, 0))) ∧ (w'.heap[gb130]? = some (.cells #[.int .i64 a1_0, .int .i64 a1_1, .int .i64 a1_2, .int .i64 a1_3] 57 (0, 0))) ∧ (w'.heap[gb131]? = some (.cells #[.int .i64 0, .int .i64 0] 25 (0, 0))) ∧ (w'.heap[gb137]? = some (.cells #[.int .i64 t134, .int .i64 t136] 25 (0, 0))) ∧ (w'.heap[s_.2.2]? = some (.cells #[.int .i64 0, .int .i64 0] 25 (0, 0))) ∧ (w.heap.size ≤ s_.2.2) ∧ (w.heap.size ≤ s_.2.2) ∧ (gb129 ≠ s_.2.2) ∧ (s_.2.2 ≠ gb129) ∧ (gb130 ≠ s_.2.2) ∧ (s_.2.2 ≠ gb130) ∧ (gb131 ≠ s_.2.2) ∧ (s_.2.2 ≠ gb131) ∧ (gb137 ≠ s_.2.2) ∧ (s_.2.2 ≠ gb137) ∧ (Below w.heap.size w w')) ?_ ?_
 rotate_left
 ·intro hJ2_3_4_8_9_11
  refine join_ (σ := Value × Value) 2 #[true, true, true, true, true, true, true, true, true, true, true, false, false] (fun s_ => [(31, .int .i64 t135), (32, s_.1), (33, .int .i64 t142), (37, s_.2), (38, .int .i64 t146), (39, .agg #[.int .i64 t142, .int .i64 t146])]) (fun s_ w' => (w'.cell? ⟨gb129, 0, none⟩ = some (.int .i64 a0_0) ∧ w'.cell? ⟨gb129, 1, none⟩ = some (.int .i64 a0_1) ∧ w'.cell? ⟨gb129, 2, none⟩ = some (.int .i64 a0_2) ∧ w'.cell? ⟨gb129, 3, none⟩ = some (.int .i64 a0_3) ∧ w'.cell? ⟨gb129, 4, none⟩ = some (.int .i64 a0_4) ∧ w'.cell? ⟨gb129, 5, none⟩ = some (.int .i64 a0_5) ∧ w'.cell? ⟨gb129, 6, none⟩ = some (.int .i64 a0_6) ∧ w'.cell? ⟨gb129, 7, none⟩ = some (.int .i64 a0_7) ∧ w'.cell? ⟨gb129, 8, none⟩ = some (.int .i64 a0_8) ∧ w'.cell? ⟨gb129, 9, none⟩ = some (.int .i64 a0_9) ∧ w'.cell? ⟨gb129, 10, none⟩ = some (.int .i64 a0_10) ∧ w'.cell? ⟨gb129, 11, none⟩ = some (.int .i64 a0_11)) ∧ (Kd.R (Kd.int .i64) 3 w' w.heap.size (fun k_ => some k_ ≠ (s_.2 : Value).ownBlock) s_.1 y139) ∧ (Kd.R (Kd.int .i64) 3 w' w.heap.size (fun k_ => some k_ ≠ (s_.1 : Value).ownBlock) s_.2 y143) ∧ (w'.heap[gb129]? = some (.cells #[.int .i64 a0_0, .int .i64 a0_1, .int .i64 a0_2, .int .i64 a0_3, .int .i64 a0_4, .int .i64 a0_5, .int .i64 a0_6, .int .i64 a0_7, .int .i64 a0_8, .int .i64 a0_9, .int .i64 a0_10, .int .i64 a0_11] 23 (0, 0))) ∧ (w'.heap[gb130]? = some (.cells #[.int .i64 a1_0, .int .i64 a1_1, .int .i64 a1_2, .int .i64 a1_3] 57 (0, 0))) ∧ (w'.heap[gb131]? = some (.cells #[.int .i64 0, .int .i64 0] 25 (0, 0))) ∧ (w'.heap[gb137]? = some (.cells #[.int .i64 t134, .int .i64 t136] 25 (0, 0))) ∧ (Below w.heap.size w w')) ?_ ?_
  rotate_left
  ·intro hJ2_3_4_8_9
   refine join_ (σ := Value × Value × Nat) 3 #[true, true, true, true, true, true, true, true, true, false, false, true, false] (fun s_ => [(31, .int .i64 t135), (32, s_.1), (33, .int .i64 t142), (37, s_.2.1), (8, .pointer (some ⟨s_.2.2, 0, none⟩))]) (fun s_ w' => (w'.cell? ⟨gb129, 0, none⟩ = some (.int .i64 a0_0) ∧ w'.cell? ⟨gb129, 1, none⟩ = some (.int .i64 a0_1) ∧ w'.cell? ⟨gb129, 2, none⟩ = some (.int .i64 a0_2) ∧ w'.cell? ⟨gb129, 3, none⟩ = some (.int .i64 a0_3) ∧ w'.cell? ⟨gb129, 4, none⟩ = some (.int .i64 a0_4) ∧ w'.cell? ⟨gb129, 5, none⟩ = some (.int .i64 a0_5) ∧ w'.cell? ⟨gb129, 6, none⟩ = some (.int .i64 a0_6) ∧ w'.cell? ⟨gb129, 7, none⟩ = some (.int .i64 a0_7) ∧ w'.cell? ⟨gb129, 8, none⟩ = some (.int .i64 a0_8) ∧ w'.cell? ⟨gb129, 9, none⟩ = some (.int .i64 a0_9) ∧ w'.cell? ⟨gb129, 10, none⟩ = some (.int .i64 a0_10) ∧ w'.cell? ⟨gb129, 11, none⟩ = some (.int .i64 a0_11)) ∧ (Kd.R (Kd.int .i64) 3 w' w.heap.size (fun k_ => some k_ ≠ (s_.2.1 : Value).ownBlock) s_.1 y139) ∧ (Kd.R (Kd.int .i64) 3 w' w.heap.size (fun k_ => some k_ ≠ (s_.1 : Value).ownBlock) s_.2.1 y143) ∧ (w'.heap[gb129]? = some (.cells #[.int .i64 a0_0, .int .i64 a0_1, .int .i64 a0_2, .int .i64 a0_3, .int .i64 a0_4, .int .i64 a0_5, .int .i64 a0_6, .int .i64 a0_7, .int .i64 a0_8, .int .i64 a0_9, .int .i64 a0_10, .int .i64 a0_11] 23 (0, 0))) ∧ (w'.heap[gb130]? = some (.cells #[.int .i64 a1_0, .int .i64 a1_1, .int .i64 a1_2, .int .i64 a1_3] 57 (0, 0))) ∧ (w'.heap[gb131]? = some (.cells #[.int .i64 0, .int .i64 0] 25 (0, 0))) ∧ (w'.heap[gb137]? = some (.cells #[.int .i64 t134, .int .i64 t136] 25 (0, 0))) ∧ (w'.heap[s_.2.2]? = some (.cells #[.int .i64 0, .int .i64 0] 25 (0, 0))) ∧ (w.heap.size ≤ s_.2.2) ∧ (w.heap.size ≤ s_.2.2) ∧ (gb129 ≠ s_.2.2) ∧ (s_.2.2 ≠ gb129) ∧ (gb130 ≠ s_.2.2) ∧ (s_.2.2 ≠ gb130) ∧ (gb131 ≠ s_.2.2) ∧ (s_.2.2 ≠ gb131) ∧ (gb137 ≠ s_.2.2) ∧ (s_.2.2 ≠ gb137) ∧ (Below w.heap.size w w')) ?_ ?_
   rotate_left
   ·intro hJ2_3_4_8_11
    refine join_ (σ := Value × Value) 4 #[true, true, true, true, true, true, true, true, true, false, false, false, false] (fun s_ => [(31, .int .i64 t135), (32, s_.1), (33, .int .i64 t142), (37, s_.2)]) (fun s_ w' => (w'.cell? ⟨gb129, 0, none⟩ = some (.int .i64 a0_0) ∧ w'.cell? ⟨gb129, 1, none⟩ = some (.int .i64 a0_1) ∧ w'.cell? ⟨gb129, 2, none⟩ = some (.int .i64 a0_2) ∧ w'.cell? ⟨gb129, 3, none⟩ = some (.int .i64 a0_3) ∧ w'.cell? ⟨gb129, 4, none⟩ = some (.int .i64 a0_4) ∧ w'.cell? ⟨gb129, 5, none⟩ = some (.int .i64 a0_5) ∧ w'.cell? ⟨gb129, 6, none⟩ = some (.int .i64 a0_6) ∧ w'.cell? ⟨gb129, 7, none⟩ = some (.int .i64 a0_7) ∧ w'.cell? ⟨gb129, 8, none⟩ = some (.int .i64 a0_8) ∧ w'.cell? ⟨gb129, 9, none⟩ = some (.int .i64 a0_9) ∧ w'.cell? ⟨gb129, 10, none⟩ = some (.int .i64 a0_10) ∧ w'.cell? ⟨gb129, 11, none⟩ = some (.int .i64 a0_11)) ∧ (Kd.R (Kd.int .i64) 3 w' w.heap.size (fun k_ => some k_ ≠ (s_.2 : Value).ownBlock) s_.1 y139) ∧ (Kd.R (Kd.int .i64) 3 w' w.heap.size (fun k_ => some k_ ≠ (s_.1 : Value).ownBlock) s_.2 y143) ∧ (w'.heap[gb129]? = some (.cells #[.int .i64 a0_0, .int .i64 a0_1, .int .i64 a0_2, .int .i64 a0_3, .int .i64 a0_4, .int .i64 a0_5, .int .i64 a0_6, .int .i64 a0_7, .int .i64 a0_8, .int .i64 a0_9, .int .i64 a0_10, .int .i64 a0_11] 23 (0, 0))) ∧ (w'.heap[gb130]? = some (.cells #[.int .i64 a1_0, .int .i64 a1_1, .int .i64 a1_2, .int .i64 a1_3] 57 (0, 0))) ∧ (w'.heap[gb131]? = some (.cells #[.int .i64 0, .int .i64 0] 25 (0, 0))) ∧ (w'.heap[gb137]? = some (.cells #[.int .i64 t134, .int .i64 t136] 25 (0, 0))) ∧ (Below w.heap.size w w')) ?_ ?_
    rotate_left
    ·intro hJ2_3_4_8
     refine join_ (σ := Value × Nat) 4 #[true, true, true, true, true, true, true, true, false, false, false, true, false] (fun s_ => [(31, .int .i64 t135), (32, s_.1), (33, .int .i64 t142), (8, .pointer (some ⟨s_.2, 0, none⟩))]) (fun s_ w' => (w'.cell? ⟨gb129, 0, none⟩ = some (.int .i64 a0_0) ∧ w'.cell? ⟨gb129, 1, none⟩ = some (.int .i64 a0_1) ∧ w'.cell? ⟨gb129, 2, none⟩ = some (.int .i64 a0_2) ∧ w'.cell? ⟨gb129, 3, none⟩ = some (.int .i64 a0_3) ∧ w'.cell? ⟨gb129, 4, none⟩ = some (.int .i64 a0_4) ∧ w'.cell? ⟨gb129, 5, none⟩ = some (.int .i64 a0_5) ∧ w'.cell? ⟨gb129, 6, none⟩ = some (.int .i64 a0_6) ∧ w'.cell? ⟨gb129, 7, none⟩ = some (.int .i64 a0_7) ∧ w'.cell? ⟨gb129, 8, none⟩ = some (.int .i64 a0_8) ∧ w'.cell? ⟨gb129, 9, none⟩ = some (.int .i64 a0_9) ∧ w'.cell? ⟨gb129, 10, none⟩ = some (.int .i64 a0_10) ∧ w'.cell? ⟨gb129, 11, none⟩ = some (.int .i64 a0_11)) ∧ (Kd.R (Kd.int .i64) 3 w' w.heap.size (fun _ => True) s_.1 y139) ∧ (w'.heap[gb129]? = some (.cells #[.int .i64 a0_0, .int .i64 a0_1, .int .i64 a0_2, .int .i64 a0_3, .int .i64 a0_4, .int .i64 a0_5, .int .i64 a0_6, .int .i64 a0_7, .int .i64 a0_8, .int .i64 a0_9, .int .i64 a0_10, .int .i64 a0_11] 23 (0, 0))) ∧ (w'.heap[gb130]? = some (.cells #[.int .i64 a1_0, .int .i64 a1_1, .int .i64 a1_2, .int .i64 a1_3] 57 (0, 0))) ∧ (w'.heap[gb131]? = some (.cells #[.int .i64 0, .int .i64 0] 25 (0, 0))) ∧ (w'.heap[gb137]? = some (.cells #[.int .i64 t134, .int .i64 t136] 25 (0, 0))) ∧ (w'.heap[s_.2]? = some (.cells #[.int .i64 0, .int .i64 0] 25 (0, 0))) ∧ (w.heap.size ≤ s_.2) ∧ (w.heap.size ≤ s_.2) ∧ (gb129 ≠ s_.2) ∧ (s_.2 ≠ gb129) ∧ (gb130 ≠ s_.2) ∧ (s_.2 ≠ gb130) ∧ (gb131 ≠ s_.2) ∧ (s_.2 ≠ gb131) ∧ (gb137 ≠ s_.2) ∧ (s_.2 ≠ gb137) ∧ (Below w.heap.size w w')) ?_ ?_
     rotate_left
     ·intro hJ2_3_4_11
      refine join_ (σ := Value × Value × Nat) 4 #[true, true, true, true, false, true, true, true, true, false, false, true, false] (fun s_ => [(31, .int .i64 t135), (32, s_.1), (37, s_.2.1), (8, .pointer (some ⟨s_.2.2, 0, none⟩))]) (fun s_ w' => (w'.cell? ⟨gb129, 0, none⟩ = some (.int .i64 a0_0) ∧ w'.cell? ⟨gb129, 1, none⟩ = some (.int .i64 a0_1) ∧ w'.cell? ⟨gb129, 2, none⟩ = some (.int .i64 a0_2) ∧ w'.cell? ⟨gb129, 3, none⟩ = some (.int .i64 a0_3) ∧ w'.cell? ⟨gb129, 4, none⟩ = some (.int .i64 a0_4) ∧ w'.cell? ⟨gb129, 5, none⟩ = some (.int .i64 a0_5) ∧ w'.cell? ⟨gb129, 6, none⟩ = some (.int .i64 a0_6) ∧ w'.cell? ⟨gb129, 7, none⟩ = some (.int .i64 a0_7) ∧ w'.cell? ⟨gb129, 8, none⟩ = some (.int .i64 a0_8) ∧ w'.cell? ⟨gb129, 9, none⟩ = some (.int .i64 a0_9) ∧ w'.cell? ⟨gb129, 10, none⟩ = some (.int .i64 a0_10) ∧ w'.cell? ⟨gb129, 11, none⟩ = some (.int .i64 a0_11)) ∧ (Kd.R (Kd.int .i64) 3 w' w.heap.size (fun k_ => some k_ ≠ (s_.2.1 : Value).ownBlock) s_.1 y139) ∧ (Kd.R (Kd.int .i64) 3 w' w.heap.size (fun k_ => some k_ ≠ (s_.1 : Value).ownBlock) s_.2.1 y143) ∧ (w'.heap[gb129]? = some (.cells #[.int .i64 a0_0, .int .i64 a0_1, .int .i64 a0_2, .int .i64 a0_3, .int .i64 a0_4, .int .i64 a0_5, .int .i64 a0_6, .int .i64 a0_7, .int .i64 a0_8, .int .i64 a0_9, .int .i64 a0_10, .int .i64 a0_11] 23 (0, 0))) ∧ (w'.heap[gb130]? = some (.cells #[.int .i64 a1_0, .int .i64 a1_1, .int .i64 a1_2, .int .i64 a1_3] 57 (0, 0))) ∧ (w'.heap[gb131]? = some (.cells #[.int .i64 0, .int .i64 0] 25 (0, 0))) ∧ (w'.heap[gb137]? = some (.cells #[.int .i64 t134, .int .i64 t136] 25 (0, 0))) ∧ (w'.heap[s_.2.2]? = some (.cells #[.int .i64 0, .int .i64 0] 25 (0, 0))) ∧ (w.heap.size ≤ s_.2.2) ∧ (w.heap.size ≤ s_.2.2) ∧ (gb129 ≠ s_.2.2) ∧ (s_.2.2 ≠ gb129) ∧ (gb130 ≠ s_.2.2) ∧ (s_.2.2 ≠ gb130) ∧ (gb131 ≠ s_.2.2) ∧ (s_.2.2 ≠ gb131) ∧ (gb137 ≠ s_.2.2) ∧ (s_.2.2 ≠ gb137) ∧ (Below w.heap.size w w')) ?_ ?_
      rotate_left
      ·intro hJ2_3_8_11
       refine join_ (σ := Value) 5 #[true, true, true, true, true, true, true, true, false, false, false, false, false] (fun s_ => [(31, .int .i64 t135), (32, s_), (33, .int .i64 t142)]) (fun s_ w' => (w'.cell? ⟨gb129, 0, none⟩ = some (.int .i64 a0_0) ∧ w'.cell? ⟨gb129, 1, none⟩ = some (.int .i64 a0_1) ∧ w'.cell? ⟨gb129, 2, none⟩ = some (.int .i64 a0_2) ∧ w'.cell? ⟨gb129, 3, none⟩ = some (.int .i64 a0_3) ∧ w'.cell? ⟨gb129, 4, none⟩ = some (.int .i64 a0_4) ∧ w'.cell? ⟨gb129, 5, none⟩ = some (.int .i64 a0_5) ∧ w'.cell? ⟨gb129, 6, none⟩ = some (.int .i64 a0_6) ∧ w'.cell? ⟨gb129, 7, none⟩ = some (.int .i64 a0_7) ∧ w'.cell? ⟨gb129, 8, none⟩ = some (.int .i64 a0_8) ∧ w'.cell? ⟨gb129, 9, none⟩ = some (.int .i64 a0_9) ∧ w'.cell? ⟨gb129, 10, none⟩ = some (.int .i64 a0_10) ∧ w'.cell? ⟨gb129, 11, none⟩ = some (.int .i64 a0_11)) ∧ (Kd.R (Kd.int .i64) 3 w' w.heap.size (fun _ => True) s_ y139) ∧ (w'.heap[gb129]? = some (.cells #[.int .i64 a0_0, .int .i64 a0_1, .int .i64 a0_2, .int .i64 a0_3, .int .i64 a0_4, .int .i64 a0_5, .int .i64 a0_6, .int .i64 a0_7, .int .i64 a0_8, .int .i64 a0_9, .int .i64 a0_10, .int .i64 a0_11] 23 (0, 0))) ∧ (w'.heap[gb130]? = some (.cells #[.int .i64 a1_0, .int .i64 a1_1, .int .i64 a1_2, .int .i64 a1_3] 57 (0, 0))) ∧ (w'.heap[gb131]? = some (.cells #[.int .i64 0, .int .i64 0] 25 (0, 0))) ∧ (w'.heap[gb137]? = some (.cells #[.int .i64 t134, .int .i64 t136] 25 (0, 0))) ∧ (Below w.heap.size w w')) ?_ ?_
       rotate_left
       ·intro hJ2_3_4
        refine join_ (σ := Value × Value) 5 #[true, true, true, true, false, true, true, true, true, false, false, false, false] (fun s_ => [(31, .int .i64 t135), (32, s_.1), (37, s_.2)]) (fun s_ w' => (w'.cell? ⟨gb129, 0, none⟩ = some (.int .i64 a0_0) ∧ w'.cell? ⟨gb129, 1, none⟩ = some (.int .i64 a0_1) ∧ w'.cell? ⟨gb129, 2, none⟩ = some (.int .i64 a0_2) ∧ w'.cell? ⟨gb129, 3, none⟩ = some (.int .i64 a0_3) ∧ w'.cell? ⟨gb129, 4, none⟩ = some (.int .i64 a0_4) ∧ w'.cell? ⟨gb129, 5, none⟩ = some (.int .i64 a0_5) ∧ w'.cell? ⟨gb129, 6, none⟩ = some (.int .i64 a0_6) ∧ w'.cell? ⟨gb129, 7, none⟩ = some (.int .i64 a0_7) ∧ w'.cell? ⟨gb129, 8, none⟩ = some (.int .i64 a0_8) ∧ w'.cell? ⟨gb129, 9, none⟩ = some (.int .i64 a0_9) ∧ w'.cell? ⟨gb129, 10, none⟩ = some (.int .i64 a0_10) ∧ w'.cell? ⟨gb129, 11, none⟩ = some (.int .i64 a0_11)) ∧ (Kd.R (Kd.int .i64) 3 w' w.heap.size (fun k_ => some k_ ≠ (s_.2 : Value).ownBlock) s_.1 y139) ∧ (Kd.R (Kd.int .i64) 3 w' w.heap.size (fun k_ => some k_ ≠ (s_.1 : Value).ownBlock) s_.2 y143) ∧ (w'.heap[gb129]? = some (.cells #[.int .i64 a0_0, .int .i64 a0_1, .int .i64 a0_2, .int .i64 a0_3, .int .i64 a0_4, .int .i64 a0_5, .int .i64 a0_6, .int .i64 a0_7, .int .i64 a0_8, .int .i64 a0_9, .int .i64 a0_10, .int .i64 a0_11] 23 (0, 0))) ∧ (w'.heap[gb130]? = some (.cells #[.int .i64 a1_0, .int .i64 a1_1, .int .i64 a1_2, .int .i64 a1_3] 57 (0, 0))) ∧ (w'.heap[gb131]? = some (.cells #[.int .i64 0, .int .i64 0] 25 (0, 0))) ∧ (w'.heap[gb137]? = some (.cells #[.int .i64 t134, .int .i64 t136] 25 (0, 0))) ∧ (Below w.heap.size w w')) ?_ ?_
        rotate_left
        ·intro hJ2_3_8
         refine join_ (σ := Value × Nat) 5 #[true, true, true, true, false, true, true, true, false, false, false, true, false] (fun s_ => [(31, .int .i64 t135), (32, s_.1), (8, .pointer (some ⟨s_.2, 0, none⟩))]) (fun s_ w' => (w'.cell? ⟨gb129, 0, none⟩ = some (.int .i64 a0_0) ∧ w'.cell? ⟨gb129, 1, none⟩ = some (.int .i64 a0_1) ∧ w'.cell? ⟨gb129, 2, none⟩ = some (.int .i64 a0_2) ∧ w'.cell? ⟨gb129, 3, none⟩ = some (.int .i64 a0_3) ∧ w'.cell? ⟨gb129, 4, none⟩ = some (.int .i64 a0_4) ∧ w'.cell? ⟨gb129, 5, none⟩ = some (.int .i64 a0_5) ∧ w'.cell? ⟨gb129, 6, none⟩ = some (.int .i64 a0_6) ∧ w'.cell? ⟨gb129, 7, none⟩ = some (.int .i64 a0_7) ∧ w'.cell? ⟨gb129, 8, none⟩ = some (.int .i64 a0_8) ∧ w'.cell? ⟨gb129, 9, none⟩ = some (.int .i64 a0_9) ∧ w'.cell? ⟨gb129, 10, none⟩ = some (.int .i64 a0_10) ∧ w'.cell? ⟨gb129, 11, none⟩ = some (.int .i64 a0_11)) ∧ (Kd.R (Kd.int .i64) 3 w' w.heap.size (fun _ => True) s_.1 y139) ∧ (w'.heap[gb129]? = some (.cells #[.int .i64 a0_0, .int .i64 a0_1, .int .i64 a0_2, .int .i64 a0_3, .int .i64 a0_4, .int .i64 a0_5, .int .i64 a0_6, .int .i64 a0_7, .int .i64 a0_8, .int .i64 a0_9, .int .i64 a0_10, .int .i64 a0_11] 23 (0, 0))) ∧ (w'.heap[gb130]? = some (.cells #[.int .i64 a1_0, .int .i64 a1_1, .int .i64 a1_2, .int .i64 a1_3] 57 (0, 0))) ∧ (w'.heap[gb131]? = some (.cells #[.int .i64 0, .int .i64 0] 25 (0, 0))) ∧ (w'.heap[gb137]? = some (.cells #[.int .i64 t134, .int .i64 t136] 25 (0, 0))) ∧ (w'.heap[s_.2]? = some (.cells #[.int .i64 0, .int .i64 0] 25 (0, 0))) ∧ (w.heap.size ≤ s_.2) ∧ (w.heap.size ≤ s_.2) ∧ (gb129 ≠ s_.2) ∧ (s_.2 ≠ gb129) ∧ (gb130 ≠ s_.2) ∧ (s_.2 ≠ gb130) ∧ (gb131 ≠ s_.2) ∧ (s_.2 ≠ gb131) ∧ (gb137 ≠ s_.2) ∧ (s_.2 ≠ gb137) ∧ (Below w.heap.size w w')) ?_ ?_
         rotate_left
         ·intro hJ2_3_11
          refine join_ (σ := Value × Nat) 5 #[true, true, true, false, false, true, true, true, true, false, false, true, false] (fun s_ => [(31, .int .i64 t135), (37, s_.1), (8, .pointer (some ⟨s_.2, 0, none⟩))]) (fun s_ w' => (w'.cell? ⟨gb129, 0, none⟩ = some (.int .i64 a0_0) ∧ w'.cell? ⟨gb129, 1, none⟩ = some (.int .i64 a0_1) ∧ w'.cell? ⟨gb129, 2, none⟩ = some (.int .i64 a0_2) ∧ w'.cell? ⟨gb129, 3, none⟩ = some (.int .i64 a0_3) ∧ w'.cell? ⟨gb129, 4, none⟩ = some (.int .i64 a0_4) ∧ w'.cell? ⟨gb129, 5, none⟩ = some (.int .i64 a0_5) ∧ w'.cell? ⟨gb129, 6, none⟩ = some (.int .i64 a0_6) ∧ w'.cell? ⟨gb129, 7, none⟩ = some (.int .i64 a0_7) ∧ w'.cell? ⟨gb129, 8, none⟩ = some (.int .i64 a0_8) ∧ w'.cell? ⟨gb129, 9, none⟩ = some (.int .i64 a0_9) ∧ w'.cell? ⟨gb129, 10, none⟩ = some (.int .i64 a0_10) ∧ w'.cell? ⟨gb129, 11, none⟩ = some (.int .i64 a0_11)) ∧ (Kd.R (Kd.int .i64) 3 w' w.heap.size (fun _ => True) s_.1 y143) ∧ (w'.heap[gb129]? = some (.cells #[.int .i64 a0_0, .int .i64 a0_1, .int .i64 a0_2, .int .i64 a0_3, .int .i64 a0_4, .int .i64 a0_5, .int .i64 a0_6, .int .i64 a0_7, .int .i64 a0_8, .int .i64 a0_9, .int .i64 a0_10, .int .i64 a0_11] 23 (0, 0))) ∧ (w'.heap[gb130]? = some (.cells #[.int .i64 a1_0, .int .i64 a1_1, .int .i64 a1_2, .int .i64 a1_3] 57 (0, 0))) ∧ (w'.heap[gb131]? = some (.cells #[.int .i64 0, .int .i64 0] 25 (0, 0))) ∧ (w'.heap[gb137]? = some (.cells #[.int .i64 t134, .int .i64 t136] 25 (0, 0))) ∧ (w'.heap[s_.2]? = some (.cells #[.int .i64 0, .int .i64 0] 25 (0, 0))) ∧ (w.heap.size ≤ s_.2) ∧ (w.heap.size ≤ s_.2) ∧ (gb129 ≠ s_.2) ∧ (s_.2 ≠ gb129) ∧ (gb130 ≠ s_.2) ∧ (s_.2 ≠ gb130) ∧ (gb131 ≠ s_.2) ∧ (s_.2 ≠ gb131) ∧ (gb137 ≠ s_.2) ∧ (s_.2 ≠ gb137) ∧ (Below w.heap.size w w')) ?_ ?_
          rotate_left
          ·intro hJ2_8_11
           refine join_ (σ := Value) 6 #[true, true, true, true, false, true, true, true, false, false, false, false, false] (fun s_ => [(31, .int .i64 t135), (32, s_)]) (fun s_ w' => (w'.cell? ⟨gb129, 0, none⟩ = some (.int .i64 a0_0) ∧ w'.cell? ⟨gb129, 1, none⟩ = some (.int .i64 a0_1) ∧ w'.cell? ⟨gb129, 2, none⟩ = some (.int .i64 a0_2) ∧ w'.cell? ⟨gb129, 3, none⟩ = some (.int .i64 a0_3) ∧ w'.cell? ⟨gb129, 4, none⟩ = some (.int .i64 a0_4) ∧ w'.cell? ⟨gb129, 5, none⟩ = some (.int .i64 a0_5) ∧ w'.cell? ⟨gb129, 6, none⟩ = some (.int .i64 a0_6) ∧ w'.cell? ⟨gb129, 7, none⟩ = some (.int .i64 a0_7) ∧ w'.cell? ⟨gb129, 8, none⟩ = some (.int .i64 a0_8) ∧ w'.cell? ⟨gb129, 9, none⟩ = some (.int .i64 a0_9) ∧ w'.cell? ⟨gb129, 10, none⟩ = some (.int .i64 a0_10) ∧ w'.cell? ⟨gb129, 11, none⟩ = some (.int .i64 a0_11)) ∧ (Kd.R (Kd.int .i64) 3 w' w.heap.size (fun _ => True) s_ y139) ∧ (w'.heap[gb129]? = some (.cells #[.int .i64 a0_0, .int .i64 a0_1, .int .i64 a0_2, .int .i64 a0_3, .int .i64 a0_4, .int .i64 a0_5, .int .i64 a0_6, .int .i64 a0_7, .int .i64 a0_8, .int .i64 a0_9, .int .i64 a0_10, .int .i64 a0_11] 23 (0, 0))) ∧ (w'.heap[gb130]? = some (.cells #[.int .i64 a1_0, .int .i64 a1_1, .int .i64 a1_2, .int .i64 a1_3] 57 (0, 0))) ∧ (w'.heap[gb131]? = some (.cells #[.int .i64 0, .int .i64 0] 25 (0, 0))) ∧ (w'.heap[gb137]? = some (.cells #[.int .i64 t134, .int .i64 t136] 25 (0, 0))) ∧ (Below w.heap.size w w')) ?_ ?_
           rotate_left
           ·intro hJ2_3
            refine join_ (σ := Value) 6 #[true, true, true, false, false, true, true, true, true, false, false, false, false] (fun s_ => [(31, .int .i64 t135), (37, s_)]) (fun s_ w' => (w'.cell? ⟨gb129, 0, none⟩ = some (.int .i64 a0_0) ∧ w'.cell? ⟨gb129, 1, none⟩ = some (.int .i64 a0_1) ∧ w'.cell? ⟨gb129, 2, none⟩ = some (.int .i64 a0_2) ∧ w'.cell? ⟨gb129, 3, none⟩ = some (.int .i64 a0_3) ∧ w'.cell? ⟨gb129, 4, none⟩ = some (.int .i64 a0_4) ∧ w'.cell? ⟨gb129, 5, none⟩ = some (.int .i64 a0_5) ∧ w'.cell? ⟨gb129, 6, none⟩ = some (.int .i64 a0_6) ∧ w'.cell? ⟨gb129, 7, none⟩ = some (.int .i64 a0_7) ∧ w'.cell? ⟨gb129, 8, none⟩ = some (.int .i64 a0_8) ∧ w'.cell? ⟨gb129, 9, none⟩ = some (.int .i64 a0_9) ∧ w'.cell? ⟨gb129, 10, none⟩ = some (.int .i64 a0_10) ∧ w'.cell? ⟨gb129, 11, none⟩ = some (.int .i64 a0_11)) ∧ (Kd.R (Kd.int .i64) 3 w' w.heap.size (fun _ => True) s_ y143) ∧ (w'.heap[gb129]? = some (.cells #[.int .i64 a0_0, .int .i64 a0_1, .int .i64 a0_2, .int .i64 a0_3, .int .i64 a0_4, .int .i64 a0_5, .int .i64 a0_6, .int .i64 a0_7, .int .i64 a0_8, .int .i64 a0_9, .int .i64 a0_10, .int .i64 a0_11] 23 (0, 0))) ∧ (w'.heap[gb130]? = some (.cells #[.int .i64 a1_0, .int .i64 a1_1, .int .i64 a1_2, .int .i64 a1_3] 57 (0, 0))) ∧ (w'.heap[gb131]? = some (.cells #[.int .i64 0, .int .i64 0] 25 (0, 0))) ∧ (w'.heap[gb137]? = some (.cells #[.int .i64 t134, .int .i64 t136] 25 (0, 0))) ∧ (Below w.heap.size w w')) ?_ ?_
            rotate_left
            ·intro hJ2_8
             refine join_ (σ := Nat) 6 #[true, true, true, false, false, true, true, true, false, false, false, true, false] (fun s_ => [(31, .int .i64 t135), (8, .pointer (some ⟨s_, 0, none⟩))]) (fun s_ w' => (w'.cell? ⟨gb129, 0, none⟩ = some (.int .i64 a0_0) ∧ w'.cell? ⟨gb129, 1, none⟩ = some (.int .i64 a0_1) ∧ w'.cell? ⟨gb129, 2, none⟩ = some (.int .i64 a0_2) ∧ w'.cell? ⟨gb129, 3, none⟩ = some (.int .i64 a0_3) ∧ w'.cell? ⟨gb129, 4, none⟩ = some (.int .i64 a0_4) ∧ w'.cell? ⟨gb129, 5, none⟩ = some (.int .i64 a0_5) ∧ w'.cell? ⟨gb129, 6, none⟩ = some (.int .i64 a0_6) ∧ w'.cell? ⟨gb129, 7, none⟩ = some (.int .i64 a0_7) ∧ w'.cell? ⟨gb129, 8, none⟩ = some (.int .i64 a0_8) ∧ w'.cell? ⟨gb129, 9, none⟩ = some (.int .i64 a0_9) ∧ w'.cell? ⟨gb129, 10, none⟩ = some (.int .i64 a0_10) ∧ w'.cell? ⟨gb129, 11, none⟩ = some (.int .i64 a0_11)) ∧ (w'.heap[gb129]? = some (.cells #[.int .i64 a0_0, .int .i64 a0_1, .int .i64 a0_2, .int .i64 a0_3, .int .i64 a0_4, .int .i64 a0_5, .int .i64 a0_6, .int .i64 a0_7, .int .i64 a0_8, .int .i64 a0_9, .int .i64 a0_10, .int .i64 a0_11] 23 (0, 0))) ∧ (w'.heap[gb130]? = some (.cells #[.int .i64 a1_0, .int .i64 a1_1, .int .i64 a1_2, .int .i64 a1_3] 57 (0, 0))) ∧ (w'.heap[gb131]? = some (.cells #[.int .i64 0, .int .i64 0] 25 (0, 0))) ∧ (w'.heap[gb137]? = some (.cells #[.int .i64 t134, .int .i64 t136] 25 (0, 0))) ∧ (w'.heap[s_]? = some (.cells #[.int .i64 0, .int .i64 0] 25 (0, 0))) ∧ (w.heap.size ≤ s_) ∧ (w.heap.size ≤ s_) ∧ (gb129 ≠ s_) ∧ (s_ ≠ gb129) ∧ (gb130 ≠ s_) ∧ (s_ ≠ gb130) ∧ (gb131 ≠ s_) ∧ (s_ ≠ gb131) ∧ (gb137 ≠ s_) ∧ (s_ ≠ gb137) ∧ (Below w.heap.size w w')) ?_ ?_
             rotate_left
             ·intro hJ2_11
              refine join_ (σ := Value × Nat) 6 #[true, true, false, false, false, true, true, true, true, false, false, true, false] (fun s_ => [(37, s_.1), (8, .pointer (some ⟨s_.2, 0, none⟩))]) (fun s_ w' => (w'.cell? ⟨gb129, 0, none⟩ = some (.int .i64 a0_0) ∧ w'.cell? ⟨gb129, 1, none⟩ = some (.int .i64 a0_1) ∧ w'.cell? ⟨gb129, 2, none⟩ = some (.int .i64 a0_2) ∧ w'.cell? ⟨gb129, 3, none⟩ = some (.int .i64 a0_3) ∧ w'.cell? ⟨gb129, 4, none⟩ = some (.int .i64 a0_4) ∧ w'.cell? ⟨gb129, 5, none⟩ = some (.int .i64 a0_5) ∧ w'.cell? ⟨gb129, 6, none⟩ = some (.int .i64 a0_6) ∧ w'.cell? ⟨gb129, 7, none⟩ = some (.int .i64 a0_7) ∧ w'.cell? ⟨gb129, 8, none⟩ = some (.int .i64 a0_8) ∧ w'.cell? ⟨gb129, 9, none⟩ = some (.int .i64 a0_9) ∧ w'.cell? ⟨gb129, 10, none⟩ = some (.int .i64 a0_10) ∧ w'.cell? ⟨gb129, 11, none⟩ = some (.int .i64 a0_11)) ∧ (Kd.R (Kd.int .i64) 3 w' w.heap.size (fun _ => True) s_.1 y143) ∧ (w'.heap[gb129]? = some (.cells #[.int .i64 a0_0, .int .i64 a0_1, .int .i64 a0_2, .int .i64 a0_3, .int .i64 a0_4, .int .i64 a0_5, .int .i64 a0_6, .int .i64 a0_7, .int .i64 a0_8, .int .i64 a0_9, .int .i64 a0_10, .int .i64 a0_11] 23 (0, 0))) ∧ (w'.heap[gb130]? = some (.cells #[.int .i64 a1_0, .int .i64 a1_1, .int .i64 a1_2, .int .i64 a1_3] 57 (0, 0))) ∧ (w'.heap[gb131]? = some (.cells #[.int .i64 0, .int .i64 0] 25 (0, 0))) ∧ (w'.heap[gb137]? = some (.cells #[.int .i64 t134, .int .i64 t136] 25 (0, 0))) ∧ (w'.heap[s_.2]? = some (.cells #[.int .i64 0, .int .i64 0] 25 (0, 0))) ∧ (w.heap.size ≤ s_.2) ∧ (w.heap.size ≤ s_.2) ∧ (gb129 ≠ s_.2) ∧ (s_.2 ≠ gb129) ∧ (gb130 ≠ s_.2) ∧ (s_.2 ≠ gb130) ∧ (gb131 ≠ s_.2) ∧ (s_.2 ≠ gb131) ∧ (gb137 ≠ s_.2) ∧ (s_.2 ≠ gb137) ∧ (Below w.heap.size w w')) ?_ ?_
              rotate_left
              ·intro hJ8_11
               refine join_ (σ := Unit) 7 #[true, true, true, false, false, true, true, true, false, false, false, false, false] (fun s_ => [(31, .int .i64 t135)]) (fun s_ w' => (w'.cell? ⟨gb129, 0, none⟩ = some (.int .i64 a0_0) ∧ w'.cell? ⟨gb129, 1, none⟩ = some (.int .i64 a0_1) ∧ w'.cell? ⟨gb129, 2, none⟩ = some (.int .i64 a0_2) ∧ w'.cell? ⟨gb129, 3, none⟩ = some (.int .i64 a0_3) ∧ w'.cell? ⟨gb129, 4, none⟩ = some (.int .i64 a0_4) ∧ w'.cell? ⟨gb129, 5, none⟩ = some (.int .i64 a0_5) ∧ w'.cell? ⟨gb129, 6, none⟩ = some (.int .i64 a0_6) ∧ w'.cell? ⟨gb129, 7, none⟩ = some (.int .i64 a0_7) ∧ w'.cell? ⟨gb129, 8, none⟩ = some (.int .i64 a0_8) ∧ w'.cell? ⟨gb129, 9, none⟩ = some (.int .i64 a0_9) ∧ w'.cell? ⟨gb129, 10, none⟩ = some (.int .i64 a0_10) ∧ w'.cell? ⟨gb129, 11, none⟩ = some (.int .i64 a0_11)) ∧ (w'.heap[gb129]? = some (.cells #[.int .i64 a0_0, .int .i64 a0_1, .int .i64 a0_2, .int .i64 a0_3, .int .i64 a0_4, .int .i64 a0_5, .int .i64 a0_6, .int .i64 a0_7, .int .i64 a0_8, .int .i64 a0_9, .int .i64 a0_10, .int .i64 a0_11] 23 (0, 0))) ∧ (w'.heap[gb130]? = some (.cells #[.int .i64 a1_0, .int .i64 a1_1, .int .i64 a1_2, .int .i64 a1_3] 57 (0, 0))) ∧ (w'.heap[gb131]? = some (.cells #[.int .i64 0, .int .i64 0] 25 (0, 0))) ∧ (w'.heap[gb137]? = some (.cells #[.int .i64 t134, .int .i64 t136] 25 (0, 0))) ∧ (Below w.heap.size w w')) ?_ ?_
               rotate_left
               ·intro hJ2
                refine join_ (σ := Value) 7 #[true, true, false, false, false, true, true, true, true, false, false, false, false] (fun s_ => [(37, s_)]) (fun s_ w' => (w'.cell? ⟨gb129, 0, none⟩ = some (.int .i64 a0_0) ∧ w'.cell? ⟨gb129, 1, none⟩ = some (.int .i64 a0_1) ∧ w'.cell? ⟨gb129, 2, none⟩ = some (.int .i64 a0_2) ∧ w'.cell? ⟨gb129, 3, none⟩ = some (.int .i64 a0_3) ∧ w'.cell? ⟨gb129, 4, none⟩ = some (.int .i64 a0_4) ∧ w'.cell? ⟨gb129, 5, none⟩ = some (.int .i64 a0_5) ∧ w'.cell? ⟨gb129, 6, none⟩ = some (.int .i64 a0_6) ∧ w'.cell? ⟨gb129, 7, none⟩ = some (.int .i64 a0_7) ∧ w'.cell? ⟨gb129, 8, none⟩ = some (.int .i64 a0_8) ∧ w'.cell? ⟨gb129, 9, none⟩ = some (.int .i64 a0_9) ∧ w'.cell? ⟨gb129, 10, none⟩ = some (.int .i64 a0_10) ∧ w'.cell? ⟨gb129, 11, none⟩ = some (.int .i64 a0_11)) ∧ (Kd.R (Kd.int .i64) 3 w' w.heap.size (fun _ => True) s_ y143) ∧ (w'.heap[gb129]? = some (.cells #[.int .i64 a0_0, .int .i64 a0_1, .int .i64 a0_2, .int .i64 a0_3, .int .i64 a0_4, .int .i64 a0_5, .int .i64 a0_6, .int .i64 a0_7, .int .i64 a0_8, .int .i64 a0_9, .int .i64 a0_10, .int .i64 a0_11] 23 (0, 0))) ∧ (w'.heap[gb130]? = some (.cells #[.int .i64 a1_0, .int .i64 a1_1, .int .i64 a1_2, .int .i64 a1_3] 57 (0, 0))) ∧ (w'.heap[gb131]? = some (.cells #[.int .i64 0, .int .i64 0] 25 (0, 0))) ∧ (w'.heap[gb137]? = some (.cells #[.int .i64 t134, .int .i64 t136] 25 (0, 0))) ∧ (Below w.heap.size w w')) ?_ ?_
                rotate_left
                ·intro hJ8
                 refine join_ (σ := Nat) 7 #[true, true, false, false, false, true, true, true, false, false, false, true, false] (fun s_ => [(8, .pointer (some ⟨s_, 0, none⟩))]) (fun s_ w' => (w'.cell? ⟨gb129, 0, none⟩ = some (.int .i64 a0_0) ∧ w'.cell? ⟨gb129, 1, none⟩ = some (.int .i64 a0_1) ∧ w'.cell? ⟨gb129, 2, none⟩ = some (.int .i64 a0_2) ∧ w'.cell? ⟨gb129, 3, none⟩ = some (.int .i64 a0_3) ∧ w'.cell? ⟨gb129, 4, none⟩ = some (.int .i64 a0_4) ∧ w'.cell? ⟨gb129, 5, none⟩ = some (.int .i64 a0_5) ∧ w'.cell? ⟨gb129, 6, none⟩ = some (.int .i64 a0_6) ∧ w'.cell? ⟨gb129, 7, none⟩ = some (.int .i64 a0_7) ∧ w'.cell? ⟨gb129, 8, none⟩ = some (.int .i64 a0_8) ∧ w'.cell? ⟨gb129, 9, none⟩ = some (.int .i64 a0_9) ∧ w'.cell? ⟨gb129, 10, none⟩ = some (.int .i64 a0_10) ∧ w'.cell? ⟨gb129, 11, none⟩ = some (.int .i64 a0_11)) ∧ (w'.heap[gb129]? = some (.cells #[.int .i64 a0_0, .int .i64 a0_1, .int .i64 a0_2, .int .i64 a0_3, .int .i64 a0_4, .int .i64 a0_5, .int .i64 a0_6, .int .i64 a0_7, .int .i64 a0_8, .int .i64 a0_9, .int .i64 a0_10, .int .i64 a0_11] 23 (0, 0))) ∧ (w'.heap[gb130]? = some (.cells #[.int .i64 a1_0, .int .i64 a1_1, .int .i64 a1_2, .int .i64 a1_3] 57 (0, 0))) ∧ (w'.heap[gb131]? = some (.cells #[.int .i64 0, .int .i64 0] 25 (0, 0))) ∧ (w'.heap[gb137]? = some (.cells #[.int .i64 t134, .int .i64 t136] 25 (0, 0))) ∧ (w'.heap[s_]? = some (.cells #[.int .i64 0, .int .i64 0] 25 (0, 0))) ∧ (w.heap.size ≤ s_) ∧ (w.heap.size ≤ s_) ∧ (gb129 ≠ s_) ∧ (s_ ≠ gb129) ∧ (gb130 ≠ s_) ∧ (s_ ≠ gb130) ∧ (gb131 ≠ s_) ∧ (s_ ≠ gb131) ∧ (gb137 ≠ s_) ∧ (s_ ≠ gb137) ∧ (Below w.heap.size w w')) ?_ ?_
                 rotate_left
                 ·intro hJ11
                  refine three_ (i := 2) (j := 8) (k := 11) (Ni := some 31) (Nj := some 37) (Nk := some 8) #[true, true, true, false, false, true, true, true, false, false, false, false, false] #[true, true, false, false, false, true, true, true, true, false, false, false, false] #[true, true, false, false, false, true, true, true, false, false, false, true, false] rfl rfl rfl rfl rfl rfl (three_of HT_.out (by kernel_rfl)) (by decide) (by decide) (by decide) (fun K hK => ?_) (fun K hK => ?_) (fun K hK => ?_)
                  ·skip
                   refine goes_ Try.func53 (by kernel_rfl) rfl #[.agg #[.int .i64 a0_0, .int .i64 a0_1, .int .i64 a0_2, .int .i64 a0_3, .int .i64 a0_4, .int .i64 a0_5, .int .i64 a0_6, .int .i64 a0_7, .int .i64 a0_8, .int .i64 a0_9, .int .i64 a0_10, .int .i64 a0_11]] (by rfl) rfl rfl (by (try simp only [List.map_toArray, List.map_cons, List.map_nil]); first | done | rfl | (simp only [List.length_drop, List.length_take]; rfl)) ?_
                   with_reducible refine (probe_least.calls k a0_0 a0_1 a0_2 a0_3 a0_4 a0_5 a0_6 a0_7 a0_8 a0_9 a0_10 a0_11 t135 _ A8.out).mono ?_
                   rintro e w29 ⟨rfl, hb⟩
                   refine ⟨_, rfl, ?_⟩
                   have n0_ := Aside0.mk (blk_below (by with_reducible repeat first | exact BK129.out | apply bN) hb)
                   have n1_ := Aside0.mk (blk_below (by with_reducible repeat first | exact BK130.out | apply bN) hb)
                   have n2_ := Aside0.mk (blk_below (by with_reducible repeat first | exact BK131.out | apply bN) hb)
                   have n3_ := Aside0.mk (blk_below (by with_reducible repeat first | exact BK137.out | apply bN) hb)
                   have n4_ := Aside0.mk (below_step (by with_reducible repeat first | exact HB.out | apply pw_below_drewN) hb)
                   clear BK129 BK130 BK131 BK137 HB
                   have BK129 := n0_
                   have BK130 := n1_
                   have BK131 := n2_
                   have BK137 := n3_
                   have HB := n4_
                   clear n0_ n1_ n2_ n3_ n4_
                   (try clear hb)
                   (try clear hb2)
                   (try clear hk)
                   (try clear hi)
                   refine hK.out _ _ (c12 BK129.out) (fun hHeld => ?_)
                   clear hK K
                   refine norm_ (a' := ?_) ?_ ?_
                   rotate_left
                   ·show Act.put _ (some 31) _ = _
                    simp only [Act.put, List.setIfInBounds_toArray, List.set_cons_zero, List.set_cons_succ, i64_w, i32_w]
                    rfl
                   exact norm_ (by simp only [putAll, Act.put, List.setIfInBounds_toArray, List.set_cons_zero, List.set_cons_succ] <;> rfl) (hJ2 () _ ⟨hHeld, (by with_reducible repeat first | exact BK129.out | apply bN), (by with_reducible repeat first | exact BK130.out | apply bN), (by with_reducible repeat first | exact BK131.out | apply bN), (by with_reducible repeat first | exact BK137.out | apply bN), (by repeat (first | (with_reducible first | exact HB.out | apply below_alloc | apply pw_below_drewN | apply below_drew1 | refine below_set ?_ GE129.out | refine below_set ?_ GE130.out | refine below_set ?_ GE131.out | refine below_set ?_ GE137.out) | exact HB.out))⟩)
                  ·skip
                   refine Kd.R_lit_step (Kd.int .i64) _ 3 ?hg (N := 37) ?hd (xs := ([t133, a0_5] : List Int)) (inner := [.int .i64 t133, .int .i64 a0_5]) (ok := fun _ => True) (okp := fun _ => True) ?hr ?hp (fun _ hk => hk) trivial (Below.refl _ _) (Nat.le_refl _) (by simp) ?_; (case hd => rfl); (case hg => rfl); (case hr => first | (go_simp; done) | (go_simp; rfl)); (case hp => exact (Reps.one (show Kd.M (Kd.int .i64) _ _ _ t133 [.int .i64 t133] from rfl) (Reps.one (show Kd.M (Kd.int .i64) _ _ _ a0_5 [.int .i64 a0_5] from rfl) (Reps.none _ _))))
                   intro v144 w29 ho30 hb hg_ hnew_
                   clear hg_ hnew_
                   (first | rw [← Ny143.out] at ho30 | (simp only [Int.reduceToNat] at ho30; rw [← Ny143.out] at ho30))
                   have n0_ := Aside0.mk (Kd.R_lower ho30 (below_size (by with_reducible repeat first | exact HB.out | apply pw_below_drewN)))
                   have n1_ := Aside0.mk (blk_below (by with_reducible repeat first | exact BK129.out | apply bN) hb)
                   have n2_ := Aside0.mk (blk_below (by with_reducible repeat first | exact BK130.out | apply bN) hb)
                   have n3_ := Aside0.mk (blk_below (by with_reducible repeat first | exact BK131.out | apply bN) hb)
                   have n4_ := Aside0.mk (blk_below (by with_reducible repeat first | exact BK137.out | apply bN) hb)
                   have n5_ := Aside0.mk (below_step (by with_reducible repeat first | exact HB.out | apply pw_below_drewN) hb)
                   clear BK129 BK130 BK131 BK137 HB
                   have HO145 := n0_
                   have BK129 := n1_
                   have BK130 := n2_
                   have BK131 := n3_
                   have BK137 := n4_
                   have HB := n5_
                   clear n0_ n1_ n2_ n3_ n4_ n5_ hb ho30
                   refine hK.out _ _ (c12 BK129.out) (fun hHeld => ?_)
                   clear hK K
                   refine norm_ (a' := ?_) ?_ ?_
                   rotate_left
                   ·show Act.put _ (some 37) _ = _
                    simp only [Act.put, List.setIfInBounds_toArray, List.set_cons_zero, List.set_cons_succ, i64_w, i32_w]
                    rfl
                   exact norm_ (by simp only [putAll, Act.put, List.setIfInBounds_toArray, List.set_cons_zero, List.set_cons_succ] <;> rfl) (hJ8 (v144) _ ⟨hHeld, (by (with_reducible repeat (first | apply Kd.R_alloc | apply Kd.R_drewN | apply Kd.R_drew)); exact HO145.out), (by with_reducible repeat first | exact BK129.out | apply bN), (by with_reducible repeat first | exact BK130.out | apply bN), (by with_reducible repeat first | exact BK131.out | apply bN), (by with_reducible repeat first | exact BK137.out | apply bN), (by repeat (first | (with_reducible first | exact HB.out | apply below_alloc | apply pw_below_drewN | apply below_drew1 | refine below_set ?_ GE129.out | refine below_set ?_ GE130.out | refine below_set ?_ GE131.out | refine below_set ?_ GE137.out) | exact HB.out))⟩)
                  ·skip
                   refine box_step ?hg (N := 8) ?hd (cs := #[.int .i64 0, .int .i64 0]) (t := 25) ?hr ?_; (case hd => rfl); (case hg => rfl); (case hr => first | (go_simp; done) | (go_simp; rfl))
                   intro gb147 hg w29 hbox hb
                   have n0_ := Aside0.mk (blk_below (by with_reducible repeat first | exact BK129.out | apply bN) hb)
                   have n1_ := Aside0.mk (blk_below (by with_reducible repeat first | exact BK130.out | apply bN) hb)
                   have n2_ := Aside0.mk (blk_below (by with_reducible repeat first | exact BK131.out | apply bN) hb)
                   have n3_ := Aside0.mk (blk_below (by with_reducible repeat first | exact BK137.out | apply bN) hb)
                   have n4_ := Aside0.mk (below_step (by with_reducible repeat first | exact HB.out | apply pw_below_drewN) hb)
                   have n5_ := Aside0.mk (hbox)
                   have n6_ := Aside0.mk ((by rw [hg]; exact (below_size (by with_reducible repeat first | exact HB.out | apply pw_below_drewN)) : w.heap.size ≤ gb147))
                   have n7_ := Aside0.mk ((by rw [hg]; exact (below_size (by with_reducible repeat first | exact HB.out | apply pw_below_drewN)) : w.heap.size ≤ gb147))
                   have n8_ := Aside0.mk ((by rw [hg]; exact Nat.ne_of_lt (blk_lt (by with_reducible repeat first | exact BK129.out | apply bN)) : gb129 ≠ gb147))
                   have n9_ := Aside0.mk ((by rw [hg]; exact Nat.ne_of_gt (blk_lt (by with_reducible repeat first | exact BK129.out | apply bN)) : gb147 ≠ gb129))
                   have n10_ := Aside0.mk ((by rw [hg]; exact Nat.ne_of_lt (blk_lt (by with_reducible repeat first | exact BK130.out | apply bN)) : gb130 ≠ gb147))
                   have n11_ := Aside0.mk ((by rw [hg]; exact Nat.ne_of_gt (blk_lt (by with_reducible repeat first | exact BK130.out | apply bN)) : gb147 ≠ gb130))
                   have n12_ := Aside0.mk ((by rw [hg]; exact Nat.ne_of_lt (blk_lt (by with_reducible repeat first | exact BK131.out | apply bN)) : gb131 ≠ gb147))
                   have n13_ := Aside0.mk ((by rw [hg]; exact Nat.ne_of_gt (blk_lt (by with_reducible repeat first | exact BK131.out | apply bN)) : gb147 ≠ gb131))
                   have n14_ := Aside0.mk ((by rw [hg]; exact Nat.ne_of_lt (blk_lt (by with_reducible repeat first | exact BK137.out | apply bN)) : gb137 ≠ gb147))
                   have n15_ := Aside0.mk ((by rw [hg]; exact Nat.ne_of_gt (blk_lt (by with_reducible repeat first | exact BK137.out | apply bN)) : gb147 ≠ gb137))
                   clear BK129 BK130 BK131 BK137 HB
                   have BK129 := n0_
                   have BK130 := n1_
                   have BK131 := n2_
                   have BK137 := n3_
                   have HB := n4_
                   have BK147 := n5_
                   have GW147 := n6_
                   have GE147 := n7_
                   have NB129_147 := n8_
                   have NB147_129 := n9_
                   have NB130_147 := n10_
                   have NB147_130 := n11_
                   have NB131_147 := n12_
                   have NB147_131 := n13_
                   have NB137_147 := n14_
                   have NB147_137 := n15_
                   clear n0_ n1_ n2_ n3_ n4_ n5_ n6_ n7_ n8_ n9_ n10_ n11_ n12_ n13_ n14_ n15_ hb hbox hg
                   refine hK.out _ _ (c12 BK129.out) (fun hHeld => ?_)
                   clear hK K
                   refine norm_ (a' := ?_) ?_ ?_
                   rotate_left
                   ·show Act.put _ (some 8) _ = _
                    simp only [Act.put, List.setIfInBounds_toArray, List.set_cons_zero, List.set_cons_succ, i64_w, i32_w]
                    rfl
                   exact norm_ (by simp only [putAll, Act.put, List.setIfInBounds_toArray, List.set_cons_zero, List.set_cons_succ] <;> rfl) (hJ11 (gb147) _ ⟨hHeld, (by with_reducible repeat first | exact BK129.out | apply bN), (by with_reducible repeat first | exact BK130.out | apply bN), (by with_reducible repeat first | exact BK131.out | apply bN), (by with_reducible repeat first | exact BK137.out | apply bN), (by with_reducible repeat first | exact BK147.out | apply bN), GW147.out, GE147.out, NB129_147.out, NB147_129.out, NB130_147.out, NB147_130.out, NB131_147.out, NB147_131.out, NB137_147.out, NB147_137.out, (by repeat (first | (with_reducible first | exact HB.out | apply below_alloc | apply pw_below_drewN | apply below_drew1 | refine below_set ?_ GE129.out | refine below_set ?_ GE130.out | refine below_set ?_ GE131.out | refine below_set ?_ GE137.out | refine below_set ?_ GE147.out) | exact HB.out))⟩)
                 ·skip
                  rintro gb147 w30 ⟨hS_, h0_, h1_, h2_, h3_, h4_, h5_, h6_, h7_, h8_, h9_, h10_, h11_, h12_, h13_, h14_, h15_⟩
                  have n0_ : Aside0 (w30.heap[gb129]? = some (.cells #[.int .i64 a0_0, .int .i64 a0_1, .int .i64 a0_2, .int .i64 a0_3, .int .i64 a0_4, .int .i64 a0_5, .int .i64 a0_6, .int .i64 a0_7, .int .i64 a0_8, .int .i64 a0_9, .int .i64 a0_10, .int .i64 a0_11] 23 (0, 0))) := ⟨h0_⟩
                  have n1_ : Aside0 (w30.heap[gb130]? = some (.cells #[.int .i64 a1_0, .int .i64 a1_1, .int .i64 a1_2, .int .i64 a1_3] 57 (0, 0))) := ⟨h1_⟩
                  have n2_ : Aside0 (w30.heap[gb131]? = some (.cells #[.int .i64 0, .int .i64 0] 25 (0, 0))) := ⟨h2_⟩
                  have n3_ : Aside0 (w30.heap[gb137]? = some (.cells #[.int .i64 t134, .int .i64 t136] 25 (0, 0))) := ⟨h3_⟩
                  have n4_ : Aside0 (w30.heap[gb147]? = some (.cells #[.int .i64 0, .int .i64 0] 25 (0, 0))) := ⟨h4_⟩
                  have n5_ : Aside0 (w.heap.size ≤ gb147) := ⟨h5_⟩
                  have n6_ : Aside0 (w.heap.size ≤ gb147) := ⟨h6_⟩
                  have n7_ : Aside0 (gb129 ≠ gb147) := ⟨h7_⟩
                  have n8_ : Aside0 (gb147 ≠ gb129) := ⟨h8_⟩
                  have n9_ : Aside0 (gb130 ≠ gb147) := ⟨h9_⟩
                  have n10_ : Aside0 (gb147 ≠ gb130) := ⟨h10_⟩
                  have n11_ : Aside0 (gb131 ≠ gb147) := ⟨h11_⟩
                  have n12_ : Aside0 (gb147 ≠ gb131) := ⟨h12_⟩
                  have n13_ : Aside0 (gb137 ≠ gb147) := ⟨h13_⟩
                  have n14_ : Aside0 (gb147 ≠ gb137) := ⟨h14_⟩
                  have n15_ : Aside0 (Below w.heap.size w w30) := ⟨h15_⟩
                  clear BK129 BK130 BK131 BK137 HB h0_ h1_ h2_ h3_ h4_ h5_ h6_ h7_ h8_ h9_ h10_ h11_ h12_ h13_ h14_ h15_
                  have BK129 := n0_
                  have BK130 := n1_
                  have BK131 := n2_
                  have BK137 := n3_
                  have BK147 := n4_
                  have GW147 := n5_
                  have GE147 := n6_
                  have NB129_147 := n7_
                  have NB147_129 := n8_
                  have NB130_147 := n9_
                  have NB147_130 := n10_
                  have NB131_147 := n11_
                  have NB147_131 := n12_
                  have NB137_147 := n13_
                  have NB147_137 := n14_
                  have HB := n15_
                  clear n0_ n1_ n2_ n3_ n4_ n5_ n6_ n7_ n8_ n9_ n10_ n11_ n12_ n13_ n14_ n15_
                  have hHeld := hS_
                  try dsimp only at hHeld
                  refine norm_ (a' := ?_) ?_ ?_
                  rotate_left
                  ·simp only [putAll, Act.put, List.setIfInBounds_toArray, List.set_cons_zero, List.set_cons_succ]
                   rfl
                  refine two_ (i := 2) (j := 8) (Ni := some 31) (Nj := some 37) #[true, true, true, false, false, true, true, true, false, false, false, true, false] #[true, true, false, false, false, true, true, true, true, false, false, true, false] rfl rfl rfl rfl (two_of HT_.out (by kernel_rfl)) (by decide) (by decide) (fun K hK => ?_) (fun K hK => ?_)
                  ·skip
                   refine goes_ Try.func53 (by kernel_rfl) rfl #[.agg #[.int .i64 a0_0, .int .i64 a0_1, .int .i64 a0_2, .int .i64 a0_3, .int .i64 a0_4, .int .i64 a0_5, .int .i64 a0_6, .int .i64 a0_7, .int .i64 a0_8, .int .i64 a0_9, .int .i64 a0_10, .int .i64 a0_11]] (by rfl) rfl rfl (by (try simp only [List.map_toArray, List.map_cons, List.map_nil]); first | done | rfl | (simp only [List.length_drop, List.length_take]; rfl)) ?_
                   with_reducible refine (probe_least.calls k a0_0 a0_1 a0_2 a0_3 a0_4 a0_5 a0_6 a0_7 a0_8 a0_9 a0_10 a0_11 t135 _ A8.out).mono ?_
                   rintro e w31 ⟨rfl, hb⟩
                   refine ⟨_, rfl, ?_⟩
                   have n0_ := Aside0.mk (blk_below (by with_reducible repeat first | exact BK129.out | apply bN) hb)
                   have n1_ := Aside0.mk (blk_below (by with_reducible repeat first | exact BK130.out | apply bN) hb)
                   have n2_ := Aside0.mk (blk_below (by with_reducible repeat first | exact BK131.out | apply bN) hb)
                   have n3_ := Aside0.mk (blk_below (by with_reducible repeat first | exact BK137.out | apply bN) hb)
                   have n4_ := Aside0.mk (blk_below (by with_reducible repeat first | exact BK147.out | apply bN) hb)
                   have n5_ := Aside0.mk (below_step (by with_reducible repeat first | exact HB.out | apply pw_below_drewN) hb)
                   clear BK129 BK130 BK131 BK137 BK147 HB
                   have BK129 := n0_
                   have BK130 := n1_
                   have BK131 := n2_
                   have BK137 := n3_
                   have BK147 := n4_
                   have HB := n5_
                   clear n0_ n1_ n2_ n3_ n4_ n5_
                   (try clear hb)
                   (try clear hb2)
                   (try clear hk)
                   (try clear hi)
                   refine hK.out _ _ (c12 BK129.out) (fun hHeld => ?_)
                   clear hK K
                   refine norm_ (a' := ?_) ?_ ?_
                   rotate_left
                   ·show Act.put _ (some 31) _ = _
                    simp only [Act.put, List.setIfInBounds_toArray, List.set_cons_zero, List.set_cons_succ, i64_w, i32_w]
                    rfl
                   exact norm_ (by simp only [putAll, Act.put, List.setIfInBounds_toArray, List.set_cons_zero, List.set_cons_succ] <;> rfl) (hJ2_11 (gb147) _ ⟨hHeld, (by with_reducible repeat first | exact BK129.out | apply bN), (by with_reducible repeat first | exact BK130.out | apply bN), (by with_reducible repeat first | exact BK131.out | apply bN), (by with_reducible repeat first | exact BK137.out | apply bN), (by with_reducible repeat first | exact BK147.out | apply bN), GW147.out, GE147.out, NB129_147.out, NB147_129.out, NB130_147.out, NB147_130.out, NB131_147.out, NB147_131.out, NB137_147.out, NB147_137.out, (by repeat (first | (with_reducible first | exact HB.out | apply below_alloc | apply pw_below_drewN | apply below_drew1 | refine below_set ?_ GE129.out | refine below_set ?_ GE130.out | refine below_set ?_ GE131.out | refine below_set ?_ GE137.out | refine below_set ?_ GE147.out) | exact HB.out))⟩)
                  ·skip
                   refine Kd.R_lit_step (Kd.int .i64) _ 3 ?hg (N := 37) ?hd (xs := ([t133, a0_5] : List Int)) (inner := [.int .i64 t133, .int .i64 a0_5]) (ok := fun _ => True) (okp := fun _ => True) ?hr ?hp (fun _ hk => hk) trivial (Below.refl _ _) (Nat.le_refl _) (by simp) ?_; (case hd => rfl); (case hg => rfl); (case hr => first | (go_simp; done) | (go_simp; rfl)); (case hp => exact (Reps.one (show Kd.M (Kd.int .i64) _ _ _ t133 [.int .i64 t133] from rfl) (Reps.one (show Kd.M (Kd.int .i64) _ _ _ a0_5 [.int .i64 a0_5] from rfl) (Reps.none _ _))))
                   intro v144 w31 ho32 hb hg_ hnew_
                   clear hg_ hnew_
                   (first | rw [← Ny143.out] at ho32 | (simp only [Int.reduceToNat] at ho32; rw [← Ny143.out] at ho32))
                   have n0_ := Aside0.mk (Kd.R_lower ho32 (below_size (by with_reducible repeat first | exact HB.out | apply pw_below_drewN)))
                   have n1_ := Aside0.mk (blk_below (by with_reducible repeat first | exact BK129.out | apply bN) hb)
                   have n2_ := Aside0.mk (blk_below (by with_reducible repeat first | exact BK130.out | apply bN) hb)
                   have n3_ := Aside0.mk (blk_below (by with_reducible repeat first | exact BK131.out | apply bN) hb)
                   have n4_ := Aside0.mk (blk_below (by with_reducible repeat first | exact BK137.out | apply bN) hb)
                   have n5_ := Aside0.mk (blk_below (by with_reducible repeat first | exact BK147.out | apply bN) hb)
                   have n6_ := Aside0.mk (below_step (by with_reducible repeat first | exact HB.out | apply pw_below_drewN) hb)
                   clear BK129 BK130 BK131 BK137 BK147 HB
                   have HO145 := n0_
                   have BK129 := n1_
                   have BK130 := n2_
                   have BK131 := n3_
                   have BK137 := n4_
                   have BK147 := n5_
                   have HB := n6_
                   clear n0_ n1_ n2_ n3_ n4_ n5_ n6_ hb ho32
                   refine hK.out _ _ (c12 BK129.out) (fun hHeld => ?_)
                   clear hK K
                   refine norm_ (a' := ?_) ?_ ?_
                   rotate_left
                   ·show Act.put _ (some 37) _ = _
                    simp only [Act.put, List.setIfInBounds_toArray, List.set_cons_zero, List.set_cons_succ, i64_w, i32_w]
                    rfl
                   exact norm_ (by simp only [putAll, Act.put, List.setIfInBounds_toArray, List.set_cons_zero, List.set_cons_succ] <;> rfl) (hJ8_11 (_, gb147) _ ⟨hHeld, (by (with_reducible repeat (first | apply Kd.R_alloc | apply Kd.R_drewN | apply Kd.R_drew)); exact HO145.out), (by with_reducible repeat first | exact BK129.out | apply bN), (by with_reducible repeat first | exact BK130.out | apply bN), (by with_reducible repeat first | exact BK131.out | apply bN), (by with_reducible repeat first | exact BK137.out | apply bN), (by with_reducible repeat first | exact BK147.out | apply bN), GW147.out, GE147.out, NB129_147.out, NB147_129.out, NB130_147.out, NB147_130.out, NB131_147.out, NB147_131.out, NB137_147.out, NB147_137.out, (by repeat (first | (with_reducible first | exact HB.out | apply below_alloc | apply pw_below_drewN | apply below_drew1 | refine below_set ?_ GE129.out | refine below_set ?_ GE130.out | refine below_set ?_ GE131.out | refine below_set ?_ GE137.out | refine below_set ?_ GE147.out) | exact HB.out))⟩)
                ·skip
                 rintro v144 w31 ⟨hS_, h0_, h1_, h2_, h3_, h4_, h5_⟩
                 have n0_ : Aside0 (Kd.R (Kd.int .i64) 3 w31 w.heap.size (fun _ => True) v144 y143) := ⟨h0_⟩
                 have n1_ : Aside0 (w31.heap[gb129]? = some (.cells #[.int .i64 a0_0, .int .i64 a0_1, .int .i64 a0_2, .int .i64 a0_3, .int .i64 a0_4, .int .i64 a0_5, .int .i64 a0_6, .int .i64 a0_7, .int .i64 a0_8, .int .i64 a0_9, .int .i64 a0_10, .int .i64 a0_11] 23 (0, 0))) := ⟨h1_⟩
                 have n2_ : Aside0 (w31.heap[gb130]? = some (.cells #[.int .i64 a1_0, .int .i64 a1_1, .int .i64 a1_2, .int .i64 a1_3] 57 (0, 0))) := ⟨h2_⟩
                 have n3_ : Aside0 (w31.heap[gb131]? = some (.cells #[.int .i64 0, .int .i64 0] 25 (0, 0))) := ⟨h3_⟩
                 have n4_ : Aside0 (w31.heap[gb137]? = some (.cells #[.int .i64 t134, .int .i64 t136] 25 (0, 0))) := ⟨h4_⟩
                 have n5_ : Aside0 (Below w.heap.size w w31) := ⟨h5_⟩
                 clear BK129 BK130 BK131 BK137 HB h0_ h1_ h2_ h3_ h4_ h5_
                 have HO145 := n0_
                 have BK129 := n1_
                 have BK130 := n2_
                 have BK131 := n3_
                 have BK137 := n4_
                 have HB := n5_
                 clear n0_ n1_ n2_ n3_ n4_ n5_
                 have hHeld := hS_
                 try dsimp only at hHeld
                 refine norm_ (a' := ?_) ?_ ?_
                 rotate_left
                 ·simp only [putAll, Act.put, List.setIfInBounds_toArray, List.set_cons_zero, List.set_cons_succ]
                  rfl
                 refine two_ (i := 2) (j := 11) (Ni := some 31) (Nj := some 8) #[true, true, true, false, false, true, true, true, true, false, false, false, false] #[true, true, false, false, false, true, true, true, true, false, false, true, false] rfl rfl rfl rfl (two_of HT_.out (by kernel_rfl)) (by decide) (by decide) (fun K hK => ?_) (fun K hK => ?_)
                 ·skip
                  refine goes_ Try.func53 (by kernel_rfl) rfl #[.agg #[.int .i64 a0_0, .int .i64 a0_1, .int .i64 a0_2, .int .i64 a0_3, .int .i64 a0_4, .int .i64 a0_5, .int .i64 a0_6, .int .i64 a0_7, .int .i64 a0_8, .int .i64 a0_9, .int .i64 a0_10, .int .i64 a0_11]] (by rfl) rfl rfl (by (try simp only [List.map_toArray, List.map_cons, List.map_nil]); first | done | rfl | (simp only [List.length_drop, List.length_take]; rfl)) ?_
                  with_reducible refine (probe_least.calls k a0_0 a0_1 a0_2 a0_3 a0_4 a0_5 a0_6 a0_7 a0_8 a0_9 a0_10 a0_11 t135 _ A8.out).mono ?_
                  rintro e w32 ⟨rfl, hb⟩
                  refine ⟨_, rfl, ?_⟩
                  have n0_ := Aside0.mk (Kd.R_below (by (with_reducible repeat (first | apply Kd.R_alloc | apply Kd.R_drewN | apply Kd.R_drew)); exact HO145.out) hb)
                  have n1_ := Aside0.mk (blk_below (by with_reducible repeat first | exact BK129.out | apply bN) hb)
                  have n2_ := Aside0.mk (blk_below (by with_reducible repeat first | exact BK130.out | apply bN) hb)
                  have n3_ := Aside0.mk (blk_below (by with_reducible repeat first | exact BK131.out | apply bN) hb)
                  have n4_ := Aside0.mk (blk_below (by with_reducible repeat first | exact BK137.out | apply bN) hb)
                  have n5_ := Aside0.mk (below_step (by with_reducible repeat first | exact HB.out | apply pw_below_drewN) hb)
                  clear HO145 BK129 BK130 BK131 BK137 HB
                  have HO145 := n0_
                  have BK129 := n1_
                  have BK130 := n2_
                  have BK131 := n3_
                  have BK137 := n4_
                  have HB := n5_
                  clear n0_ n1_ n2_ n3_ n4_ n5_
                  (try clear hb)
                  (try clear hb2)
                  (try clear hk)
                  (try clear hi)
                  refine hK.out _ _ (c12 BK129.out) (fun hHeld => ?_)
                  clear hK K
                  refine norm_ (a' := ?_) ?_ ?_
                  rotate_left
                  ·show Act.put _ (some 31) _ = _
                   simp only [Act.put, List.setIfInBounds_toArray, List.set_cons_zero, List.set_cons_succ, i64_w, i32_w]
                   rfl
                  exact norm_ (by simp only [putAll, Act.put, List.setIfInBounds_toArray, List.set_cons_zero, List.set_cons_succ] <;> rfl) (hJ2_8 (v144) _ ⟨hHeld, (by (with_reducible repeat (first | apply Kd.R_alloc | apply Kd.R_drewN | apply Kd.R_drew)); exact HO145.out), (by with_reducible repeat first | exact BK129.out | apply bN), (by with_reducible repeat first | exact BK130.out | apply bN), (by with_reducible repeat first | exact BK131.out | apply bN), (by with_reducible repeat first | exact BK137.out | apply bN), (by repeat (first | (with_reducible first | exact HB.out | apply below_alloc | apply pw_below_drewN | apply below_drew1 | refine below_set ?_ GE129.out | refine below_set ?_ GE130.out | refine below_set ?_ GE131.out | refine below_set ?_ GE137.out) | exact HB.out))⟩)
                 ·skip
                  refine box_step ?hg (N := 8) ?hd (cs := #[.int .i64 0, .int .i64 0]) (t := 25) ?hr ?_; (case hd => rfl); (case hg => rfl); (case hr => first | (go_simp; done) | (go_simp; rfl))
                  intro gb147 hg w32 hbox hb
                  have n0_ := Aside0.mk (Kd.R_below (by (with_reducible repeat (first | apply Kd.R_alloc | apply Kd.R_drewN | apply Kd.R_drew)); exact HO145.out) hb)
                  have n1_ := Aside0.mk (blk_below (by with_reducible repeat first | exact BK129.out | apply bN) hb)
                  have n2_ := Aside0.mk (blk_below (by with_reducible repeat first | exact BK130.out | apply bN) hb)
                  have n3_ := Aside0.mk (blk_below (by with_reducible repeat first | exact BK131.out | apply bN) hb)
                  have n4_ := Aside0.mk (blk_below (by with_reducible repeat first | exact BK137.out | apply bN) hb)
                  have n5_ := Aside0.mk (below_step (by with_reducible repeat first | exact HB.out | apply pw_below_drewN) hb)
                  have n6_ := Aside0.mk (hbox)
                  have n7_ := Aside0.mk ((by rw [hg]; exact (below_size (by with_reducible repeat first | exact HB.out | apply pw_below_drewN)) : w.heap.size ≤ gb147))
                  have n8_ := Aside0.mk ((by rw [hg]; exact (below_size (by with_reducible repeat first | exact HB.out | apply pw_below_drewN)) : w.heap.size ≤ gb147))
                  have n9_ := Aside0.mk ((by rw [hg]; exact Nat.ne_of_lt (blk_lt (by with_reducible repeat first | exact BK129.out | apply bN)) : gb129 ≠ gb147))
                  have n10_ := Aside0.mk ((by rw [hg]; exact Nat.ne_of_gt (blk_lt (by with_reducible repeat first | exact BK129.out | apply bN)) : gb147 ≠ gb129))
                  have n11_ := Aside0.mk ((by rw [hg]; exact Nat.ne_of_lt (blk_lt (by with_reducible repeat first | exact BK130.out | apply bN)) : gb130 ≠ gb147))
                  have n12_ := Aside0.mk ((by rw [hg]; exact Nat.ne_of_gt (blk_lt (by with_reducible repeat first | exact BK130.out | apply bN)) : gb147 ≠ gb130))
                  have n13_ := Aside0.mk ((by rw [hg]; exact Nat.ne_of_lt (blk_lt (by with_reducible repeat first | exact BK131.out | apply bN)) : gb131 ≠ gb147))
                  have n14_ := Aside0.mk ((by rw [hg]; exact Nat.ne_of_gt (blk_lt (by with_reducible repeat first | exact BK131.out | apply bN)) : gb147 ≠ gb131))
                  have n15_ := Aside0.mk ((by rw [hg]; exact Nat.ne_of_lt (blk_lt (by with_reducible repeat first | exact BK137.out | apply bN)) : gb137 ≠ gb147))
                  have n16_ := Aside0.mk ((by rw [hg]; exact Nat.ne_of_gt (blk_lt (by with_reducible repeat first | exact BK137.out | apply bN)) : gb147 ≠ gb137))
                  clear HO145 BK129 BK130 BK131 BK137 HB
                  have HO145 := n0_
                  have BK129 := n1_
                  have BK130 := n2_
                  have BK131 := n3_
                  have BK137 := n4_
                  have HB := n5_
                  have BK147 := n6_
                  have GW147 := n7_
                  have GE147 := n8_
                  have NB129_147 := n9_
                  have NB147_129 := n10_
                  have NB130_147 := n11_
                  have NB147_130 := n12_
                  have NB131_147 := n13_
                  have NB147_131 := n14_
                  have NB137_147 := n15_
                  have NB147_137 := n16_
                  clear n0_ n1_ n2_ n3_ n4_ n5_ n6_ n7_ n8_ n9_ n10_ n11_ n12_ n13_ n14_ n15_ n16_ hb hbox hg
                  refine hK.out _ _ (c12 BK129.out) (fun hHeld => ?_)
                  clear hK K
                  refine norm_ (a' := ?_) ?_ ?_
                  rotate_left
                  ·show Act.put _ (some 8) _ = _
                   simp only [Act.put, List.setIfInBounds_toArray, List.set_cons_zero, List.set_cons_succ, i64_w, i32_w]
                   rfl
                  exact norm_ (by simp only [putAll, Act.put, List.setIfInBounds_toArray, List.set_cons_zero, List.set_cons_succ] <;> rfl) (hJ8_11 (_, gb147) _ ⟨hHeld, (by (with_reducible repeat (first | apply Kd.R_alloc | apply Kd.R_drewN | apply Kd.R_drew)); exact HO145.out), (by with_reducible repeat first | exact BK129.out | apply bN), (by with_reducible repeat first | exact BK130.out | apply bN), (by with_reducible repeat first | exact BK131.out | apply bN), (by with_reducible repeat first | exact BK137.out | apply bN), (by with_reducible repeat first | exact BK147.out | apply bN), GW147.out, GE147.out, NB129_147.out, NB147_129.out, NB130_147.out, NB147_130.out, NB131_147.out, NB147_131.out, NB137_147.out, NB147_137.out, (by repeat (first | (with_reducible first | exact HB.out | apply below_alloc | apply pw_below_drewN | apply below_drew1 | refine below_set ?_ GE129.out | refine below_set ?_ GE130.out | refine below_set ?_ GE131.out | refine below_set ?_ GE137.out | refine below_set ?_ GE147.out) | exact HB.out))⟩)
               ·skip
                rintro _ w30 ⟨hS_, h0_, h1_, h2_, h3_, h4_⟩
                have n0_ : Aside0 (w30.heap[gb129]? = some (.cells #[.int .i64 a0_0, .int .i64 a0_1, .int .i64 a0_2, .int .i64 a0_3, .int .i64 a0_4, .int .i64 a0_5, .int .i64 a0_6, .int .i64 a0_7, .int .i64 a0_8, .int .i64 a0_9, .int .i64 a0_10, .int .i64 a0_11] 23 (0, 0))) := ⟨h0_⟩
                have n1_ : Aside0 (w30.heap[gb130]? = some (.cells #[.int .i64 a1_0, .int .i64 a1_1, .int .i64 a1_2, .int .i64 a1_3] 57 (0, 0))) := ⟨h1_⟩
                have n2_ : Aside0 (w30.heap[gb131]? = some (.cells #[.int .i64 0, .int .i64 0] 25 (0, 0))) := ⟨h2_⟩
                have n3_ : Aside0 (w30.heap[gb137]? = some (.cells #[.int .i64 t134, .int .i64 t136] 25 (0, 0))) := ⟨h3_⟩
                have n4_ : Aside0 (Below w.heap.size w w30) := ⟨h4_⟩
                clear BK129 BK130 BK131 BK137 HB h0_ h1_ h2_ h3_ h4_
                have BK129 := n0_
                have BK130 := n1_
                have BK131 := n2_
                have BK137 := n3_
                have HB := n4_
                clear n0_ n1_ n2_ n3_ n4_
                have hHeld := hS_
                try dsimp only at hHeld
                refine norm_ (a' := ?_) ?_ ?_
                rotate_left
                ·simp only [putAll, Act.put, List.setIfInBounds_toArray, List.set_cons_zero, List.set_cons_succ]
                 rfl
                refine three_ (i := 3) (j := 8) (k := 11) (Ni := some 32) (Nj := some 37) (Nk := some 8) #[true, true, true, true, false, true, true, true, false, false, false, false, false] #[true, true, true, false, false, true, true, true, true, false, false, false, false] #[true, true, true, false, false, true, true, true, false, false, false, true, false] rfl rfl rfl rfl rfl rfl (three_of HT_.out (by kernel_rfl)) (by decide) (by decide) (by decide) (fun K hK => ?_) (fun K hK => ?_) (fun K hK => ?_)
                ·skip
                 refine Kd.R_lit_step (Kd.int .i64) _ 3 ?hg (N := 32) ?hd (xs := ([t133, t135] : List Int)) (inner := [.int .i64 t133, .int .i64 t135]) (ok := fun _ => True) (okp := fun _ => True) ?hr ?hp (fun _ hk => hk) trivial (Below.refl _ _) (Nat.le_refl _) (by simp) ?_; (case hd => rfl); (case hg => rfl); (case hr => first | (go_simp; done) | (go_simp; rfl)); (case hp => exact (Reps.one (show Kd.M (Kd.int .i64) _ _ _ t133 [.int .i64 t133] from rfl) (Reps.one (show Kd.M (Kd.int .i64) _ _ _ t135 [.int .i64 t135] from rfl) (Reps.none _ _))))
                 intro v140 w31 ho32 hb hg_ hnew_
                 clear hg_ hnew_
                 (first | rw [← Ny139.out] at ho32 | (simp only [Int.reduceToNat] at ho32; rw [← Ny139.out] at ho32))
                 have n0_ := Aside0.mk (Kd.R_lower ho32 (below_size (by with_reducible repeat first | exact HB.out | apply pw_below_drewN)))
                 have n1_ := Aside0.mk (blk_below (by with_reducible repeat first | exact BK129.out | apply bN) hb)
                 have n2_ := Aside0.mk (blk_below (by with_reducible repeat first | exact BK130.out | apply bN) hb)
                 have n3_ := Aside0.mk (blk_below (by with_reducible repeat first | exact BK131.out | apply bN) hb)
                 have n4_ := Aside0.mk (blk_below (by with_reducible repeat first | exact BK137.out | apply bN) hb)
                 have n5_ := Aside0.mk (below_step (by with_reducible repeat first | exact HB.out | apply pw_below_drewN) hb)
                 clear BK129 BK130 BK131 BK137 HB
                 have HO141 := n0_
                 have BK129 := n1_
                 have BK130 := n2_
                 have BK131 := n3_
                 have BK137 := n4_
                 have HB := n5_
                 clear n0_ n1_ n2_ n3_ n4_ n5_ hb ho32
                 refine hK.out _ _ (c12 BK129.out) (fun hHeld => ?_)
                 clear hK K
                 refine norm_ (a' := ?_) ?_ ?_
                 rotate_left
                 ·show Act.put _ (some 32) _ = _
                  simp only [Act.put, List.setIfInBounds_toArray, List.set_cons_zero, List.set_cons_succ, i64_w, i32_w]
                  rfl
                 exact norm_ (by simp only [putAll, Act.put, List.setIfInBounds_toArray, List.set_cons_zero, List.set_cons_succ] <;> rfl) (hJ2_3 (v140) _ ⟨hHeld, (by (with_reducible repeat (first | apply Kd.R_alloc | apply Kd.R_drewN | apply Kd.R_drew)); exact HO141.out), (by with_reducible repeat first | exact BK129.out | apply bN), (by with_reducible repeat first | exact BK130.out | apply bN), (by with_reducible repeat first | exact BK131.out | apply bN), (by with_reducible repeat first | exact BK137.out | apply bN), (by repeat (first | (with_reducible first | exact HB.out | apply below_alloc | apply pw_below_drewN | apply below_drew1 | refine below_set ?_ GE129.out | refine below_set ?_ GE130.out | refine below_set ?_ GE131.out | refine below_set ?_ GE137.out) | exact HB.out))⟩)
                ·skip
                 refine Kd.R_lit_step (Kd.int .i64) _ 3 ?hg (N := 37) ?hd (xs := ([t133, a0_5] : List Int)) (inner := [.int .i64 t133, .int .i64 a0_5]) (ok := fun _ => True) (okp := fun _ => True) ?hr ?hp (fun _ hk => hk) trivial (Below.refl _ _) (Nat.le_refl _) (by simp) ?_; (case hd => rfl); (case hg => rfl); (case hr => first | (go_simp; done) | (go_simp; rfl)); (case hp => exact (Reps.one (show Kd.M (Kd.int .i64) _ _ _ t133 [.int .i64 t133] from rfl) (Reps.one (show Kd.M (Kd.int .i64) _ _ _ a0_5 [.int .i64 a0_5] from rfl) (Reps.none _ _))))
                 intro v144 w31 ho32 hb hg_ hnew_
                 clear hg_ hnew_
                 (first | rw [← Ny143.out] at ho32 | (simp only [Int.reduceToNat] at ho32; rw [← Ny143.out] at ho32))
                 have n0_ := Aside0.mk (Kd.R_lower ho32 (below_size (by with_reducible repeat first | exact HB.out | apply pw_below_drewN)))
                 have n1_ := Aside0.mk (blk_below (by with_reducible repeat first | exact BK129.out | apply bN) hb)
                 have n2_ := Aside0.mk (blk_below (by with_reducible repeat first | exact BK130.out | apply bN) hb)
                 have n3_ := Aside0.mk (blk_below (by with_reducible repeat first | exact BK131.out | apply bN) hb)
                 have n4_ := Aside0.mk (blk_below (by with_reducible repeat first | exact BK137.out | apply bN) hb)
                 have n5_ := Aside0.mk (below_step (by with_reducible repeat first | exact HB.out | apply pw_below_drewN) hb)
                 clear BK129 BK130 BK131 BK137 HB
                 have HO145 := n0_
                 have BK129 := n1_
                 have BK130 := n2_
                 have BK131 := n3_
                 have BK137 := n4_
                 have HB := n5_
                 clear n0_ n1_ n2_ n3_ n4_ n5_ hb ho32
                 refine hK.out _ _ (c12 BK129.out) (fun hHeld => ?_)
                 clear hK K
                 refine norm_ (a' := ?_) ?_ ?_
                 rotate_left
                 ·show Act.put _ (some 37) _ = _
                  simp only [Act.put, List.setIfInBounds_toArray, List.set_cons_zero, List.set_cons_succ, i64_w, i32_w]
                  rfl
                 exact norm_ (by simp only [putAll, Act.put, List.setIfInBounds_toArray, List.set_cons_zero, List.set_cons_succ] <;> rfl) (hJ2_8 (v144) _ ⟨hHeld, (by (with_reducible repeat (first | apply Kd.R_alloc | apply Kd.R_drewN | apply Kd.R_drew)); exact HO145.out), (by with_reducible repeat first | exact BK129.out | apply bN), (by with_reducible repeat first | exact BK130.out | apply bN), (by with_reducible repeat first | exact BK131.out | apply bN), (by with_reducible repeat first | exact BK137.out | apply bN), (by repeat (first | (with_reducible first | exact HB.out | apply below_alloc | apply pw_below_drewN | apply below_drew1 | refine below_set ?_ GE129.out | refine below_set ?_ GE130.out | refine below_set ?_ GE131.out | refine below_set ?_ GE137.out) | exact HB.out))⟩)
                ·skip
                 refine box_step ?hg (N := 8) ?hd (cs := #[.int .i64 0, .int .i64 0]) (t := 25) ?hr ?_; (case hd => rfl); (case hg => rfl); (case hr => first | (go_simp; done) | (go_simp; rfl))
                 intro gb147 hg w31 hbox hb
                 have n0_ := Aside0.mk (blk_below (by with_reducible repeat first | exact BK129.out | apply bN) hb)
                 have n1_ := Aside0.mk (blk_below (by with_reducible repeat first | exact BK130.out | apply bN) hb)
                 have n2_ := Aside0.mk (blk_below (by with_reducible repeat first | exact BK131.out | apply bN) hb)
                 have n3_ := Aside0.mk (blk_below (by with_reducible repeat first | exact BK137.out | apply bN) hb)
                 have n4_ := Aside0.mk (below_step (by with_reducible repeat first | exact HB.out | apply pw_below_drewN) hb)
                 have n5_ := Aside0.mk (hbox)
                 have n6_ := Aside0.mk ((by rw [hg]; exact (below_size (by with_reducible repeat first | exact HB.out | apply pw_below_drewN)) : w.heap.size ≤ gb147))
                 have n7_ := Aside0.mk ((by rw [hg]; exact (below_size (by with_reducible repeat first | exact HB.out | apply pw_below_drewN)) : w.heap.size ≤ gb147))
                 have n8_ := Aside0.mk ((by rw [hg]; exact Nat.ne_of_lt (blk_lt (by with_reducible repeat first | exact BK129.out | apply bN)) : gb129 ≠ gb147))
                 have n9_ := Aside0.mk ((by rw [hg]; exact Nat.ne_of_gt (blk_lt (by with_reducible repeat first | exact BK129.out | apply bN)) : gb147 ≠ gb129))
                 have n10_ := Aside0.mk ((by rw [hg]; exact Nat.ne_of_lt (blk_lt (by with_reducible repeat first | exact BK130.out | apply bN)) : gb130 ≠ gb147))
                 have n11_ := Aside0.mk ((by rw [hg]; exact Nat.ne_of_gt (blk_lt (by with_reducible repeat first | exact BK130.out | apply bN)) : gb147 ≠ gb130))
                 have n12_ := Aside0.mk ((by rw [hg]; exact Nat.ne_of_lt (blk_lt (by with_reducible repeat first | exact BK131.out | apply bN)) : gb131 ≠ gb147))
                 have n13_ := Aside0.mk ((by rw [hg]; exact Nat.ne_of_gt (blk_lt (by with_reducible repeat first | exact BK131.out | apply bN)) : gb147 ≠ gb131))
                 have n14_ := Aside0.mk ((by rw [hg]; exact Nat.ne_of_lt (blk_lt (by with_reducible repeat first | exact BK137.out | apply bN)) : gb137 ≠ gb147))
                 have n15_ := Aside0.mk ((by rw [hg]; exact Nat.ne_of_gt (blk_lt (by with_reducible repeat first | exact BK137.out | apply bN)) : gb147 ≠ gb137))
                 clear BK129 BK130 BK131 BK137 HB
                 have BK129 := n0_
                 have BK130 := n1_
                 have BK131 := n2_
                 have BK137 := n3_
                 have HB := n4_
                 have BK147 := n5_
                 have GW147 := n6_
                 have GE147 := n7_
                 have NB129_147 := n8_
                 have NB147_129 := n9_
                 have NB130_147 := n10_
                 have NB147_130 := n11_
                 have NB131_147 := n12_
                 have NB147_131 := n13_
                 have NB137_147 := n14_
                 have NB147_137 := n15_
                 clear n0_ n1_ n2_ n3_ n4_ n5_ n6_ n7_ n8_ n9_ n10_ n11_ n12_ n13_ n14_ n15_ hb hbox hg
                 refine hK.out _ _ (c12 BK129.out) (fun hHeld => ?_)
                 clear hK K
                 refine norm_ (a' := ?_) ?_ ?_
                 rotate_left
                 ·show Act.put _ (some 8) _ = _
                  simp only [Act.put, List.setIfInBounds_toArray, List.set_cons_zero, List.set_cons_succ, i64_w, i32_w]
                  rfl
                 exact norm_ (by simp only [putAll, Act.put, List.setIfInBounds_toArray, List.set_cons_zero, List.set_cons_succ] <;> rfl) (hJ2_11 (gb147) _ ⟨hHeld, (by with_reducible repeat first | exact BK129.out | apply bN), (by with_reducible repeat first | exact BK130.out | apply bN), (by with_reducible repeat first | exact BK131.out | apply bN), (by with_reducible repeat first | exact BK137.out | apply bN), (by with_reducible repeat first | exact BK147.out | apply bN), GW147.out, GE147.out, NB129_147.out, NB147_129.out, NB130_147.out, NB147_130.out, NB131_147.out, NB147_131.out, NB137_147.out, NB147_137.out, (by repeat (first | (with_reducible first | exact HB.out | apply below_alloc | apply pw_below_drewN | apply below_drew1 | refine below_set ?_ GE129.out | refine below_set ?_ GE130.out | refine below_set ?_ GE131.out | refine below_set ?_ GE137.out | refine below_set ?_ GE147.out) | exact HB.out))⟩)
              ·skip
               rintro ⟨v144, gb147⟩ w32 ⟨hS_, h0_, h1_, h2_, h3_, h4_, h5_, h6_, h7_, h8_, h9_, h10_, h11_, h12_, h13_, h14_, h15_, h16_⟩
               have n0_ : Aside0 (Kd.R (Kd.int .i64) 3 w32 w.heap.size (fun _ => True) v144 y143) := ⟨h0_⟩
               have n1_ : Aside0 (w32.heap[gb129]? = some (.cells #[.int .i64 a0_0, .int .i64 a0_1, .int .i64 a0_2, .int .i64 a0_3, .int .i64 a0_4, .int .i64 a0_5, .int .i64 a0_6, .int .i64 a0_7, .int .i64 a0_8, .int .i64 a0_9, .int .i64 a0_10, .int .i64 a0_11] 23 (0, 0))) := ⟨h1_⟩
               have n2_ : Aside0 (w32.heap[gb130]? = some (.cells #[.int .i64 a1_0, .int .i64 a1_1, .int .i64 a1_2, .int .i64 a1_3] 57 (0, 0))) := ⟨h2_⟩
               have n3_ : Aside0 (w32.heap[gb131]? = some (.cells #[.int .i64 0, .int .i64 0] 25 (0, 0))) := ⟨h3_⟩
               have n4_ : Aside0 (w32.heap[gb137]? = some (.cells #[.int .i64 t134, .int .i64 t136] 25 (0, 0))) := ⟨h4_⟩
               have n5_ : Aside0 (w32.heap[gb147]? = some (.cells #[.int .i64 0, .int .i64 0] 25 (0, 0))) := ⟨h5_⟩
               have n6_ : Aside0 (w.heap.size ≤ gb147) := ⟨h6_⟩
               have n7_ : Aside0 (w.heap.size ≤ gb147) := ⟨h7_⟩
               have n8_ : Aside0 (gb129 ≠ gb147) := ⟨h8_⟩
               have n9_ : Aside0 (gb147 ≠ gb129) := ⟨h9_⟩
               have n10_ : Aside0 (gb130 ≠ gb147) := ⟨h10_⟩
               have n11_ : Aside0 (gb147 ≠ gb130) := ⟨h11_⟩
               have n12_ : Aside0 (gb131 ≠ gb147) := ⟨h12_⟩
               have n13_ : Aside0 (gb147 ≠ gb131) := ⟨h13_⟩
               have n14_ : Aside0 (gb137 ≠ gb147) := ⟨h14_⟩
               have n15_ : Aside0 (gb147 ≠ gb137) := ⟨h15_⟩
               have n16_ : Aside0 (Below w.heap.size w w32) := ⟨h16_⟩
               clear BK129 BK130 BK131 BK137 HB h0_ h1_ h2_ h3_ h4_ h5_ h6_ h7_ h8_ h9_ h10_ h11_ h12_ h13_ h14_ h15_ h16_
               have HO145 := n0_
               have BK129 := n1_
               have BK130 := n2_
               have BK131 := n3_
               have BK137 := n4_
               have BK147 := n5_
               have GW147 := n6_
               have GE147 := n7_
               have NB129_147 := n8_
               have NB147_129 := n9_
               have NB130_147 := n10_
               have NB147_130 := n11_
               have NB131_147 := n12_
               have NB147_131 := n13_
               have NB137_147 := n14_
               have NB147_137 := n15_
               have HB := n16_
               clear n0_ n1_ n2_ n3_ n4_ n5_ n6_ n7_ n8_ n9_ n10_ n11_ n12_ n13_ n14_ n15_ n16_
               have hHeld := hS_
               try dsimp only at hHeld
               refine norm_ (a' := ?_) ?_ ?_
               rotate_left
               ·simp only [putAll, Act.put, List.setIfInBounds_toArray, List.set_cons_zero, List.set_cons_succ]
                rfl
               refine one_ (i := 2) (N := some 31) #[true, true, true, false, false, true, true, true, true, false, false, true, false] rfl rfl (one_of HT_.out (by kernel_rfl)) (by decide) (fun K hK => ?_)
               refine goes_ Try.func53 (by kernel_rfl) rfl #[.agg #[.int .i64 a0_0, .int .i64 a0_1, .int .i64 a0_2, .int .i64 a0_3, .int .i64 a0_4, .int .i64 a0_5, .int .i64 a0_6, .int .i64 a0_7, .int .i64 a0_8, .int .i64 a0_9, .int .i64 a0_10, .int .i64 a0_11]] (by rfl) rfl rfl (by (try simp only [List.map_toArray, List.map_cons, List.map_nil]); first | done | rfl | (simp only [List.length_drop, List.length_take]; rfl)) ?_
               with_reducible refine (probe_least.calls k a0_0 a0_1 a0_2 a0_3 a0_4 a0_5 a0_6 a0_7 a0_8 a0_9 a0_10 a0_11 t135 _ A8.out).mono ?_
               rintro e w33 ⟨rfl, hb⟩
               refine ⟨_, rfl, ?_⟩
               have n0_ := Aside0.mk (Kd.R_below (by (with_reducible repeat (first | apply Kd.R_alloc | apply Kd.R_drewN | apply Kd.R_drew)); exact HO145.out) hb)
               have n1_ := Aside0.mk (blk_below (by with_reducible repeat first | exact BK129.out | apply bN) hb)
               have n2_ := Aside0.mk (blk_below (by with_reducible repeat first | exact BK130.out | apply bN) hb)
               have n3_ := Aside0.mk (blk_below (by with_reducible repeat first | exact BK131.out | apply bN) hb)
               have n4_ := Aside0.mk (blk_below (by with_reducible repeat first | exact BK137.out | apply bN) hb)
               have n5_ := Aside0.mk (blk_below (by with_reducible repeat first | exact BK147.out | apply bN) hb)
               have n6_ := Aside0.mk (below_step (by with_reducible repeat first | exact HB.out | apply pw_below_drewN) hb)
               clear HO145 BK129 BK130 BK131 BK137 BK147 HB
               have HO145 := n0_
               have BK129 := n1_
               have BK130 := n2_
               have BK131 := n3_
               have BK137 := n4_
               have BK147 := n5_
               have HB := n6_
               clear n0_ n1_ n2_ n3_ n4_ n5_ n6_
               (try clear hb)
               (try clear hb2)
               (try clear hk)
               (try clear hi)
               refine hK.out _ _ (c12 BK129.out) (fun hHeld => ?_)
               clear hK K
               refine norm_ (a' := ?_) ?_ ?_
               rotate_left
               ·show Act.put _ (some 31) _ = _
                simp only [Act.put, List.setIfInBounds_toArray, List.set_cons_zero, List.set_cons_succ, i64_w, i32_w]
                rfl
               exact norm_ (by simp only [putAll, Act.put, List.setIfInBounds_toArray, List.set_cons_zero, List.set_cons_succ] <;> rfl) (hJ2_8_11 (_, gb147) _ ⟨hHeld, (by (with_reducible repeat (first | apply Kd.R_alloc | apply Kd.R_drewN | apply Kd.R_drew)); exact HO145.out), (by with_reducible repeat first | exact BK129.out | apply bN), (by with_reducible repeat first | exact BK130.out | apply bN), (by with_reducible repeat first | exact BK131.out | apply bN), (by with_reducible repeat first | exact BK137.out | apply bN), (by with_reducible repeat first | exact BK147.out | apply bN), GW147.out, GE147.out, NB129_147.out, NB147_129.out, NB130_147.out, NB147_130.out, NB131_147.out, NB147_131.out, NB137_147.out, NB147_137.out, (by repeat (first | (with_reducible first | exact HB.out | apply below_alloc | apply pw_below_drewN | apply below_drew1 | refine below_set ?_ GE129.out | refine below_set ?_ GE130.out | refine below_set ?_ GE131.out | refine below_set ?_ GE137.out | refine below_set ?_ GE147.out) | exact HB.out))⟩)
             ·skip
              rintro gb147 w31 ⟨hS_, h0_, h1_, h2_, h3_, h4_, h5_, h6_, h7_, h8_, h9_, h10_, h11_, h12_, h13_, h14_, h15_⟩
              have n0_ : Aside0 (w31.heap[gb129]? = some (.cells #[.int .i64 a0_0, .int .i64 a0_1, .int .i64 a0_2, .int .i64 a0_3, .int .i64 a0_4, .int .i64 a0_5, .int .i64 a0_6, .int .i64 a0_7, .int .i64 a0_8, .int .i64 a0_9, .int .i64 a0_10, .int .i64 a0_11] 23 (0, 0))) := ⟨h0_⟩
              have n1_ : Aside0 (w31.heap[gb130]? = some (.cells #[.int .i64 a1_0, .int .i64 a1_1, .int .i64 a1_2, .int .i64 a1_3] 57 (0, 0))) := ⟨h1_⟩
              have n2_ : Aside0 (w31.heap[gb131]? = some (.cells #[.int .i64 0, .int .i64 0] 25 (0, 0))) := ⟨h2_⟩
              have n3_ : Aside0 (w31.heap[gb137]? = some (.cells #[.int .i64 t134, .int .i64 t136] 25 (0, 0))) := ⟨h3_⟩
              have n4_ : Aside0 (w31.heap[gb147]? = some (.cells #[.int .i64 0, .int .i64 0] 25 (0, 0))) := ⟨h4_⟩
              have n5_ : Aside0 (w.heap.size ≤ gb147) := ⟨h5_⟩
              have n6_ : Aside0 (w.heap.size ≤ gb147) := ⟨h6_⟩
              have n7_ : Aside0 (gb129 ≠ gb147) := ⟨h7_⟩
              have n8_ : Aside0 (gb147 ≠ gb129) := ⟨h8_⟩
              have n9_ : Aside0 (gb130 ≠ gb147) := ⟨h9_⟩
              have n10_ : Aside0 (gb147 ≠ gb130) := ⟨h10_⟩
              have n11_ : Aside0 (gb131 ≠ gb147) := ⟨h11_⟩
              have n12_ : Aside0 (gb147 ≠ gb131) := ⟨h12_⟩
              have n13_ : Aside0 (gb137 ≠ gb147) := ⟨h13_⟩
              have n14_ : Aside0 (gb147 ≠ gb137) := ⟨h14_⟩
              have n15_ : Aside0 (Below w.heap.size w w31) := ⟨h15_⟩
              clear BK129 BK130 BK131 BK137 HB h0_ h1_ h2_ h3_ h4_ h5_ h6_ h7_ h8_ h9_ h10_ h11_ h12_ h13_ h14_ h15_
              have BK129 := n0_
              have BK130 := n1_
              have BK131 := n2_
              have BK137 := n3_
              have BK147 := n4_
              have GW147 := n5_
              have GE147 := n6_
              have NB129_147 := n7_
              have NB147_129 := n8_
              have NB130_147 := n9_
              have NB147_130 := n10_
              have NB131_147 := n11_
              have NB147_131 := n12_
              have NB137_147 := n13_
              have NB147_137 := n14_
              have HB := n15_
              clear n0_ n1_ n2_ n3_ n4_ n5_ n6_ n7_ n8_ n9_ n10_ n11_ n12_ n13_ n14_ n15_
              have hHeld := hS_
              try dsimp only at hHeld
              refine norm_ (a' := ?_) ?_ ?_
              rotate_left
              ·simp only [putAll, Act.put, List.setIfInBounds_toArray, List.set_cons_zero, List.set_cons_succ]
               rfl
              refine two_ (i := 3) (j := 8) (Ni := some 32) (Nj := some 37) #[true, true, true, true, false, true, true, true, false, false, false, true, false] #[true, true, true, false, false, true, true, true, true, false, false, true, false] rfl rfl rfl rfl (two_of HT_.out (by kernel_rfl)) (by decide) (by decide) (fun K hK => ?_) (fun K hK => ?_)
              ·skip
               refine Kd.R_lit_step (Kd.int .i64) _ 3 ?hg (N := 32) ?hd (xs := ([t133, t135] : List Int)) (inner := [.int .i64 t133, .int .i64 t135]) (ok := fun _ => True) (okp := fun _ => True) ?hr ?hp (fun _ hk => hk) trivial (Below.refl _ _) (Nat.le_refl _) (by simp) ?_; (case hd => rfl); (case hg => rfl); (case hr => first | (go_simp; done) | (go_simp; rfl)); (case hp => exact (Reps.one (show Kd.M (Kd.int .i64) _ _ _ t133 [.int .i64 t133] from rfl) (Reps.one (show Kd.M (Kd.int .i64) _ _ _ t135 [.int .i64 t135] from rfl) (Reps.none _ _))))
               intro v140 w32 ho33 hb hg_ hnew_
               clear hg_ hnew_
               (first | rw [← Ny139.out] at ho33 | (simp only [Int.reduceToNat] at ho33; rw [← Ny139.out] at ho33))
               have n0_ := Aside0.mk (Kd.R_lower ho33 (below_size (by with_reducible repeat first | exact HB.out | apply pw_below_drewN)))
               have n1_ := Aside0.mk (blk_below (by with_reducible repeat first | exact BK129.out | apply bN) hb)
               have n2_ := Aside0.mk (blk_below (by with_reducible repeat first | exact BK130.out | apply bN) hb)
               have n3_ := Aside0.mk (blk_below (by with_reducible repeat first | exact BK131.out | apply bN) hb)
               have n4_ := Aside0.mk (blk_below (by with_reducible repeat first | exact BK137.out | apply bN) hb)
               have n5_ := Aside0.mk (blk_below (by with_reducible repeat first | exact BK147.out | apply bN) hb)
               have n6_ := Aside0.mk (below_step (by with_reducible repeat first | exact HB.out | apply pw_below_drewN) hb)
               clear BK129 BK130 BK131 BK137 BK147 HB
               have HO141 := n0_
               have BK129 := n1_
               have BK130 := n2_
               have BK131 := n3_
               have BK137 := n4_
               have BK147 := n5_
               have HB := n6_
               clear n0_ n1_ n2_ n3_ n4_ n5_ n6_ hb ho33
               refine hK.out _ _ (c12 BK129.out) (fun hHeld => ?_)
               clear hK K
               refine norm_ (a' := ?_) ?_ ?_
               rotate_left
               ·show Act.put _ (some 32) _ = _
                simp only [Act.put, List.setIfInBounds_toArray, List.set_cons_zero, List.set_cons_succ, i64_w, i32_w]
                rfl
               exact norm_ (by simp only [putAll, Act.put, List.setIfInBounds_toArray, List.set_cons_zero, List.set_cons_succ] <;> rfl) (hJ2_3_11 (_, gb147) _ ⟨hHeld, (by (with_reducible repeat (first | apply Kd.R_alloc | apply Kd.R_drewN | apply Kd.R_drew)); exact HO141.out), (by with_reducible repeat first | exact BK129.out | apply bN), (by with_reducible repeat first | exact BK130.out | apply bN), (by with_reducible repeat first | exact BK131.out | apply bN), (by with_reducible repeat first | exact BK137.out | apply bN), (by with_reducible repeat first | exact BK147.out | apply bN), GW147.out, GE147.out, NB129_147.out, NB147_129.out, NB130_147.out, NB147_130.out, NB131_147.out, NB147_131.out, NB137_147.out, NB147_137.out, (by repeat (first | (with_reducible first | exact HB.out | apply below_alloc | apply pw_below_drewN | apply below_drew1 | refine below_set ?_ GE129.out | refine below_set ?_ GE130.out | refine below_set ?_ GE131.out | refine below_set ?_ GE137.out | refine below_set ?_ GE147.out) | exact HB.out))⟩)
              ·skip
               refine Kd.R_lit_step (Kd.int .i64) _ 3 ?hg (N := 37) ?hd (xs := ([t133, a0_5] : List Int)) (inner := [.int .i64 t133, .int .i64 a0_5]) (ok := fun _ => True) (okp := fun _ => True) ?hr ?hp (fun _ hk => hk) trivial (Below.refl _ _) (Nat.le_refl _) (by simp) ?_; (case hd => rfl); (case hg => rfl); (case hr => first | (go_simp; done) | (go_simp; rfl)); (case hp => exact (Reps.one (show Kd.M (Kd.int .i64) _ _ _ t133 [.int .i64 t133] from rfl) (Reps.one (show Kd.M (Kd.int .i64) _ _ _ a0_5 [.int .i64 a0_5] from rfl) (Reps.none _ _))))
               intro v144 w32 ho33 hb hg_ hnew_
               clear hg_ hnew_
               (first | rw [← Ny143.out] at ho33 | (simp only [Int.reduceToNat] at ho33; rw [← Ny143.out] at ho33))
               have n0_ := Aside0.mk (Kd.R_lower ho33 (below_size (by with_reducible repeat first | exact HB.out | apply pw_below_drewN)))
               have n1_ := Aside0.mk (blk_below (by with_reducible repeat first | exact BK129.out | apply bN) hb)
               have n2_ := Aside0.mk (blk_below (by with_reducible repeat first | exact BK130.out | apply bN) hb)
               have n3_ := Aside0.mk (blk_below (by with_reducible repeat first | exact BK131.out | apply bN) hb)
               have n4_ := Aside0.mk (blk_below (by with_reducible repeat first | exact BK137.out | apply bN) hb)
               have n5_ := Aside0.mk (blk_below (by with_reducible repeat first | exact BK147.out | apply bN) hb)
               have n6_ := Aside0.mk (below_step (by with_reducible repeat first | exact HB.out | apply pw_below_drewN) hb)
               clear BK129 BK130 BK131 BK137 BK147 HB
               have HO145 := n0_
               have BK129 := n1_
               have BK130 := n2_
               have BK131 := n3_
               have BK137 := n4_
               have BK147 := n5_
               have HB := n6_
               clear n0_ n1_ n2_ n3_ n4_ n5_ n6_ hb ho33
               refine hK.out _ _ (c12 BK129.out) (fun hHeld => ?_)
               clear hK K
               refine norm_ (a' := ?_) ?_ ?_
               rotate_left
               ·show Act.put _ (some 37) _ = _
                simp only [Act.put, List.setIfInBounds_toArray, List.set_cons_zero, List.set_cons_succ, i64_w, i32_w]
                rfl
               exact norm_ (by simp only [putAll, Act.put, List.setIfInBounds_toArray, List.set_cons_zero, List.set_cons_succ] <;> rfl) (hJ2_8_11 (_, gb147) _ ⟨hHeld, (by (with_reducible repeat (first | apply Kd.R_alloc | apply Kd.R_drewN | apply Kd.R_drew)); exact HO145.out), (by with_reducible repeat first | exact BK129.out | apply bN), (by with_reducible repeat first | exact BK130.out | apply bN), (by with_reducible repeat first | exact BK131.out | apply bN), (by with_reducible repeat first | exact BK137.out | apply bN), (by with_reducible repeat first | exact BK147.out | apply bN), GW147.out, GE147.out, NB129_147.out, NB147_129.out, NB130_147.out, NB147_130.out, NB131_147.out, NB147_131.out, NB137_147.out, NB147_137.out, (by repeat (first | (with_reducible first | exact HB.out | apply below_alloc | apply pw_below_drewN | apply below_drew1 | refine below_set ?_ GE129.out | refine below_set ?_ GE130.out | refine below_set ?_ GE131.out | refine below_set ?_ GE137.out | refine below_set ?_ GE147.out) | exact HB.out))⟩)
            ·skip
             rintro v144 w32 ⟨hS_, h0_, h1_, h2_, h3_, h4_, h5_⟩
             have n0_ : Aside0 (Kd.R (Kd.int .i64) 3 w32 w.heap.size (fun _ => True) v144 y143) := ⟨h0_⟩
             have n1_ : Aside0 (w32.heap[gb129]? = some (.cells #[.int .i64 a0_0, .int .i64 a0_1, .int .i64 a0_2, .int .i64 a0_3, .int .i64 a0_4, .int .i64 a0_5, .int .i64 a0_6, .int .i64 a0_7, .int .i64 a0_8, .int .i64 a0_9, .int .i64 a0_10, .int .i64 a0_11] 23 (0, 0))) := ⟨h1_⟩
             have n2_ : Aside0 (w32.heap[gb130]? = some (.cells #[.int .i64 a1_0, .int .i64 a1_1, .int .i64 a1_2, .int .i64 a1_3] 57 (0, 0))) := ⟨h2_⟩
             have n3_ : Aside0 (w32.heap[gb131]? = some (.cells #[.int .i64 0, .int .i64 0] 25 (0, 0))) := ⟨h3_⟩
             have n4_ : Aside0 (w32.heap[gb137]? = some (.cells #[.int .i64 t134, .int .i64 t136] 25 (0, 0))) := ⟨h4_⟩
             have n5_ : Aside0 (Below w.heap.size w w32) := ⟨h5_⟩
             clear BK129 BK130 BK131 BK137 HB h0_ h1_ h2_ h3_ h4_ h5_
             have HO145 := n0_
             have BK129 := n1_
             have BK130 := n2_
             have BK131 := n3_
             have BK137 := n4_
             have HB := n5_
             clear n0_ n1_ n2_ n3_ n4_ n5_
             have hHeld := hS_
             try dsimp only at hHeld
             refine norm_ (a' := ?_) ?_ ?_
             rotate_left
             ·simp only [putAll, Act.put, List.setIfInBounds_toArray, List.set_cons_zero, List.set_cons_succ]
              rfl
             refine two_ (i := 3) (j := 11) (Ni := some 32) (Nj := some 8) #[true, true, true, true, false, true, true, true, true, false, false, false, false] #[true, true, true, false, false, true, true, true, true, false, false, true, false] rfl rfl rfl rfl (two_of HT_.out (by kernel_rfl)) (by decide) (by decide) (fun K hK => ?_) (fun K hK => ?_)
             ·skip
              refine Kd.R_lit_step (Kd.int .i64) _ 3 ?hg (N := 32) ?hd (xs := ([t133, t135] : List Int)) (inner := [.int .i64 t133, .int .i64 t135]) (ok := fun _ => True) (okp := fun _ => True) ?hr ?hp (fun _ hk => hk) trivial (Below.refl _ _) (Nat.le_refl _) (by simp) ?_; (case hd => rfl); (case hg => rfl); (case hr => first | (go_simp; done) | (go_simp; rfl)); (case hp => exact (Reps.one (show Kd.M (Kd.int .i64) _ _ _ t133 [.int .i64 t133] from rfl) (Reps.one (show Kd.M (Kd.int .i64) _ _ _ t135 [.int .i64 t135] from rfl) (Reps.none _ _))))
              intro v140 w33 ho34 hb hg_ hnew_
              clear hg_ hnew_
              (first | rw [← Ny139.out] at ho34 | (simp only [Int.reduceToNat] at ho34; rw [← Ny139.out] at ho34))
              have n0_ := Aside0.mk (Kd.R_elder' (by (with_reducible repeat (first | apply Kd.R_alloc | apply Kd.R_drewN | apply Kd.R_drew)); exact HO145.out) (Kd.R_base ho34) hb)
              have n1_ := Aside0.mk (Kd.R_lower (Kd.R_new' ho34 (Kd.R_lt (by (with_reducible repeat (first | apply Kd.R_alloc | apply Kd.R_drewN | apply Kd.R_drew)); exact HO145.out))) (below_size (by with_reducible repeat first | exact HB.out | apply pw_below_drewN)))
              have n2_ := Aside0.mk (blk_below (by with_reducible repeat first | exact BK129.out | apply bN) hb)
              have n3_ := Aside0.mk (blk_below (by with_reducible repeat first | exact BK130.out | apply bN) hb)
              have n4_ := Aside0.mk (blk_below (by with_reducible repeat first | exact BK131.out | apply bN) hb)
              have n5_ := Aside0.mk (blk_below (by with_reducible repeat first | exact BK137.out | apply bN) hb)
              have n6_ := Aside0.mk (below_step (by with_reducible repeat first | exact HB.out | apply pw_below_drewN) hb)
              clear HO145 BK129 BK130 BK131 BK137 HB
              have HO145 := n0_
              have HO141 := n1_
              have BK129 := n2_
              have BK130 := n3_
              have BK131 := n4_
              have BK137 := n5_
              have HB := n6_
              clear n0_ n1_ n2_ n3_ n4_ n5_ n6_ hb ho34
              refine hK.out _ _ (c12 BK129.out) (fun hHeld => ?_)
              clear hK K
              refine norm_ (a' := ?_) ?_ ?_
              rotate_left
              ·show Act.put _ (some 32) _ = _
               simp only [Act.put, List.setIfInBounds_toArray, List.set_cons_zero, List.set_cons_succ, i64_w, i32_w]
               rfl
              exact norm_ (by simp only [putAll, Act.put, List.setIfInBounds_toArray, List.set_cons_zero, List.set_cons_succ] <;> rfl) (hJ2_3_8 (_, _) _ ⟨hHeld, (by (with_reducible repeat (first | apply Kd.R_alloc | apply Kd.R_drewN | apply Kd.R_drew)); exact Kd.R_mono HO141.out (fun _ hk => hk.2)), (by (with_reducible repeat (first | apply Kd.R_alloc | apply Kd.R_drewN | apply Kd.R_drew)); exact Kd.R_mono HO145.out (fun _ hk => hk.2)), (by with_reducible repeat first | exact BK129.out | apply bN), (by with_reducible repeat first | exact BK130.out | apply bN), (by with_reducible repeat first | exact BK131.out | apply bN), (by with_reducible repeat first | exact BK137.out | apply bN), (by repeat (first | (with_reducible first | exact HB.out | apply below_alloc | apply pw_below_drewN | apply below_drew1 | refine below_set ?_ GE129.out | refine below_set ?_ GE130.out | refine below_set ?_ GE131.out | refine below_set ?_ GE137.out) | exact HB.out))⟩)
             ·skip
              refine box_step ?hg (N := 8) ?hd (cs := #[.int .i64 0, .int .i64 0]) (t := 25) ?hr ?_; (case hd => rfl); (case hg => rfl); (case hr => first | (go_simp; done) | (go_simp; rfl))
              intro gb147 hg w33 hbox hb
              have n0_ := Aside0.mk (Kd.R_below (by (with_reducible repeat (first | apply Kd.R_alloc | apply Kd.R_drewN | apply Kd.R_drew)); exact HO145.out) hb)
              have n1_ := Aside0.mk (blk_below (by with_reducible repeat first | exact BK129.out | apply bN) hb)
              have n2_ := Aside0.mk (blk_below (by with_reducible repeat first | exact BK130.out | apply bN) hb)
              have n3_ := Aside0.mk (blk_below (by with_reducible repeat first | exact BK131.out | apply bN) hb)
              have n4_ := Aside0.mk (blk_below (by with_reducible repeat first | exact BK137.out | apply bN) hb)
              have n5_ := Aside0.mk (below_step (by with_reducible repeat first | exact HB.out | apply pw_below_drewN) hb)
              have n6_ := Aside0.mk (hbox)
              have n7_ := Aside0.mk ((by rw [hg]; exact (below_size (by with_reducible repeat first | exact HB.out | apply pw_below_drewN)) : w.heap.size ≤ gb147))
              have n8_ := Aside0.mk ((by rw [hg]; exact (below_size (by with_reducible repeat first | exact HB.out | apply pw_below_drewN)) : w.heap.size ≤ gb147))
              have n9_ := Aside0.mk ((by rw [hg]; exact Nat.ne_of_lt (blk_lt (by with_reducible repeat first | exact BK129.out | apply bN)) : gb129 ≠ gb147))
              have n10_ := Aside0.mk ((by rw [hg]; exact Nat.ne_of_gt (blk_lt (by with_reducible repeat first | exact BK129.out | apply bN)) : gb147 ≠ gb129))
              have n11_ := Aside0.mk ((by rw [hg]; exact Nat.ne_of_lt (blk_lt (by with_reducible repeat first | exact BK130.out | apply bN)) : gb130 ≠ gb147))
              have n12_ := Aside0.mk ((by rw [hg]; exact Nat.ne_of_gt (blk_lt (by with_reducible repeat first | exact BK130.out | apply bN)) : gb147 ≠ gb130))
              have n13_ := Aside0.mk ((by rw [hg]; exact Nat.ne_of_lt (blk_lt (by with_reducible repeat first | exact BK131.out | apply bN)) : gb131 ≠ gb147))
              have n14_ := Aside0.mk ((by rw [hg]; exact Nat.ne_of_gt (blk_lt (by with_reducible repeat first | exact BK131.out | apply bN)) : gb147 ≠ gb131))
              have n15_ := Aside0.mk ((by rw [hg]; exact Nat.ne_of_lt (blk_lt (by with_reducible repeat first | exact BK137.out | apply bN)) : gb137 ≠ gb147))
              have n16_ := Aside0.mk ((by rw [hg]; exact Nat.ne_of_gt (blk_lt (by with_reducible repeat first | exact BK137.out | apply bN)) : gb147 ≠ gb137))
              clear HO145 BK129 BK130 BK131 BK137 HB
              have HO145 := n0_
              have BK129 := n1_
              have BK130 := n2_
              have BK131 := n3_
              have BK137 := n4_
              have HB := n5_
              have BK147 := n6_
              have GW147 := n7_
              have GE147 := n8_
              have NB129_147 := n9_
              have NB147_129 := n10_
              have NB130_147 := n11_
              have NB147_130 := n12_
              have NB131_147 := n13_
              have NB147_131 := n14_
              have NB137_147 := n15_
              have NB147_137 := n16_
              clear n0_ n1_ n2_ n3_ n4_ n5_ n6_ n7_ n8_ n9_ n10_ n11_ n12_ n13_ n14_ n15_ n16_ hb hbox hg
              refine hK.out _ _ (c12 BK129.out) (fun hHeld => ?_)
              clear hK K
              refine norm_ (a' := ?_) ?_ ?_
              rotate_left
              ·show Act.put _ (some 8) _ = _
               simp only [Act.put, List.setIfInBounds_toArray, List.set_cons_zero, List.set_cons_succ, i64_w, i32_w]
               rfl
              exact norm_ (by simp only [putAll, Act.put, List.setIfInBounds_toArray, List.set_cons_zero, List.set_cons_succ] <;> rfl) (hJ2_8_11 (_, gb147) _ ⟨hHeld, (by (with_reducible repeat (first | apply Kd.R_alloc | apply Kd.R_drewN | apply Kd.R_drew)); exact HO145.out), (by with_reducible repeat first | exact BK129.out | apply bN), (by with_reducible repeat first | exact BK130.out | apply bN), (by with_reducible repeat first | exact BK131.out | apply bN), (by with_reducible repeat first | exact BK137.out | apply bN), (by with_reducible repeat first | exact BK147.out | apply bN), GW147.out, GE147.out, NB129_147.out, NB147_129.out, NB130_147.out, NB147_130.out, NB131_147.out, NB147_131.out, NB137_147.out, NB147_137.out, (by repeat (first | (with_reducible first | exact HB.out | apply below_alloc | apply pw_below_drewN | apply below_drew1 | refine below_set ?_ GE129.out | refine below_set ?_ GE130.out | refine below_set ?_ GE131.out | refine below_set ?_ GE137.out | refine below_set ?_ GE147.out) | exact HB.out))⟩)
           ·skip
            rintro v140 w32 ⟨hS_, h0_, h1_, h2_, h3_, h4_, h5_⟩
            have n0_ : Aside0 (Kd.R (Kd.int .i64) 3 w32 w.heap.size (fun _ => True) v140 y139) := ⟨h0_⟩
            have n1_ : Aside0 (w32.heap[gb129]? = some (.cells #[.int .i64 a0_0, .int .i64 a0_1, .int .i64 a0_2, .int .i64 a0_3, .int .i64 a0_4, .int .i64 a0_5, .int .i64 a0_6, .int .i64 a0_7, .int .i64 a0_8, .int .i64 a0_9, .int .i64 a0_10, .int .i64 a0_11] 23 (0, 0))) := ⟨h1_⟩
            have n2_ : Aside0 (w32.heap[gb130]? = some (.cells #[.int .i64 a1_0, .int .i64 a1_1, .int .i64 a1_2, .int .i64 a1_3] 57 (0, 0))) := ⟨h2_⟩
            have n3_ : Aside0 (w32.heap[gb131]? = some (.cells #[.int .i64 0, .int .i64 0] 25 (0, 0))) := ⟨h3_⟩
            have n4_ : Aside0 (w32.heap[gb137]? = some (.cells #[.int .i64 t134, .int .i64 t136] 25 (0, 0))) := ⟨h4_⟩
            have n5_ : Aside0 (Below w.heap.size w w32) := ⟨h5_⟩
            clear BK129 BK130 BK131 BK137 HB h0_ h1_ h2_ h3_ h4_ h5_
            have HO141 := n0_
            have BK129 := n1_
            have BK130 := n2_
            have BK131 := n3_
            have BK137 := n4_
            have HB := n5_
            clear n0_ n1_ n2_ n3_ n4_ n5_
            have hHeld := hS_
            try dsimp only at hHeld
            obtain ⟨Ao33, co33, eo33⟩ := Kd.R_slice HO141.out
            (first | subst eo33 | (injection eo33 with f1_ f2_ f3_; have f4_ := f1_.symm; have f5_ := f3_.symm; clear f1_ f2_ f3_; subst f4_; subst f5_))
            refine norm_ (a' := ?_) ?_ ?_
            rotate_left
            ·simp only [putAll, Act.put, List.setIfInBounds_toArray, List.set_cons_zero, List.set_cons_succ]
             rfl
            refine three_ (i := 4) (j := 8) (k := 11) (Ni := some 33) (Nj := some 37) (Nk := some 8) #[true, true, true, true, true, true, true, true, false, false, false, false, false] #[true, true, true, true, false, true, true, true, true, false, false, false, false] #[true, true, true, true, false, true, true, true, false, false, false, true, false] rfl rfl rfl rfl rfl rfl (three_of HT_.out (by kernel_rfl)) (by decide) (by decide) (by decide) (fun K hK => ?_) (fun K hK => ?_) (fun K hK => ?_)
            ·skip
             refine goes_ Try.func41 (by kernel_rfl) rfl #[.slice Ao33 y139.length co33] (by rfl) rfl rfl (by (try simp only [List.map_toArray, List.map_cons, List.map_nil]); first | done | rfl | (simp only [List.length_drop, List.length_take]; rfl)) ?_
             with_reducible refine (sat_Add.calls k _ _ y139 t142 _ ?side1 ?side2 A9.out).mono ?_
             (case side1 => repeat (first | exact (Kd.R_reads' HO141.out).2.2 | (with_reducible refine Kd.C_alloc ?_ _) | (with_reducible refine Kd.C_drewN ?_ _) | (with_reducible refine Kd.C_drew ?_)))
             (case side2 => exact (Kd.R_reads' HO141.out).2.1)
             rintro e w' ⟨rfl, ⟨nd, rfl⟩⟩
             refine ⟨_, rfl, ?_⟩
             refine hK.out _ _ (c12 BK129.out) (fun hHeld => ?_)
             clear hK K
             refine norm_ (a' := ?_) ?_ ?_
             rotate_left
             ·show Act.put _ (some 33) _ = _
              simp only [Act.put, List.setIfInBounds_toArray, List.set_cons_zero, List.set_cons_succ, i64_w, i32_w]
              rfl
             exact norm_ (by simp only [putAll, Act.put, List.setIfInBounds_toArray, List.set_cons_zero, List.set_cons_succ] <;> rfl) (hJ2_3_4 (.slice Ao33 y139.length co33) _ ⟨hHeld, (by (with_reducible repeat (first | apply Kd.R_alloc | apply Kd.R_drewN | apply Kd.R_drew)); exact HO141.out), (by with_reducible repeat first | exact BK129.out | apply bN), (by with_reducible repeat first | exact BK130.out | apply bN), (by with_reducible repeat first | exact BK131.out | apply bN), (by with_reducible repeat first | exact BK137.out | apply bN), (by repeat (first | (with_reducible first | exact HB.out | apply below_alloc | apply pw_below_drewN | apply below_drew1 | refine below_set ?_ GE129.out | refine below_set ?_ GE130.out | refine below_set ?_ GE131.out | refine below_set ?_ GE137.out) | exact HB.out))⟩)
            ·skip
             refine Kd.R_lit_step (Kd.int .i64) _ 3 ?hg (N := 37) ?hd (xs := ([t133, a0_5] : List Int)) (inner := [.int .i64 t133, .int .i64 a0_5]) (ok := fun _ => True) (okp := fun _ => True) ?hr ?hp (fun _ hk => hk) trivial (Below.refl _ _) (Nat.le_refl _) (by simp) ?_; (case hd => rfl); (case hg => rfl); (case hr => first | (go_simp; done) | (go_simp; rfl)); (case hp => exact (Reps.one (show Kd.M (Kd.int .i64) _ _ _ t133 [.int .i64 t133] from rfl) (Reps.one (show Kd.M (Kd.int .i64) _ _ _ a0_5 [.int .i64 a0_5] from rfl) (Reps.none _ _))))
             intro v144 w33 ho34 hb hg_ hnew_
             clear hg_ hnew_
             (first | rw [← Ny143.out] at ho34 | (simp only [Int.reduceToNat] at ho34; rw [← Ny143.out] at ho34))
             have n0_ := Aside0.mk (Kd.R_elder' (by (with_reducible repeat (first | apply Kd.R_alloc | apply Kd.R_drewN | apply Kd.R_drew)); exact HO141.out) (Kd.R_base ho34) hb)
             have n1_ := Aside0.mk (Kd.R_lower (Kd.R_new' ho34 (Kd.R_lt (by (with_reducible repeat (first | apply Kd.R_alloc | apply Kd.R_drewN | apply Kd.R_drew)); exact HO141.out))) (below_size (by with_reducible repeat first | exact HB.out | apply pw_below_drewN)))
             have n2_ := Aside0.mk (blk_below (by with_reducible repeat first | exact BK129.out | apply bN) hb)
             have n3_ := Aside0.mk (blk_below (by with_reducible repeat first | exact BK130.out | apply bN) hb)
             have n4_ := Aside0.mk (blk_below (by with_reducible repeat first | exact BK131.out | apply bN) hb)
             have n5_ := Aside0.mk (blk_below (by with_reducible repeat first | exact BK137.out | apply bN) hb)
             have n6_ := Aside0.mk (below_step (by with_reducible repeat first | exact HB.out | apply pw_below_drewN) hb)
             clear HO141 BK129 BK130 BK131 BK137 HB
             have HO141 := n0_
             have HO145 := n1_
             have BK129 := n2_
             have BK130 := n3_
             have BK131 := n4_
             have BK137 := n5_
             have HB := n6_
             clear n0_ n1_ n2_ n3_ n4_ n5_ n6_ hb ho34
             refine hK.out _ _ (c12 BK129.out) (fun hHeld => ?_)
             clear hK K
             refine norm_ (a' := ?_) ?_ ?_
             rotate_left
             ·show Act.put _ (some 37) _ = _
              simp only [Act.put, List.setIfInBounds_toArray, List.set_cons_zero, List.set_cons_succ, i64_w, i32_w]
              rfl
             exact norm_ (by simp only [putAll, Act.put, List.setIfInBounds_toArray, List.set_cons_zero, List.set_cons_succ] <;> rfl) (hJ2_3_8 (_, _) _ ⟨hHeld, (by (with_reducible repeat (first | apply Kd.R_alloc | apply Kd.R_drewN | apply Kd.R_drew)); exact Kd.R_mono HO141.out (fun _ hk => hk.2)), (by (with_reducible repeat (first | apply Kd.R_alloc | apply Kd.R_drewN | apply Kd.R_drew)); exact Kd.R_mono HO145.out (fun _ hk => hk.2)), (by with_reducible repeat first | exact BK129.out | apply bN), (by with_reducible repeat first | exact BK130.out | apply bN), (by with_reducible repeat first | exact BK131.out | apply bN), (by with_reducible repeat first | exact BK137.out | apply bN), (by repeat (first | (with_reducible first | exact HB.out | apply below_alloc | apply pw_below_drewN | apply below_drew1 | refine below_set ?_ GE129.out | refine below_set ?_ GE130.out | refine below_set ?_ GE131.out | refine below_set ?_ GE137.out) | exact HB.out))⟩)
            ·skip
             refine box_step ?hg (N := 8) ?hd (cs := #[.int .i64 0, .int .i64 0]) (t := 25) ?hr ?_; (case hd => rfl); (case hg => rfl); (case hr => first | (go_simp; done) | (go_simp; rfl))
             intro gb147 hg w33 hbox hb
             have n0_ := Aside0.mk (Kd.R_below (by (with_reducible repeat (first | apply Kd.R_alloc | apply Kd.R_drewN | apply Kd.R_drew)); exact HO141.out) hb)
             have n1_ := Aside0.mk (blk_below (by with_reducible repeat first | exact BK129.out | apply bN) hb)
             have n2_ := Aside0.mk (blk_below (by with_reducible repeat first | exact BK130.out | apply bN) hb)
             have n3_ := Aside0.mk (blk_below (by with_reducible repeat first | exact BK131.out | apply bN) hb)
             have n4_ := Aside0.mk (blk_below (by with_reducible repeat first | exact BK137.out | apply bN) hb)
             have n5_ := Aside0.mk (below_step (by with_reducible repeat first | exact HB.out | apply pw_below_drewN) hb)
             have n6_ := Aside0.mk (hbox)
             have n7_ := Aside0.mk ((by rw [hg]; exact (below_size (by with_reducible repeat first | exact HB.out | apply pw_below_drewN)) : w.heap.size ≤ gb147))
             have n8_ := Aside0.mk ((by rw [hg]; exact (below_size (by with_reducible repeat first | exact HB.out | apply pw_below_drewN)) : w.heap.size ≤ gb147))
             have n9_ := Aside0.mk ((by rw [hg]; exact Nat.ne_of_lt (blk_lt (by with_reducible repeat first | exact BK129.out | apply bN)) : gb129 ≠ gb147))
             have n10_ := Aside0.mk ((by rw [hg]; exact Nat.ne_of_gt (blk_lt (by with_reducible repeat first | exact BK129.out | apply bN)) : gb147 ≠ gb129))
             have n11_ := Aside0.mk ((by rw [hg]; exact Nat.ne_of_lt (blk_lt (by with_reducible repeat first | exact BK130.out | apply bN)) : gb130 ≠ gb147))
             have n12_ := Aside0.mk ((by rw [hg]; exact Nat.ne_of_gt (blk_lt (by with_reducible repeat first | exact BK130.out | apply bN)) : gb147 ≠ gb130))
             have n13_ := Aside0.mk ((by rw [hg]; exact Nat.ne_of_lt (blk_lt (by with_reducible repeat first | exact BK131.out | apply bN)) : gb131 ≠ gb147))
             have n14_ := Aside0.mk ((by rw [hg]; exact Nat.ne_of_gt (blk_lt (by with_reducible repeat first | exact BK131.out | apply bN)) : gb147 ≠ gb131))
             have n15_ := Aside0.mk ((by rw [hg]; exact Nat.ne_of_lt (blk_lt (by with_reducible repeat first | exact BK137.out | apply bN)) : gb137 ≠ gb147))
             have n16_ := Aside0.mk ((by rw [hg]; exact Nat.ne_of_gt (blk_lt (by with_reducible repeat first | exact BK137.out | apply bN)) : gb147 ≠ gb137))
             clear HO141 BK129 BK130 BK131 BK137 HB
             have HO141 := n0_
             have BK129 := n1_
             have BK130 := n2_
             have BK131 := n3_
             have BK137 := n4_
             have HB := n5_
             have BK147 := n6_
             have GW147 := n7_
             have GE147 := n8_
             have NB129_147 := n9_
             have NB147_129 := n10_
             have NB130_147 := n11_
             have NB147_130 := n12_
             have NB131_147 := n13_
             have NB147_131 := n14_
             have NB137_147 := n15_
             have NB147_137 := n16_
             clear n0_ n1_ n2_ n3_ n4_ n5_ n6_ n7_ n8_ n9_ n10_ n11_ n12_ n13_ n14_ n15_ n16_ hb hbox hg
             refine hK.out _ _ (c12 BK129.out) (fun hHeld => ?_)
             clear hK K
             refine norm_ (a' := ?_) ?_ ?_
             rotate_left
             ·show Act.put _ (some 8) _ = _
              simp only [Act.put, List.setIfInBounds_toArray, List.set_cons_zero, List.set_cons_succ, i64_w, i32_w]
              rfl
             exact norm_ (by simp only [putAll, Act.put, List.setIfInBounds_toArray, List.set_cons_zero, List.set_cons_succ] <;> rfl) (hJ2_3_11 (_, gb147) _ ⟨hHeld, (by (with_reducible repeat (first | apply Kd.R_alloc | apply Kd.R_drewN | apply Kd.R_drew)); exact HO141.out), (by with_reducible repeat first | exact BK129.out | apply bN), (by with_reducible repeat first | exact BK130.out | apply bN), (by with_reducible repeat first | exact BK131.out | apply bN), (by with_reducible repeat first | exact BK137.out | apply bN), (by with_reducible repeat first | exact BK147.out | apply bN), GW147.out, GE147.out, NB129_147.out, NB147_129.out, NB130_147.out, NB147_130.out, NB131_147.out, NB147_131.out, NB137_147.out, NB147_137.out, (by repeat (first | (with_reducible first | exact HB.out | apply below_alloc | apply pw_below_drewN | apply below_drew1 | refine below_set ?_ GE129.out | refine below_set ?_ GE130.out | refine below_set ?_ GE131.out | refine below_set ?_ GE137.out | refine below_set ?_ GE147.out) | exact HB.out))⟩)
          ·skip
           rintro ⟨v144, gb147⟩ w33 ⟨hS_, h0_, h1_, h2_, h3_, h4_, h5_, h6_, h7_, h8_, h9_, h10_, h11_, h12_, h13_, h14_, h15_, h16_⟩
           have n0_ : Aside0 (Kd.R (Kd.int .i64) 3 w33 w.heap.size (fun _ => True) v144 y143) := ⟨h0_⟩
           have n1_ : Aside0 (w33.heap[gb129]? = some (.cells #[.int .i64 a0_0, .int .i64 a0_1, .int .i64 a0_2, .int .i64 a0_3, .int .i64 a0_4, .int .i64 a0_5, .int .i64 a0_6, .int .i64 a0_7, .int .i64 a0_8, .int .i64 a0_9, .int .i64 a0_10, .int .i64 a0_11] 23 (0, 0))) := ⟨h1_⟩
           have n2_ : Aside0 (w33.heap[gb130]? = some (.cells #[.int .i64 a1_0, .int .i64 a1_1, .int .i64 a1_2, .int .i64 a1_3] 57 (0, 0))) := ⟨h2_⟩
           have n3_ : Aside0 (w33.heap[gb131]? = some (.cells #[.int .i64 0, .int .i64 0] 25 (0, 0))) := ⟨h3_⟩
           have n4_ : Aside0 (w33.heap[gb137]? = some (.cells #[.int .i64 t134, .int .i64 t136] 25 (0, 0))) := ⟨h4_⟩
           have n5_ : Aside0 (w33.heap[gb147]? = some (.cells #[.int .i64 0, .int .i64 0] 25 (0, 0))) := ⟨h5_⟩
           have n6_ : Aside0 (w.heap.size ≤ gb147) := ⟨h6_⟩
           have n7_ : Aside0 (w.heap.size ≤ gb147) := ⟨h7_⟩
           have n8_ : Aside0 (gb129 ≠ gb147) := ⟨h8_⟩
           have n9_ : Aside0 (gb147 ≠ gb129) := ⟨h9_⟩
           have n10_ : Aside0 (gb130 ≠ gb147) := ⟨h10_⟩
           have n11_ : Aside0 (gb147 ≠ gb130) := ⟨h11_⟩
           have n12_ : Aside0 (gb131 ≠ gb147) := ⟨h12_⟩
           have n13_ : Aside0 (gb147 ≠ gb131) := ⟨h13_⟩
           have n14_ : Aside0 (gb137 ≠ gb147) := ⟨h14_⟩
           have n15_ : Aside0 (gb147 ≠ gb137) := ⟨h15_⟩
           have n16_ : Aside0 (Below w.heap.size w w33) := ⟨h16_⟩
           clear BK129 BK130 BK131 BK137 HB h0_ h1_ h2_ h3_ h4_ h5_ h6_ h7_ h8_ h9_ h10_ h11_ h12_ h13_ h14_ h15_ h16_
           have HO145 := n0_
           have BK129 := n1_
           have BK130 := n2_
           have BK131 := n3_
           have BK137 := n4_
           have BK147 := n5_
           have GW147 := n6_
           have GE147 := n7_
           have NB129_147 := n8_
           have NB147_129 := n9_
           have NB130_147 := n10_
           have NB147_130 := n11_
           have NB131_147 := n12_
           have NB147_131 := n13_
           have NB137_147 := n14_
           have NB147_137 := n15_
           have HB := n16_
           clear n0_ n1_ n2_ n3_ n4_ n5_ n6_ n7_ n8_ n9_ n10_ n11_ n12_ n13_ n14_ n15_ n16_
           have hHeld := hS_
           try dsimp only at hHeld
           refine norm_ (a' := ?_) ?_ ?_
           rotate_left
           ·simp only [putAll, Act.put, List.setIfInBounds_toArray, List.set_cons_zero, List.set_cons_succ]
            rfl
           refine one_ (i := 3) (N := some 32) #[true, true, true, true, false, true, true, true, true, false, false, true, false] rfl rfl (one_of HT_.out (by kernel_rfl)) (by decide) (fun K hK => ?_)
           refine Kd.R_lit_step (Kd.int .i64) _ 3 ?hg (N := 32) ?hd (xs := ([t133, t135] : List Int)) (inner := [.int .i64 t133, .int .i64 t135]) (ok := fun _ => True) (okp := fun _ => True) ?hr ?hp (fun _ hk => hk) trivial (Below.refl _ _) (Nat.le_refl _) (by simp) ?_; (case hd => rfl); (case hg => rfl); (case hr => first | (go_simp; done) | (go_simp; rfl)); (case hp => exact (Reps.one (show Kd.M (Kd.int .i64) _ _ _ t133 [.int .i64 t133] from rfl) (Reps.one (show Kd.M (Kd.int .i64) _ _ _ t135 [.int .i64 t135] from rfl) (Reps.none _ _))))
           intro v140 w34 ho35 hb hg_ hnew_
           clear hg_ hnew_
           (first | rw [← Ny139.out] at ho35 | (simp only [Int.reduceToNat] at ho35; rw [← Ny139.out] at ho35))
           have n0_ := Aside0.mk (Kd.R_elder' (by (with_reducible repeat (first | apply Kd.R_alloc | apply Kd.R_drewN | apply Kd.R_drew)); exact HO145.out) (Kd.R_base ho35) hb)
           have n1_ := Aside0.mk (Kd.R_lower (Kd.R_new' ho35 (Kd.R_lt (by (with_reducible repeat (first | apply Kd.R_alloc | apply Kd.R_drewN | apply Kd.R_drew)); exact HO145.out))) (below_size (by with_reducible repeat first | exact HB.out | apply pw_below_drewN)))
           have n2_ := Aside0.mk (blk_below (by with_reducible repeat first | exact BK129.out | apply bN) hb)
           have n3_ := Aside0.mk (blk_below (by with_reducible repeat first | exact BK130.out | apply bN) hb)
           have n4_ := Aside0.mk (blk_below (by with_reducible repeat first | exact BK131.out | apply bN) hb)
           have n5_ := Aside0.mk (blk_below (by with_reducible repeat first | exact BK137.out | apply bN) hb)
           have n6_ := Aside0.mk (blk_below (by with_reducible repeat first | exact BK147.out | apply bN) hb)
           have n7_ := Aside0.mk (below_step (by with_reducible repeat first | exact HB.out | apply pw_below_drewN) hb)
           clear HO145 BK129 BK130 BK131 BK137 BK147 HB
           have HO145 := n0_
           have HO141 := n1_
           have BK129 := n2_
           have BK130 := n3_
           have BK131 := n4_
           have BK137 := n5_
           have BK147 := n6_
           have HB := n7_
           clear n0_ n1_ n2_ n3_ n4_ n5_ n6_ n7_ hb ho35
           refine hK.out _ _ (c12 BK129.out) (fun hHeld => ?_)
           clear hK K
           refine norm_ (a' := ?_) ?_ ?_
           rotate_left
           ·show Act.put _ (some 32) _ = _
            simp only [Act.put, List.setIfInBounds_toArray, List.set_cons_zero, List.set_cons_succ, i64_w, i32_w]
            rfl
           exact norm_ (by simp only [putAll, Act.put, List.setIfInBounds_toArray, List.set_cons_zero, List.set_cons_succ] <;> rfl) (hJ2_3_8_11 (_, _, gb147) _ ⟨hHeld, (by (with_reducible repeat (first | apply Kd.R_alloc | apply Kd.R_drewN | apply Kd.R_drew)); exact Kd.R_mono HO141.out (fun _ hk => hk.2)), (by (with_reducible repeat (first | apply Kd.R_alloc | apply Kd.R_drewN | apply Kd.R_drew)); exact Kd.R_mono HO145.out (fun _ hk => hk.2)), (by with_reducible repeat first | exact BK129.out | apply bN), (by with_reducible repeat first | exact BK130.out | apply bN), (by with_reducible repeat first | exact BK131.out | apply bN), (by with_reducible repeat first | exact BK137.out | apply bN), (by with_reducible repeat first | exact BK147.out | apply bN), GW147.out, GE147.out, NB129_147.out, NB147_129.out, NB130_147.out, NB147_130.out, NB131_147.out, NB147_131.out, NB137_147.out, NB147_137.out, (by repeat (first | (with_reducible first | exact HB.out | apply below_alloc | apply pw_below_drewN | apply below_drew1 | refine below_set ?_ GE129.out | refine below_set ?_ GE130.out | refine below_set ?_ GE131.out | refine below_set ?_ GE137.out | refine below_set ?_ GE147.out) | exact HB.out))⟩)
         ·skip
          rintro ⟨v140, gb147⟩ w33 ⟨hS_, h0_, h1_, h2_, h3_, h4_, h5_, h6_, h7_, h8_, h9_, h10_, h11_, h12_, h13_, h14_, h15_, h16_⟩
          have n0_ : Aside0 (Kd.R (Kd.int .i64) 3 w33 w.heap.size (fun _ => True) v140 y139) := ⟨h0_⟩
          have n1_ : Aside0 (w33.heap[gb129]? = some (.cells #[.int .i64 a0_0, .int .i64 a0_1, .int .i64 a0_2, .int .i64 a0_3, .int .i64 a0_4, .int .i64 a0_5, .int .i64 a0_6, .int .i64 a0_7, .int .i64 a0_8, .int .i64 a0_9, .int .i64 a0_10, .int .i64 a0_11] 23 (0, 0))) := ⟨h1_⟩
          have n2_ : Aside0 (w33.heap[gb130]? = some (.cells #[.int .i64 a1_0, .int .i64 a1_1, .int .i64 a1_2, .int .i64 a1_3] 57 (0, 0))) := ⟨h2_⟩
          have n3_ : Aside0 (w33.heap[gb131]? = some (.cells #[.int .i64 0, .int .i64 0] 25 (0, 0))) := ⟨h3_⟩
          have n4_ : Aside0 (w33.heap[gb137]? = some (.cells #[.int .i64 t134, .int .i64 t136] 25 (0, 0))) := ⟨h4_⟩
          have n5_ : Aside0 (w33.heap[gb147]? = some (.cells #[.int .i64 0, .int .i64 0] 25 (0, 0))) := ⟨h5_⟩
          have n6_ : Aside0 (w.heap.size ≤ gb147) := ⟨h6_⟩
          have n7_ : Aside0 (w.heap.size ≤ gb147) := ⟨h7_⟩
          have n8_ : Aside0 (gb129 ≠ gb147) := ⟨h8_⟩
          have n9_ : Aside0 (gb147 ≠ gb129) := ⟨h9_⟩
          have n10_ : Aside0 (gb130 ≠ gb147) := ⟨h10_⟩
          have n11_ : Aside0 (gb147 ≠ gb130) := ⟨h11_⟩
          have n12_ : Aside0 (gb131 ≠ gb147) := ⟨h12_⟩
          have n13_ : Aside0 (gb147 ≠ gb131) := ⟨h13_⟩
          have n14_ : Aside0 (gb137 ≠ gb147) := ⟨h14_⟩
          have n15_ : Aside0 (gb147 ≠ gb137) := ⟨h15_⟩
          have n16_ : Aside0 (Below w.heap.size w w33) := ⟨h16_⟩
          clear BK129 BK130 BK131 BK137 HB h0_ h1_ h2_ h3_ h4_ h5_ h6_ h7_ h8_ h9_ h10_ h11_ h12_ h13_ h14_ h15_ h16_
          have HO141 := n0_
          have BK129 := n1_
          have BK130 := n2_
          have BK131 := n3_
          have BK137 := n4_
          have BK147 := n5_
          have GW147 := n6_
          have GE147 := n7_
          have NB129_147 := n8_
          have NB147_129 := n9_
          have NB130_147 := n10_
          have NB147_130 := n11_
          have NB131_147 := n12_
          have NB147_131 := n13_
          have NB137_147 := n14_
          have NB147_137 := n15_
          have HB := n16_
          clear n0_ n1_ n2_ n3_ n4_ n5_ n6_ n7_ n8_ n9_ n10_ n11_ n12_ n13_ n14_ n15_ n16_
          have hHeld := hS_
          try dsimp only at hHeld
          obtain ⟨Ao34, co34, eo34⟩ := Kd.R_slice HO141.out
          (first | subst eo34 | (injection eo34 with f1_ f2_ f3_; have f4_ := f1_.symm; have f5_ := f3_.symm; clear f1_ f2_ f3_; subst f4_; subst f5_))
          refine norm_ (a' := ?_) ?_ ?_
          rotate_left
          ·simp only [putAll, Act.put, List.setIfInBounds_toArray, List.set_cons_zero, List.set_cons_succ]
           rfl
          refine two_ (i := 4) (j := 8) (Ni := some 33) (Nj := some 37) #[true, true, true, true, true, true, true, true, false, false, false, true, false] #[true, true, true, true, false, true, true, true, true, false, false, true, false] rfl rfl rfl rfl (two_of HT_.out (by kernel_rfl)) (by decide) (by decide) (fun K hK => ?_) (fun K hK => ?_)
          ·skip
           refine goes_ Try.func41 (by kernel_rfl) rfl #[.slice Ao34 y139.length co34] (by rfl) rfl rfl (by (try simp only [List.map_toArray, List.map_cons, List.map_nil]); first | done | rfl | (simp only [List.length_drop, List.length_take]; rfl)) ?_
           with_reducible refine (sat_Add.calls k _ _ y139 t142 _ ?side1 ?side2 A9.out).mono ?_
           (case side1 => repeat (first | exact (Kd.R_reads' HO141.out).2.2 | (with_reducible refine Kd.C_alloc ?_ _) | (with_reducible refine Kd.C_drewN ?_ _) | (with_reducible refine Kd.C_drew ?_)))
           (case side2 => exact (Kd.R_reads' HO141.out).2.1)
           rintro e w' ⟨rfl, ⟨nd, rfl⟩⟩
           refine ⟨_, rfl, ?_⟩
           refine hK.out _ _ (c12 BK129.out) (fun hHeld => ?_)
           clear hK K
           refine norm_ (a' := ?_) ?_ ?_
           rotate_left
           ·show Act.put _ (some 33) _ = _
            simp only [Act.put, List.setIfInBounds_toArray, List.set_cons_zero, List.set_cons_succ, i64_w, i32_w]
            rfl
           exact norm_ (by simp only [putAll, Act.put, List.setIfInBounds_toArray, List.set_cons_zero, List.set_cons_succ] <;> rfl) (hJ2_3_4_11 (.slice Ao34 y139.length co34, gb147) _ ⟨hHeld, (by (with_reducible repeat (first | apply Kd.R_alloc | apply Kd.R_drewN | apply Kd.R_drew)); exact HO141.out), (by with_reducible repeat first | exact BK129.out | apply bN), (by with_reducible repeat first | exact BK130.out | apply bN), (by with_reducible repeat first | exact BK131.out | apply bN), (by with_reducible repeat first | exact BK137.out | apply bN), (by with_reducible repeat first | exact BK147.out | apply bN), GW147.out, GE147.out, NB129_147.out, NB147_129.out, NB130_147.out, NB147_130.out, NB131_147.out, NB147_131.out, NB137_147.out, NB147_137.out, (by repeat (first | (with_reducible first | exact HB.out | apply below_alloc | apply pw_below_drewN | apply below_drew1 | refine below_set ?_ GE129.out | refine below_set ?_ GE130.out | refine below_set ?_ GE131.out | refine below_set ?_ GE137.out | refine below_set ?_ GE147.out) | exact HB.out))⟩)
          ·skip
           refine Kd.R_lit_step (Kd.int .i64) _ 3 ?hg (N := 37) ?hd (xs := ([t133, a0_5] : List Int)) (inner := [.int .i64 t133, .int .i64 a0_5]) (ok := fun _ => True) (okp := fun _ => True) ?hr ?hp (fun _ hk => hk) trivial (Below.refl _ _) (Nat.le_refl _) (by simp) ?_; (case hd => rfl); (case hg => rfl); (case hr => first | (go_simp; done) | (go_simp; rfl)); (case hp => exact (Reps.one (show Kd.M (Kd.int .i64) _ _ _ t133 [.int .i64 t133] from rfl) (Reps.one (show Kd.M (Kd.int .i64) _ _ _ a0_5 [.int .i64 a0_5] from rfl) (Reps.none _ _))))
           intro v144 w34 ho35 hb hg_ hnew_
           clear hg_ hnew_
           (first | rw [← Ny143.out] at ho35 | (simp only [Int.reduceToNat] at ho35; rw [← Ny143.out] at ho35))
           have n0_ := Aside0.mk (Kd.R_elder' (by (with_reducible repeat (first | apply Kd.R_alloc | apply Kd.R_drewN | apply Kd.R_drew)); exact HO141.out) (Kd.R_base ho35) hb)
           have n1_ := Aside0.mk (Kd.R_lower (Kd.R_new' ho35 (Kd.R_lt (by (with_reducible repeat (first | apply Kd.R_alloc | apply Kd.R_drewN | apply Kd.R_drew)); exact HO141.out))) (below_size (by with_reducible repeat first | exact HB.out | apply pw_below_drewN)))
           have n2_ := Aside0.mk (blk_below (by with_reducible repeat first | exact BK129.out | apply bN) hb)
           have n3_ := Aside0.mk (blk_below (by with_reducible repeat first | exact BK130.out | apply bN) hb)
           have n4_ := Aside0.mk (blk_below (by with_reducible repeat first | exact BK131.out | apply bN) hb)
           have n5_ := Aside0.mk (blk_below (by with_reducible repeat first | exact BK137.out | apply bN) hb)
           have n6_ := Aside0.mk (blk_below (by with_reducible repeat first | exact BK147.out | apply bN) hb)
           have n7_ := Aside0.mk (below_step (by with_reducible repeat first | exact HB.out | apply pw_below_drewN) hb)
           clear HO141 BK129 BK130 BK131 BK137 BK147 HB
           have HO141 := n0_
           have HO145 := n1_
           have BK129 := n2_
           have BK130 := n3_
           have BK131 := n4_
           have BK137 := n5_
           have BK147 := n6_
           have HB := n7_
           clear n0_ n1_ n2_ n3_ n4_ n5_ n6_ n7_ hb ho35
           refine hK.out _ _ (c12 BK129.out) (fun hHeld => ?_)
           clear hK K
           refine norm_ (a' := ?_) ?_ ?_
           rotate_left
           ·show Act.put _ (some 37) _ = _
            simp only [Act.put, List.setIfInBounds_toArray, List.set_cons_zero, List.set_cons_succ, i64_w, i32_w]
            rfl
           exact norm_ (by simp only [putAll, Act.put, List.setIfInBounds_toArray, List.set_cons_zero, List.set_cons_succ] <;> rfl) (hJ2_3_8_11 (_, _, gb147) _ ⟨hHeld, (by (with_reducible repeat (first | apply Kd.R_alloc | apply Kd.R_drewN | apply Kd.R_drew)); exact Kd.R_mono HO141.out (fun _ hk => hk.2)), (by (with_reducible repeat (first | apply Kd.R_alloc | apply Kd.R_drewN | apply Kd.R_drew)); exact Kd.R_mono HO145.out (fun _ hk => hk.2)), (by with_reducible repeat first | exact BK129.out | apply bN), (by with_reducible repeat first | exact BK130.out | apply bN), (by with_reducible repeat first | exact BK131.out | apply bN), (by with_reducible repeat first | exact BK137.out | apply bN), (by with_reducible repeat first | exact BK147.out | apply bN), GW147.out, GE147.out, NB129_147.out, NB147_129.out, NB130_147.out, NB147_130.out, NB131_147.out, NB147_131.out, NB137_147.out, NB147_137.out, (by repeat (first | (with_reducible first | exact HB.out | apply below_alloc | apply pw_below_drewN | apply below_drew1 | refine below_set ?_ GE129.out | refine below_set ?_ GE130.out | refine below_set ?_ GE131.out | refine below_set ?_ GE137.out | refine below_set ?_ GE147.out) | exact HB.out))⟩)
        ·skip
         rintro ⟨v140, v144⟩ w34 ⟨hS_, h0_, h1_, h2_, h3_, h4_, h5_, h6_⟩
         have n0_ : Aside0 (Kd.R (Kd.int .i64) 3 w34 w.heap.size (fun k_ => some k_ ≠ (v144 : Value).ownBlock) v140 y139) := ⟨h0_⟩
         have n1_ : Aside0 (Kd.R (Kd.int .i64) 3 w34 w.heap.size (fun k_ => some k_ ≠ (v140 : Value).ownBlock) v144 y143) := ⟨h1_⟩
         have n2_ : Aside0 (w34.heap[gb129]? = some (.cells #[.int .i64 a0_0, .int .i64 a0_1, .int .i64 a0_2, .int .i64 a0_3, .int .i64 a0_4, .int .i64 a0_5, .int .i64 a0_6, .int .i64 a0_7, .int .i64 a0_8, .int .i64 a0_9, .int .i64 a0_10, .int .i64 a0_11] 23 (0, 0))) := ⟨h2_⟩
         have n3_ : Aside0 (w34.heap[gb130]? = some (.cells #[.int .i64 a1_0, .int .i64 a1_1, .int .i64 a1_2, .int .i64 a1_3] 57 (0, 0))) := ⟨h3_⟩
         have n4_ : Aside0 (w34.heap[gb131]? = some (.cells #[.int .i64 0, .int .i64 0] 25 (0, 0))) := ⟨h4_⟩
         have n5_ : Aside0 (w34.heap[gb137]? = some (.cells #[.int .i64 t134, .int .i64 t136] 25 (0, 0))) := ⟨h5_⟩
         have n6_ : Aside0 (Below w.heap.size w w34) := ⟨h6_⟩
         clear BK129 BK130 BK131 BK137 HB h0_ h1_ h2_ h3_ h4_ h5_ h6_
         have HO141 := n0_
         have HO145 := n1_
         have BK129 := n2_
         have BK130 := n3_
         have BK131 := n4_
         have BK137 := n5_
         have HB := n6_
         clear n0_ n1_ n2_ n3_ n4_ n5_ n6_
         have hHeld := hS_
         try dsimp only at hHeld
         obtain ⟨Ao35, co35, eo35⟩ := Kd.R_slice HO141.out
         (first | subst eo35 | (injection eo35 with f1_ f2_ f3_; have f4_ := f1_.symm; have f5_ := f3_.symm; clear f1_ f2_ f3_; subst f4_; subst f5_))
         refine norm_ (a' := ?_) ?_ ?_
         rotate_left
         ·simp only [putAll, Act.put, List.setIfInBounds_toArray, List.set_cons_zero, List.set_cons_succ]
          rfl
         refine two_ (i := 4) (j := 11) (Ni := some 33) (Nj := some 8) #[true, true, true, true, true, true, true, true, true, false, false, false, false] #[true, true, true, true, false, true, true, true, true, false, false, true, false] rfl rfl rfl rfl (two_of HT_.out (by kernel_rfl)) (by decide) (by decide) (fun K hK => ?_) (fun K hK => ?_)
         ·skip
          refine goes_ Try.func41 (by kernel_rfl) rfl #[.slice Ao35 y139.length co35] (by rfl) rfl rfl (by (try simp only [List.map_toArray, List.map_cons, List.map_nil]); first | done | rfl | (simp only [List.length_drop, List.length_take]; rfl)) ?_
          with_reducible refine (sat_Add.calls k _ _ y139 t142 _ ?side1 ?side2 A9.out).mono ?_
          (case side1 => repeat (first | exact (Kd.R_reads' HO141.out).2.2 | (with_reducible refine Kd.C_alloc ?_ _) | (with_reducible refine Kd.C_drewN ?_ _) | (with_reducible refine Kd.C_drew ?_)))
          (case side2 => exact (Kd.R_reads' HO141.out).2.1)
          rintro e w' ⟨rfl, ⟨nd, rfl⟩⟩
          refine ⟨_, rfl, ?_⟩
          refine hK.out _ _ (c12 BK129.out) (fun hHeld => ?_)
          clear hK K
          refine norm_ (a' := ?_) ?_ ?_
          rotate_left
          ·show Act.put _ (some 33) _ = _
           simp only [Act.put, List.setIfInBounds_toArray, List.set_cons_zero, List.set_cons_succ, i64_w, i32_w]
           rfl
          exact norm_ (by simp only [putAll, Act.put, List.setIfInBounds_toArray, List.set_cons_zero, List.set_cons_succ] <;> rfl) (hJ2_3_4_8 (.slice Ao35 y139.length co35, v144) _ ⟨hHeld, (by (with_reducible repeat (first | apply Kd.R_alloc | apply Kd.R_drewN | apply Kd.R_drew)); exact HO141.out), (by (with_reducible repeat (first | apply Kd.R_alloc | apply Kd.R_drewN | apply Kd.R_drew)); exact HO145.out), (by with_reducible repeat first | exact BK129.out | apply bN), (by with_reducible repeat first | exact BK130.out | apply bN), (by with_reducible repeat first | exact BK131.out | apply bN), (by with_reducible repeat first | exact BK137.out | apply bN), (by repeat (first | (with_reducible first | exact HB.out | apply below_alloc | apply pw_below_drewN | apply below_drew1 | refine below_set ?_ GE129.out | refine below_set ?_ GE130.out | refine below_set ?_ GE131.out | refine below_set ?_ GE137.out) | exact HB.out))⟩)
         ·skip
          refine box_step ?hg (N := 8) ?hd (cs := #[.int .i64 0, .int .i64 0]) (t := 25) ?hr ?_; (case hd => rfl); (case hg => rfl); (case hr => first | (go_simp; done) | (go_simp; rfl))
          intro gb147 hg w35 hbox hb
          have n0_ := Aside0.mk (Kd.R_below (by (with_reducible repeat (first | apply Kd.R_alloc | apply Kd.R_drewN | apply Kd.R_drew)); exact HO141.out) hb)
          have n1_ := Aside0.mk (Kd.R_below (by (with_reducible repeat (first | apply Kd.R_alloc | apply Kd.R_drewN | apply Kd.R_drew)); exact HO145.out) hb)
          have n2_ := Aside0.mk (blk_below (by with_reducible repeat first | exact BK129.out | apply bN) hb)
          have n3_ := Aside0.mk (blk_below (by with_reducible repeat first | exact BK130.out | apply bN) hb)
          have n4_ := Aside0.mk (blk_below (by with_reducible repeat first | exact BK131.out | apply bN) hb)
          have n5_ := Aside0.mk (blk_below (by with_reducible repeat first | exact BK137.out | apply bN) hb)
          have n6_ := Aside0.mk (below_step (by with_reducible repeat first | exact HB.out | apply pw_below_drewN) hb)
          have n7_ := Aside0.mk (hbox)
          have n8_ := Aside0.mk ((by rw [hg]; exact (below_size (by with_reducible repeat first | exact HB.out | apply pw_below_drewN)) : w.heap.size ≤ gb147))
          have n9_ := Aside0.mk ((by rw [hg]; exact (below_size (by with_reducible repeat first | exact HB.out | apply pw_below_drewN)) : w.heap.size ≤ gb147))
          have n10_ := Aside0.mk ((by rw [hg]; exact Nat.ne_of_lt (blk_lt (by with_reducible repeat first | exact BK129.out | apply bN)) : gb129 ≠ gb147))
          have n11_ := Aside0.mk ((by rw [hg]; exact Nat.ne_of_gt (blk_lt (by with_reducible repeat first | exact BK129.out | apply bN)) : gb147 ≠ gb129))
          have n12_ := Aside0.mk ((by rw [hg]; exact Nat.ne_of_lt (blk_lt (by with_reducible repeat first | exact BK130.out | apply bN)) : gb130 ≠ gb147))
          have n13_ := Aside0.mk ((by rw [hg]; exact Nat.ne_of_gt (blk_lt (by with_reducible repeat first | exact BK130.out | apply bN)) : gb147 ≠ gb130))
          have n14_ := Aside0.mk ((by rw [hg]; exact Nat.ne_of_lt (blk_lt (by with_reducible repeat first | exact BK131.out | apply bN)) : gb131 ≠ gb147))
          have n15_ := Aside0.mk ((by rw [hg]; exact Nat.ne_of_gt (blk_lt (by with_reducible repeat first | exact BK131.out | apply bN)) : gb147 ≠ gb131))
          have n16_ := Aside0.mk ((by rw [hg]; exact Nat.ne_of_lt (blk_lt (by with_reducible repeat first | exact BK137.out | apply bN)) : gb137 ≠ gb147))
          have n17_ := Aside0.mk ((by rw [hg]; exact Nat.ne_of_gt (blk_lt (by with_reducible repeat first | exact BK137.out | apply bN)) : gb147 ≠ gb137))
          clear HO141 HO145 BK129 BK130 BK131 BK137 HB
          have HO141 := n0_
          have HO145 := n1_
          have BK129 := n2_
          have BK130 := n3_
          have BK131 := n4_
          have BK137 := n5_
          have HB := n6_
          have BK147 := n7_
          have GW147 := n8_
          have GE147 := n9_
          have NB129_147 := n10_
          have NB147_129 := n11_
          have NB130_147 := n12_
          have NB147_130 := n13_
          have NB131_147 := n14_
          have NB147_131 := n15_
          have NB137_147 := n16_
          have NB147_137 := n17_
          clear n0_ n1_ n2_ n3_ n4_ n5_ n6_ n7_ n8_ n9_ n10_ n11_ n12_ n13_ n14_ n15_ n16_ n17_ hb hbox hg
          refine hK.out _ _ (c12 BK129.out) (fun hHeld => ?_)
          clear hK K
          refine norm_ (a' := ?_) ?_ ?_
          rotate_left
          ·show Act.put _ (some 8) _ = _
           simp only [Act.put, List.setIfInBounds_toArray, List.set_cons_zero, List.set_cons_succ, i64_w, i32_w]
           rfl
          exact norm_ (by simp only [putAll, Act.put, List.setIfInBounds_toArray, List.set_cons_zero, List.set_cons_succ] <;> rfl) (hJ2_3_8_11 (_, _, gb147) _ ⟨hHeld, (by (with_reducible repeat (first | apply Kd.R_alloc | apply Kd.R_drewN | apply Kd.R_drew)); exact HO141.out), (by (with_reducible repeat (first | apply Kd.R_alloc | apply Kd.R_drewN | apply Kd.R_drew)); exact HO145.out), (by with_reducible repeat first | exact BK129.out | apply bN), (by with_reducible repeat first | exact BK130.out | apply bN), (by with_reducible repeat first | exact BK131.out | apply bN), (by with_reducible repeat first | exact BK137.out | apply bN), (by with_reducible repeat first | exact BK147.out | apply bN), GW147.out, GE147.out, NB129_147.out, NB147_129.out, NB130_147.out, NB147_130.out, NB131_147.out, NB147_131.out, NB137_147.out, NB147_137.out, (by repeat (first | (with_reducible first | exact HB.out | apply below_alloc | apply pw_below_drewN | apply below_drew1 | refine below_set ?_ GE129.out | refine below_set ?_ GE130.out | refine below_set ?_ GE131.out | refine below_set ?_ GE137.out | refine below_set ?_ GE147.out) | exact HB.out))⟩)
       ·skip
        rintro v140 w33 ⟨hS_, h0_, h1_, h2_, h3_, h4_, h5_⟩
        have n0_ : Aside0 (Kd.R (Kd.int .i64) 3 w33 w.heap.size (fun _ => True) v140 y139) := ⟨h0_⟩
        have n1_ : Aside0 (w33.heap[gb129]? = some (.cells #[.int .i64 a0_0, .int .i64 a0_1, .int .i64 a0_2, .int .i64 a0_3, .int .i64 a0_4, .int .i64 a0_5, .int .i64 a0_6, .int .i64 a0_7, .int .i64 a0_8, .int .i64 a0_9, .int .i64 a0_10, .int .i64 a0_11] 23 (0, 0))) := ⟨h1_⟩
        have n2_ : Aside0 (w33.heap[gb130]? = some (.cells #[.int .i64 a1_0, .int .i64 a1_1, .int .i64 a1_2, .int .i64 a1_3] 57 (0, 0))) := ⟨h2_⟩
        have n3_ : Aside0 (w33.heap[gb131]? = some (.cells #[.int .i64 0, .int .i64 0] 25 (0, 0))) := ⟨h3_⟩
        have n4_ : Aside0 (w33.heap[gb137]? = some (.cells #[.int .i64 t134, .int .i64 t136] 25 (0, 0))) := ⟨h4_⟩
        have n5_ : Aside0 (Below w.heap.size w w33) := ⟨h5_⟩
        clear BK129 BK130 BK131 BK137 HB h0_ h1_ h2_ h3_ h4_ h5_
        have HO141 := n0_
        have BK129 := n1_
        have BK130 := n2_
        have BK131 := n3_
        have BK137 := n4_
        have HB := n5_
        clear n0_ n1_ n2_ n3_ n4_ n5_
        have hHeld := hS_
        try dsimp only at hHeld
        refine norm_ (a' := ?_) ?_ ?_
        rotate_left
        ·simp only [putAll, Act.put, List.setIfInBounds_toArray, List.set_cons_zero, List.set_cons_succ]
         rfl
        refine two_ (i := 8) (j := 11) (Ni := some 37) (Nj := some 8) #[true, true, true, true, true, true, true, true, true, false, false, false, false] #[true, true, true, true, true, true, true, true, false, false, false, true, false] rfl rfl rfl rfl (two_of HT_.out (by kernel_rfl)) (by decide) (by decide) (fun K hK => ?_) (fun K hK => ?_)
        ·skip
         refine Kd.R_lit_step (Kd.int .i64) _ 3 ?hg (N := 37) ?hd (xs := ([t133, a0_5] : List Int)) (inner := [.int .i64 t133, .int .i64 a0_5]) (ok := fun _ => True) (okp := fun _ => True) ?hr ?hp (fun _ hk => hk) trivial (Below.refl _ _) (Nat.le_refl _) (by simp) ?_; (case hd => rfl); (case hg => rfl); (case hr => first | (go_simp; done) | (go_simp; rfl)); (case hp => exact (Reps.one (show Kd.M (Kd.int .i64) _ _ _ t133 [.int .i64 t133] from rfl) (Reps.one (show Kd.M (Kd.int .i64) _ _ _ a0_5 [.int .i64 a0_5] from rfl) (Reps.none _ _))))
         intro v144 w34 ho35 hb hg_ hnew_
         clear hg_ hnew_
         (first | rw [← Ny143.out] at ho35 | (simp only [Int.reduceToNat] at ho35; rw [← Ny143.out] at ho35))
         have n0_ := Aside0.mk (Kd.R_elder' (by (with_reducible repeat (first | apply Kd.R_alloc | apply Kd.R_drewN | apply Kd.R_drew)); exact HO141.out) (Kd.R_base ho35) hb)
         have n1_ := Aside0.mk (Kd.R_lower (Kd.R_new' ho35 (Kd.R_lt (by (with_reducible repeat (first | apply Kd.R_alloc | apply Kd.R_drewN | apply Kd.R_drew)); exact HO141.out))) (below_size (by with_reducible repeat first | exact HB.out | apply pw_below_drewN)))
         have n2_ := Aside0.mk (blk_below (by with_reducible repeat first | exact BK129.out | apply bN) hb)
         have n3_ := Aside0.mk (blk_below (by with_reducible repeat first | exact BK130.out | apply bN) hb)
         have n4_ := Aside0.mk (blk_below (by with_reducible repeat first | exact BK131.out | apply bN) hb)
         have n5_ := Aside0.mk (blk_below (by with_reducible repeat first | exact BK137.out | apply bN) hb)
         have n6_ := Aside0.mk (below_step (by with_reducible repeat first | exact HB.out | apply pw_below_drewN) hb)
         clear HO141 BK129 BK130 BK131 BK137 HB
         have HO141 := n0_
         have HO145 := n1_
         have BK129 := n2_
         have BK130 := n3_
         have BK131 := n4_
         have BK137 := n5_
         have HB := n6_
         clear n0_ n1_ n2_ n3_ n4_ n5_ n6_ hb ho35
         refine hK.out _ _ (c12 BK129.out) (fun hHeld => ?_)
         clear hK K
         refine norm_ (a' := ?_) ?_ ?_
         rotate_left
         ·show Act.put _ (some 37) _ = _
          simp only [Act.put, List.setIfInBounds_toArray, List.set_cons_zero, List.set_cons_succ, i64_w, i32_w]
          rfl
         exact norm_ (by simp only [putAll, Act.put, List.setIfInBounds_toArray, List.set_cons_zero, List.set_cons_succ] <;> rfl) (hJ2_3_4_8 (_, _) _ ⟨hHeld, (by (with_reducible repeat (first | apply Kd.R_alloc | apply Kd.R_drewN | apply Kd.R_drew)); exact Kd.R_mono HO141.out (fun _ hk => hk.2)), (by (with_reducible repeat (first | apply Kd.R_alloc | apply Kd.R_drewN | apply Kd.R_drew)); exact Kd.R_mono HO145.out (fun _ hk => hk.2)), (by with_reducible repeat first | exact BK129.out | apply bN), (by with_reducible repeat first | exact BK130.out | apply bN), (by with_reducible repeat first | exact BK131.out | apply bN), (by with_reducible repeat first | exact BK137.out | apply bN), (by repeat (first | (with_reducible first | exact HB.out | apply below_alloc | apply pw_below_drewN | apply below_drew1 | refine below_set ?_ GE129.out | refine below_set ?_ GE130.out | refine below_set ?_ GE131.out | refine below_set ?_ GE137.out) | exact HB.out))⟩)
        ·skip
         refine box_step ?hg (N := 8) ?hd (cs := #[.int .i64 0, .int .i64 0]) (t := 25) ?hr ?_; (case hd => rfl); (case hg => rfl); (case hr => first | (go_simp; done) | (go_simp; rfl))
         intro gb147 hg w34 hbox hb
         have n0_ := Aside0.mk (Kd.R_below (by (with_reducible repeat (first | apply Kd.R_alloc | apply Kd.R_drewN | apply Kd.R_drew)); exact HO141.out) hb)
         have n1_ := Aside0.mk (blk_below (by with_reducible repeat first | exact BK129.out | apply bN) hb)
         have n2_ := Aside0.mk (blk_below (by with_reducible repeat first | exact BK130.out | apply bN) hb)
         have n3_ := Aside0.mk (blk_below (by with_reducible repeat first | exact BK131.out | apply bN) hb)
         have n4_ := Aside0.mk (blk_below (by with_reducible repeat first | exact BK137.out | apply bN) hb)
         have n5_ := Aside0.mk (below_step (by with_reducible repeat first | exact HB.out | apply pw_below_drewN) hb)
         have n6_ := Aside0.mk (hbox)
         have n7_ := Aside0.mk ((by rw [hg]; exact (below_size (by with_reducible repeat first | exact HB.out | apply pw_below_drewN)) : w.heap.size ≤ gb147))
         have n8_ := Aside0.mk ((by rw [hg]; exact (below_size (by with_reducible repeat first | exact HB.out | apply pw_below_drewN)) : w.heap.size ≤ gb147))
         have n9_ := Aside0.mk ((by rw [hg]; exact Nat.ne_of_lt (blk_lt (by with_reducible repeat first | exact BK129.out | apply bN)) : gb129 ≠ gb147))
         have n10_ := Aside0.mk ((by rw [hg]; exact Nat.ne_of_gt (blk_lt (by with_reducible repeat first | exact BK129.out | apply bN)) : gb147 ≠ gb129))
         have n11_ := Aside0.mk ((by rw [hg]; exact Nat.ne_of_lt (blk_lt (by with_reducible repeat first | exact BK130.out | apply bN)) : gb130 ≠ gb147))
         have n12_ := Aside0.mk ((by rw [hg]; exact Nat.ne_of_gt (blk_lt (by with_reducible repeat first | exact BK130.out | apply bN)) : gb147 ≠ gb130))
         have n13_ := Aside0.mk ((by rw [hg]; exact Nat.ne_of_lt (blk_lt (by with_reducible repeat first | exact BK131.out | apply bN)) : gb131 ≠ gb147))
         have n14_ := Aside0.mk ((by rw [hg]; exact Nat.ne_of_gt (blk_lt (by with_reducible repeat first | exact BK131.out | apply bN)) : gb147 ≠ gb131))
         have n15_ := Aside0.mk ((by rw [hg]; exact Nat.ne_of_lt (blk_lt (by with_reducible repeat first | exact BK137.out | apply bN)) : gb137 ≠ gb147))
         have n16_ := Aside0.mk ((by rw [hg]; exact Nat.ne_of_gt (blk_lt (by with_reducible repeat first | exact BK137.out | apply bN)) : gb147 ≠ gb137))
         clear HO141 BK129 BK130 BK131 BK137 HB
         have HO141 := n0_
         have BK129 := n1_
         have BK130 := n2_
         have BK131 := n3_
         have BK137 := n4_
         have HB := n5_
         have BK147 := n6_
         have GW147 := n7_
         have GE147 := n8_
         have NB129_147 := n9_
         have NB147_129 := n10_
         have NB130_147 := n11_
         have NB147_130 := n12_
         have NB131_147 := n13_
         have NB147_131 := n14_
         have NB137_147 := n15_
         have NB147_137 := n16_
         clear n0_ n1_ n2_ n3_ n4_ n5_ n6_ n7_ n8_ n9_ n10_ n11_ n12_ n13_ n14_ n15_ n16_ hb hbox hg
         refine hK.out _ _ (c12 BK129.out) (fun hHeld => ?_)
         clear hK K
         refine norm_ (a' := ?_) ?_ ?_
         rotate_left
         ·show Act.put _ (some 8) _ = _
          simp only [Act.put, List.setIfInBounds_toArray, List.set_cons_zero, List.set_cons_succ, i64_w, i32_w]
          rfl
         exact norm_ (by simp only [putAll, Act.put, List.setIfInBounds_toArray, List.set_cons_zero, List.set_cons_succ] <;> rfl) (hJ2_3_4_11 (_, gb147) _ ⟨hHeld, (by (with_reducible repeat (first | apply Kd.R_alloc | apply Kd.R_drewN | apply Kd.R_drew)); exact HO141.out), (by with_reducible repeat first | exact BK129.out | apply bN), (by with_reducible repeat first | exact BK130.out | apply bN), (by with_reducible repeat first | exact BK131.out | apply bN), (by with_reducible repeat first | exact BK137.out | apply bN), (by with_reducible repeat first | exact BK147.out | apply bN), GW147.out, GE147.out, NB129_147.out, NB147_129.out, NB130_147.out, NB147_130.out, NB131_147.out, NB147_131.out, NB137_147.out, NB147_137.out, (by repeat (first | (with_reducible first | exact HB.out | apply below_alloc | apply pw_below_drewN | apply below_drew1 | refine below_set ?_ GE129.out | refine below_set ?_ GE130.out | refine below_set ?_ GE131.out | refine below_set ?_ GE137.out | refine below_set ?_ GE147.out) | exact HB.out))⟩)
      ·skip
       rintro ⟨v140, v144, gb147⟩ w35 ⟨hS_, h0_, h1_, h2_, h3_, h4_, h5_, h6_, h7_, h8_, h9_, h10_, h11_, h12_, h13_, h14_, h15_, h16_, h17_⟩
       have n0_ : Aside0 (Kd.R (Kd.int .i64) 3 w35 w.heap.size (fun k_ => some k_ ≠ (v144 : Value).ownBlock) v140 y139) := ⟨h0_⟩
       have n1_ : Aside0 (Kd.R (Kd.int .i64) 3 w35 w.heap.size (fun k_ => some k_ ≠ (v140 : Value).ownBlock) v144 y143) := ⟨h1_⟩
       have n2_ : Aside0 (w35.heap[gb129]? = some (.cells #[.int .i64 a0_0, .int .i64 a0_1, .int .i64 a0_2, .int .i64 a0_3, .int .i64 a0_4, .int .i64 a0_5, .int .i64 a0_6, .int .i64 a0_7, .int .i64 a0_8, .int .i64 a0_9, .int .i64 a0_10, .int .i64 a0_11] 23 (0, 0))) := ⟨h2_⟩
       have n3_ : Aside0 (w35.heap[gb130]? = some (.cells #[.int .i64 a1_0, .int .i64 a1_1, .int .i64 a1_2, .int .i64 a1_3] 57 (0, 0))) := ⟨h3_⟩
       have n4_ : Aside0 (w35.heap[gb131]? = some (.cells #[.int .i64 0, .int .i64 0] 25 (0, 0))) := ⟨h4_⟩
       have n5_ : Aside0 (w35.heap[gb137]? = some (.cells #[.int .i64 t134, .int .i64 t136] 25 (0, 0))) := ⟨h5_⟩
       have n6_ : Aside0 (w35.heap[gb147]? = some (.cells #[.int .i64 0, .int .i64 0] 25 (0, 0))) := ⟨h6_⟩
       have n7_ : Aside0 (w.heap.size ≤ gb147) := ⟨h7_⟩
       have n8_ : Aside0 (w.heap.size ≤ gb147) := ⟨h8_⟩
       have n9_ : Aside0 (gb129 ≠ gb147) := ⟨h9_⟩
       have n10_ : Aside0 (gb147 ≠ gb129) := ⟨h10_⟩
       have n11_ : Aside0 (gb130 ≠ gb147) := ⟨h11_⟩
       have n12_ : Aside0 (gb147 ≠ gb130) := ⟨h12_⟩
       have n13_ : Aside0 (gb131 ≠ gb147) := ⟨h13_⟩
       have n14_ : Aside0 (gb147 ≠ gb131) := ⟨h14_⟩
       have n15_ : Aside0 (gb137 ≠ gb147) := ⟨h15_⟩
       have n16_ : Aside0 (gb147 ≠ gb137) := ⟨h16_⟩
       have n17_ : Aside0 (Below w.heap.size w w35) := ⟨h17_⟩
       clear BK129 BK130 BK131 BK137 HB h0_ h1_ h2_ h3_ h4_ h5_ h6_ h7_ h8_ h9_ h10_ h11_ h12_ h13_ h14_ h15_ h16_ h17_
       have HO141 := n0_
       have HO145 := n1_
       have BK129 := n2_
       have BK130 := n3_
       have BK131 := n4_
       have BK137 := n5_
       have BK147 := n6_
       have GW147 := n7_
       have GE147 := n8_
       have NB129_147 := n9_
       have NB147_129 := n10_
       have NB130_147 := n11_
       have NB147_130 := n12_
       have NB131_147 := n13_
       have NB147_131 := n14_
       have NB137_147 := n15_
       have NB147_137 := n16_
       have HB := n17_
       clear n0_ n1_ n2_ n3_ n4_ n5_ n6_ n7_ n8_ n9_ n10_ n11_ n12_ n13_ n14_ n15_ n16_ n17_
       have hHeld := hS_
       try dsimp only at hHeld
       obtain ⟨Ao36, co36, eo36⟩ := Kd.R_slice HO141.out
       (first | subst eo36 | (injection eo36 with f1_ f2_ f3_; have f4_ := f1_.symm; have f5_ := f3_.symm; clear f1_ f2_ f3_; subst f4_; subst f5_))
       refine norm_ (a' := ?_) ?_ ?_
       rotate_left
       ·simp only [putAll, Act.put, List.setIfInBounds_toArray, List.set_cons_zero, List.set_cons_succ]
        rfl
       refine one_ (i := 4) (N := some 33) #[true, true, true, true, true, true, true, true, true, false, false, true, false] rfl rfl (one_of HT_.out (by kernel_rfl)) (by decide) (fun K hK => ?_)
       refine goes_ Try.func41 (by kernel_rfl) rfl #[.slice Ao36 y139.length co36] (by rfl) rfl rfl (by (try simp only [List.map_toArray, List.map_cons, List.map_nil]); first | done | rfl | (simp only [List.length_drop, List.length_take]; rfl)) ?_
       with_reducible refine (sat_Add.calls k _ _ y139 t142 _ ?side1 ?side2 A9.out).mono ?_
       (case side1 => repeat (first | exact (Kd.R_reads' HO141.out).2.2 | (with_reducible refine Kd.C_alloc ?_ _) | (with_reducible refine Kd.C_drewN ?_ _) | (with_reducible refine Kd.C_drew ?_)))
       (case side2 => exact (Kd.R_reads' HO141.out).2.1)
       rintro e w' ⟨rfl, ⟨nd, rfl⟩⟩
       refine ⟨_, rfl, ?_⟩
       refine hK.out _ _ (c12 BK129.out) (fun hHeld => ?_)
       clear hK K
       refine norm_ (a' := ?_) ?_ ?_
       rotate_left
       ·show Act.put _ (some 33) _ = _
        simp only [Act.put, List.setIfInBounds_toArray, List.set_cons_zero, List.set_cons_succ, i64_w, i32_w]
        rfl
       exact norm_ (by simp only [putAll, Act.put, List.setIfInBounds_toArray, List.set_cons_zero, List.set_cons_succ] <;> rfl) (hJ2_3_4_8_11 (.slice Ao36 y139.length co36, v144, gb147) _ ⟨hHeld, (by (with_reducible repeat (first | apply Kd.R_alloc | apply Kd.R_drewN | apply Kd.R_drew)); exact HO141.out), (by (with_reducible repeat (first | apply Kd.R_alloc | apply Kd.R_drewN | apply Kd.R_drew)); exact HO145.out), (by with_reducible repeat first | exact BK129.out | apply bN), (by with_reducible repeat first | exact BK130.out | apply bN), (by with_reducible repeat first | exact BK131.out | apply bN), (by with_reducible repeat first | exact BK137.out | apply bN), (by with_reducible repeat first | exact BK147.out | apply bN), GW147.out, GE147.out, NB129_147.out, NB147_129.out, NB130_147.out, NB147_130.out, NB131_147.out, NB147_131.out, NB137_147.out, NB147_137.out, (by repeat (first | (with_reducible first | exact HB.out | apply below_alloc | apply pw_below_drewN | apply below_drew1 | refine below_set ?_ GE129.out | refine below_set ?_ GE130.out | refine below_set ?_ GE131.out | refine below_set ?_ GE137.out | refine below_set ?_ GE147.out) | exact HB.out))⟩)
     ·skip
      rintro ⟨v140, gb147⟩ w34 ⟨hS_, h0_, h1_, h2_, h3_, h4_, h5_, h6_, h7_, h8_, h9_, h10_, h11_, h12_, h13_, h14_, h15_, h16_⟩
      have n0_ : Aside0 (Kd.R (Kd.int .i64) 3 w34 w.heap.size (fun _ => True) v140 y139) := ⟨h0_⟩
      have n1_ : Aside0 (w34.heap[gb129]? = some (.cells #[.int .i64 a0_0, .int .i64 a0_1, .int .i64 a0_2, .int .i64 a0_3, .int .i64 a0_4, .int .i64 a0_5, .int .i64 a0_6, .int .i64 a0_7, .int .i64 a0_8, .int .i64 a0_9, .int .i64 a0_10, .int .i64 a0_11] 23 (0, 0))) := ⟨h1_⟩
      have n2_ : Aside0 (w34.heap[gb130]? = some (.cells #[.int .i64 a1_0, .int .i64 a1_1, .int .i64 a1_2, .int .i64 a1_3] 57 (0, 0))) := ⟨h2_⟩
      have n3_ : Aside0 (w34.heap[gb131]? = some (.cells #[.int .i64 0, .int .i64 0] 25 (0, 0))) := ⟨h3_⟩
      have n4_ : Aside0 (w34.heap[gb137]? = some (.cells #[.int .i64 t134, .int .i64 t136] 25 (0, 0))) := ⟨h4_⟩
      have n5_ : Aside0 (w34.heap[gb147]? = some (.cells #[.int .i64 0, .int .i64 0] 25 (0, 0))) := ⟨h5_⟩
      have n6_ : Aside0 (w.heap.size ≤ gb147) := ⟨h6_⟩
      have n7_ : Aside0 (w.heap.size ≤ gb147) := ⟨h7_⟩
      have n8_ : Aside0 (gb129 ≠ gb147) := ⟨h8_⟩
      have n9_ : Aside0 (gb147 ≠ gb129) := ⟨h9_⟩
      have n10_ : Aside0 (gb130 ≠ gb147) := ⟨h10_⟩
      have n11_ : Aside0 (gb147 ≠ gb130) := ⟨h11_⟩
      have n12_ : Aside0 (gb131 ≠ gb147) := ⟨h12_⟩
      have n13_ : Aside0 (gb147 ≠ gb131) := ⟨h13_⟩
      have n14_ : Aside0 (gb137 ≠ gb147) := ⟨h14_⟩
      have n15_ : Aside0 (gb147 ≠ gb137) := ⟨h15_⟩
      have n16_ : Aside0 (Below w.heap.size w w34) := ⟨h16_⟩
      clear BK129 BK130 BK131 BK137 HB h0_ h1_ h2_ h3_ h4_ h5_ h6_ h7_ h8_ h9_ h10_ h11_ h12_ h13_ h14_ h15_ h16_
      have HO141 := n0_
      have BK129 := n1_
      have BK130 := n2_
      have BK131 := n3_
      have BK137 := n4_
      have BK147 := n5_
      have GW147 := n6_
      have GE147 := n7_
      have NB129_147 := n8_
      have NB147_129 := n9_
      have NB130_147 := n10_
      have NB147_130 := n11_
      have NB131_147 := n12_
      have NB147_131 := n13_
      have NB137_147 := n14_
      have NB147_137 := n15_
      have HB := n16_
      clear n0_ n1_ n2_ n3_ n4_ n5_ n6_ n7_ n8_ n9_ n10_ n11_ n12_ n13_ n14_ n15_ n16_
      have hHeld := hS_
      try dsimp only at hHeld
      refine norm_ (a' := ?_) ?_ ?_
      rotate_left
      ·simp only [putAll, Act.put, List.setIfInBounds_toArray, List.set_cons_zero, List.set_cons_succ]
       rfl
      refine one_ (i := 8) (N := some 37) #[true, true, true, true, true, true, true, true, true, false, false, true, false] rfl rfl (one_of HT_.out (by kernel_rfl)) (by decide) (fun K hK => ?_)
      refine Kd.R_lit_step (Kd.int .i64) _ 3 ?hg (N := 37) ?hd (xs := ([t133, a0_5] : List Int)) (inner := [.int .i64 t133, .int .i64 a0_5]) (ok := fun _ => True) (okp := fun _ => True) ?hr ?hp (fun _ hk => hk) trivial (Below.refl _ _) (Nat.le_refl _) (by simp) ?_; (case hd => rfl); (case hg => rfl); (case hr => first | (go_simp; done) | (go_simp; rfl)); (case hp => exact (Reps.one (show Kd.M (Kd.int .i64) _ _ _ t133 [.int .i64 t133] from rfl) (Reps.one (show Kd.M (Kd.int .i64) _ _ _ a0_5 [.int .i64 a0_5] from rfl) (Reps.none _ _))))
      intro v144 w35 ho36 hb hg_ hnew_
      clear hg_ hnew_
      (first | rw [← Ny143.out] at ho36 | (simp only [Int.reduceToNat] at ho36; rw [← Ny143.out] at ho36))
      have n0_ := Aside0.mk (Kd.R_elder' (by (with_reducible repeat (first | apply Kd.R_alloc | apply Kd.R_drewN | apply Kd.R_drew)); exact HO141.out) (Kd.R_base ho36) hb)
      have n1_ := Aside0.mk (Kd.R_lower (Kd.R_new' ho36 (Kd.R_lt (by (with_reducible repeat (first | apply Kd.R_alloc | apply Kd.R_drewN | apply Kd.R_drew)); exact HO141.out))) (below_size (by with_reducible repeat first | exact HB.out | apply pw_below_drewN)))
      have n2_ := Aside0.mk (blk_below (by with_reducible repeat first | exact BK129.out | apply bN) hb)
      have n3_ := Aside0.mk (blk_below (by with_reducible repeat first | exact BK130.out | apply bN) hb)
      have n4_ := Aside0.mk (blk_below (by with_reducible repeat first | exact BK131.out | apply bN) hb)
      have n5_ := Aside0.mk (blk_below (by with_reducible repeat first | exact BK137.out | apply bN) hb)
      have n6_ := Aside0.mk (blk_below (by with_reducible repeat first | exact BK147.out | apply bN) hb)
      have n7_ := Aside0.mk (below_step (by with_reducible repeat first | exact HB.out | apply pw_below_drewN) hb)
      clear HO141 BK129 BK130 BK131 BK137 BK147 HB
      have HO141 := n0_
      have HO145 := n1_
      have BK129 := n2_
      have BK130 := n3_
      have BK131 := n4_
      have BK137 := n5_
      have BK147 := n6_
      have HB := n7_
      clear n0_ n1_ n2_ n3_ n4_ n5_ n6_ n7_ hb ho36
      refine hK.out _ _ (c12 BK129.out) (fun hHeld => ?_)
      clear hK K
      refine norm_ (a' := ?_) ?_ ?_
      rotate_left
      ·show Act.put _ (some 37) _ = _
       simp only [Act.put, List.setIfInBounds_toArray, List.set_cons_zero, List.set_cons_succ, i64_w, i32_w]
       rfl
      exact norm_ (by simp only [putAll, Act.put, List.setIfInBounds_toArray, List.set_cons_zero, List.set_cons_succ] <;> rfl) (hJ2_3_4_8_11 (_, _, gb147) _ ⟨hHeld, (by (with_reducible repeat (first | apply Kd.R_alloc | apply Kd.R_drewN | apply Kd.R_drew)); exact Kd.R_mono HO141.out (fun _ hk => hk.2)), (by (with_reducible repeat (first | apply Kd.R_alloc | apply Kd.R_drewN | apply Kd.R_drew)); exact Kd.R_mono HO145.out (fun _ hk => hk.2)), (by with_reducible repeat first | exact BK129.out | apply bN), (by with_reducible repeat first | exact BK130.out | apply bN), (by with_reducible repeat first | exact BK131.out | apply bN), (by with_reducible repeat first | exact BK137.out | apply bN), (by with_reducible repeat first | exact BK147.out | apply bN), GW147.out, GE147.out, NB129_147.out, NB147_129.out, NB130_147.out, NB147_130.out, NB131_147.out, NB147_131.out, NB137_147.out, NB147_137.out, (by repeat (first | (with_reducible first | exact HB.out | apply below_alloc | apply pw_below_drewN | apply below_drew1 | refine below_set ?_ GE129.out | refine below_set ?_ GE130.out | refine below_set ?_ GE131.out | refine below_set ?_ GE137.out | refine below_set ?_ GE147.out) | exact HB.out))⟩)
    ·skip
     rintro ⟨v140, v144⟩ w35 ⟨hS_, h0_, h1_, h2_, h3_, h4_, h5_, h6_⟩
     have n0_ : Aside0 (Kd.R (Kd.int .i64) 3 w35 w.heap.size (fun k_ => some k_ ≠ (v144 : Value).ownBlock) v140 y139) := ⟨h0_⟩
     have n1_ : Aside0 (Kd.R (Kd.int .i64) 3 w35 w.heap.size (fun k_ => some k_ ≠ (v140 : Value).ownBlock) v144 y143) := ⟨h1_⟩
     have n2_ : Aside0 (w35.heap[gb129]? = some (.cells #[.int .i64 a0_0, .int .i64 a0_1, .int .i64 a0_2, .int .i64 a0_3, .int .i64 a0_4, .int .i64 a0_5, .int .i64 a0_6, .int .i64 a0_7, .int .i64 a0_8, .int .i64 a0_9, .int .i64 a0_10, .int .i64 a0_11] 23 (0, 0))) := ⟨h2_⟩
     have n3_ : Aside0 (w35.heap[gb130]? = some (.cells #[.int .i64 a1_0, .int .i64 a1_1, .int .i64 a1_2, .int .i64 a1_3] 57 (0, 0))) := ⟨h3_⟩
     have n4_ : Aside0 (w35.heap[gb131]? = some (.cells #[.int .i64 0, .int .i64 0] 25 (0, 0))) := ⟨h4_⟩
     have n5_ : Aside0 (w35.heap[gb137]? = some (.cells #[.int .i64 t134, .int .i64 t136] 25 (0, 0))) := ⟨h5_⟩
     have n6_ : Aside0 (Below w.heap.size w w35) := ⟨h6_⟩
     clear BK129 BK130 BK131 BK137 HB h0_ h1_ h2_ h3_ h4_ h5_ h6_
     have HO141 := n0_
     have HO145 := n1_
     have BK129 := n2_
     have BK130 := n3_
     have BK131 := n4_
     have BK137 := n5_
     have HB := n6_
     clear n0_ n1_ n2_ n3_ n4_ n5_ n6_
     have hHeld := hS_
     try dsimp only at hHeld
     obtain ⟨Ao36, co36, eo36⟩ := Kd.R_slice HO145.out
     (first | subst eo36 | (injection eo36 with f1_ f2_ f3_; have f4_ := f1_.symm; have f5_ := f3_.symm; clear f1_ f2_ f3_; subst f4_; subst f5_))
     refine norm_ (a' := ?_) ?_ ?_
     rotate_left
     ·simp only [putAll, Act.put, List.setIfInBounds_toArray, List.set_cons_zero, List.set_cons_succ]
      rfl
     refine two_ (i := 9) (j := 11) (Ni := some 38) (Nj := some 8) #[true, true, true, true, true, true, true, true, true, true, false, false, false] #[true, true, true, true, true, true, true, true, true, false, false, true, false] rfl rfl rfl rfl (two_of HT_.out (by kernel_rfl)) (by decide) (by decide) (fun K hK => ?_) (fun K hK => ?_)
     ·skip
      refine goes_ Try.func41 (by kernel_rfl) rfl #[.slice Ao36 y143.length co36] (by rfl) rfl rfl (by (try simp only [List.map_toArray, List.map_cons, List.map_nil]); first | done | rfl | (simp only [List.length_drop, List.length_take]; rfl)) ?_
      with_reducible refine (sat_Add.calls k _ _ y143 t146 _ ?side1 ?side2 A10.out).mono ?_
      (case side1 => repeat (first | exact (Kd.R_reads' HO145.out).2.2 | (with_reducible refine Kd.C_alloc ?_ _) | (with_reducible refine Kd.C_drewN ?_ _) | (with_reducible refine Kd.C_drew ?_)))
      (case side2 => exact (Kd.R_reads' HO145.out).2.1)
      rintro e w' ⟨rfl, ⟨nd, rfl⟩⟩
      refine ⟨_, rfl, ?_⟩
      refine hK.out _ _ (c12 BK129.out) (fun hHeld => ?_)
      clear hK K
      refine norm_ (a' := ?_) ?_ ?_
      rotate_left
      ·show Act.put _ (some 38) _ = _
       simp only [Act.put, List.setIfInBounds_toArray, List.set_cons_zero, List.set_cons_succ, i64_w, i32_w]
       rfl
      refine pure_ (i := 10) (N := some 39) (v := ?_) (a' := ?_) #[true, true, true, true, true, true, true, true, true, true, true, false, false] rfl rfl (any_of HT_.out (by kernel_rfl)) (fun _ _ _ h => h) (Or.inl ⟨by rfl, ?_⟩) ?_ ?_
      rotate_left
      ·intro w'
       go_simp
       with_reducible rfl
      rotate_left
      ·simp only [Act.put, List.setIfInBounds_toArray, List.set_cons_zero, List.set_cons_succ, i64_w, i32_w]
       rfl
      exact norm_ (by simp only [putAll, Act.put, List.setIfInBounds_toArray, List.set_cons_zero, List.set_cons_succ] <;> rfl) (hJ2_3_4_8_9 (v140, .slice Ao36 y143.length co36) _ ⟨hHeld, (by (with_reducible repeat (first | apply Kd.R_alloc | apply Kd.R_drewN | apply Kd.R_drew)); exact HO141.out), (by (with_reducible repeat (first | apply Kd.R_alloc | apply Kd.R_drewN | apply Kd.R_drew)); exact HO145.out), (by with_reducible repeat first | exact BK129.out | apply bN), (by with_reducible repeat first | exact BK130.out | apply bN), (by with_reducible repeat first | exact BK131.out | apply bN), (by with_reducible repeat first | exact BK137.out | apply bN), (by repeat (first | (with_reducible first | exact HB.out | apply below_alloc | apply pw_below_drewN | apply below_drew1 | refine below_set ?_ GE129.out | refine below_set ?_ GE130.out | refine below_set ?_ GE131.out | refine below_set ?_ GE137.out) | exact HB.out))⟩)
     ·skip
      refine box_step ?hg (N := 8) ?hd (cs := #[.int .i64 0, .int .i64 0]) (t := 25) ?hr ?_; (case hd => rfl); (case hg => rfl); (case hr => first | (go_simp; done) | (go_simp; rfl))
      intro gb147 hg w36 hbox hb
      have n0_ := Aside0.mk (Kd.R_below (by (with_reducible repeat (first | apply Kd.R_alloc | apply Kd.R_drewN | apply Kd.R_drew)); exact HO141.out) hb)
      have n1_ := Aside0.mk (Kd.R_below (by (with_reducible repeat (first | apply Kd.R_alloc | apply Kd.R_drewN | apply Kd.R_drew)); exact HO145.out) hb)
      have n2_ := Aside0.mk (blk_below (by with_reducible repeat first | exact BK129.out | apply bN) hb)
      have n3_ := Aside0.mk (blk_below (by with_reducible repeat first | exact BK130.out | apply bN) hb)
      have n4_ := Aside0.mk (blk_below (by with_reducible repeat first | exact BK131.out | apply bN) hb)
      have n5_ := Aside0.mk (blk_below (by with_reducible repeat first | exact BK137.out | apply bN) hb)
      have n6_ := Aside0.mk (below_step (by with_reducible repeat first | exact HB.out | apply pw_below_drewN) hb)
      have n7_ := Aside0.mk (hbox)
      have n8_ := Aside0.mk ((by rw [hg]; exact (below_size (by with_reducible repeat first | exact HB.out | apply pw_below_drewN)) : w.heap.size ≤ gb147))
      have n9_ := Aside0.mk ((by rw [hg]; exact (below_size (by with_reducible repeat first | exact HB.out | apply pw_below_drewN)) : w.heap.size ≤ gb147))
      have n10_ := Aside0.mk ((by rw [hg]; exact Nat.ne_of_lt (blk_lt (by with_reducible repeat first | exact BK129.out | apply bN)) : gb129 ≠ gb147))
      have n11_ := Aside0.mk ((by rw [hg]; exact Nat.ne_of_gt (blk_lt (by with_reducible repeat first | exact BK129.out | apply bN)) : gb147 ≠ gb129))
      have n12_ := Aside0.mk ((by rw [hg]; exact Nat.ne_of_lt (blk_lt (by with_reducible repeat first | exact BK130.out | apply bN)) : gb130 ≠ gb147))
      have n13_ := Aside0.mk ((by rw [hg]; exact Nat.ne_of_gt (blk_lt (by with_reducible repeat first | exact BK130.out | apply bN)) : gb147 ≠ gb130))
      have n14_ := Aside0.mk ((by rw [hg]; exact Nat.ne_of_lt (blk_lt (by with_reducible repeat first | exact BK131.out | apply bN)) : gb131 ≠ gb147))
      have n15_ := Aside0.mk ((by rw [hg]; exact Nat.ne_of_gt (blk_lt (by with_reducible repeat first | exact BK131.out | apply bN)) : gb147 ≠ gb131))
      have n16_ := Aside0.mk ((by rw [hg]; exact Nat.ne_of_lt (blk_lt (by with_reducible repeat first | exact BK137.out | apply bN)) : gb137 ≠ gb147))
      have n17_ := Aside0.mk ((by rw [hg]; exact Nat.ne_of_gt (blk_lt (by with_reducible repeat first | exact BK137.out | apply bN)) : gb147 ≠ gb137))
      clear HO141 HO145 BK129 BK130 BK131 BK137 HB
      have HO141 := n0_
      have HO145 := n1_
      have BK129 := n2_
      have BK130 := n3_
      have BK131 := n4_
      have BK137 := n5_
      have HB := n6_
      have BK147 := n7_
      have GW147 := n8_
      have GE147 := n9_
      have NB129_147 := n10_
      have NB147_129 := n11_
      have NB130_147 := n12_
      have NB147_130 := n13_
      have NB131_147 := n14_
      have NB147_131 := n15_
      have NB137_147 := n16_
      have NB147_137 := n17_
      clear n0_ n1_ n2_ n3_ n4_ n5_ n6_ n7_ n8_ n9_ n10_ n11_ n12_ n13_ n14_ n15_ n16_ n17_ hb hbox hg
      refine hK.out _ _ (c12 BK129.out) (fun hHeld => ?_)
      clear hK K
      refine norm_ (a' := ?_) ?_ ?_
      rotate_left
      ·show Act.put _ (some 8) _ = _
       simp only [Act.put, List.setIfInBounds_toArray, List.set_cons_zero, List.set_cons_succ, i64_w, i32_w]
       rfl
      exact norm_ (by simp only [putAll, Act.put, List.setIfInBounds_toArray, List.set_cons_zero, List.set_cons_succ] <;> rfl) (hJ2_3_4_8_11 (_, _, gb147) _ ⟨hHeld, (by (with_reducible repeat (first | apply Kd.R_alloc | apply Kd.R_drewN | apply Kd.R_drew)); exact HO141.out), (by (with_reducible repeat (first | apply Kd.R_alloc | apply Kd.R_drewN | apply Kd.R_drew)); exact HO145.out), (by with_reducible repeat first | exact BK129.out | apply bN), (by with_reducible repeat first | exact BK130.out | apply bN), (by with_reducible repeat first | exact BK131.out | apply bN), (by with_reducible repeat first | exact BK137.out | apply bN), (by with_reducible repeat first | exact BK147.out | apply bN), GW147.out, GE147.out, NB129_147.out, NB147_129.out, NB130_147.out, NB147_130.out, NB131_147.out, NB147_131.out, NB137_147.out, NB147_137.out, (by repeat (first | (with_reducible first | exact HB.out | apply below_alloc | apply pw_below_drewN | apply below_drew1 | refine below_set ?_ GE129.out | refine below_set ?_ GE130.out | refine below_set ?_ GE131.out | refine below_set ?_ GE137.out | refine below_set ?_ GE147.out) | exact HB.out))⟩)
   ·skip
    rintro ⟨v140, v144, gb147⟩ w36 ⟨hS_, h0_, h1_, h2_, h3_, h4_, h5_, h6_, h7_, h8_, h9_, h10_, h11_, h12_, h13_, h14_, h15_, h16_, h17_⟩
    have n0_ : Aside0 (Kd.R (Kd.int .i64) 3 w36 w.heap.size (fun k_ => some k_ ≠ (v144 : Value).ownBlock) v140 y139) := ⟨h0_⟩
    have n1_ : Aside0 (Kd.R (Kd.int .i64) 3 w36 w.heap.size (fun k_ => some k_ ≠ (v140 : Value).ownBlock) v144 y143) := ⟨h1_⟩
    have n2_ : Aside0 (w36.heap[gb129]? = some (.cells #[.int .i64 a0_0, .int .i64 a0_1, .int .i64 a0_2, .int .i64 a0_3, .int .i64 a0_4, .int .i64 a0_5, .int .i64 a0_6, .int .i64 a0_7, .int .i64 a0_8, .int .i64 a0_9, .int .i64 a0_10, .int .i64 a0_11] 23 (0, 0))) := ⟨h2_⟩
    have n3_ : Aside0 (w36.heap[gb130]? = some (.cells #[.int .i64 a1_0, .int .i64 a1_1, .int .i64 a1_2, .int .i64 a1_3] 57 (0, 0))) := ⟨h3_⟩
    have n4_ : Aside0 (w36.heap[gb131]? = some (.cells #[.int .i64 0, .int .i64 0] 25 (0, 0))) := ⟨h4_⟩
    have n5_ : Aside0 (w36.heap[gb137]? = some (.cells #[.int .i64 t134, .int .i64 t136] 25 (0, 0))) := ⟨h5_⟩
    have n6_ : Aside0 (w36.heap[gb147]? = some (.cells #[.int .i64 0, .int .i64 0] 25 (0, 0))) := ⟨h6_⟩
    have n7_ : Aside0 (w.heap.size ≤ gb147) := ⟨h7_⟩
    have n8_ : Aside0 (w.heap.size ≤ gb147) := ⟨h8_⟩
    have n9_ : Aside0 (gb129 ≠ gb147) := ⟨h9_⟩
    have n10_ : Aside0 (gb147 ≠ gb129) := ⟨h10_⟩
    have n11_ : Aside0 (gb130 ≠ gb147) := ⟨h11_⟩
    have n12_ : Aside0 (gb147 ≠ gb130) := ⟨h12_⟩
    have n13_ : Aside0 (gb131 ≠ gb147) := ⟨h13_⟩
    have n14_ : Aside0 (gb147 ≠ gb131) := ⟨h14_⟩
    have n15_ : Aside0 (gb137 ≠ gb147) := ⟨h15_⟩
    have n16_ : Aside0 (gb147 ≠ gb137) := ⟨h16_⟩
    have n17_ : Aside0 (Below w.heap.size w w36) := ⟨h17_⟩
    clear BK129 BK130 BK131 BK137 HB h0_ h1_ h2_ h3_ h4_ h5_ h6_ h7_ h8_ h9_ h10_ h11_ h12_ h13_ h14_ h15_ h16_ h17_
    have HO141 := n0_
    have HO145 := n1_
    have BK129 := n2_
    have BK130 := n3_
    have BK131 := n4_
    have BK137 := n5_
    have BK147 := n6_
    have GW147 := n7_
    have GE147 := n8_
    have NB129_147 := n9_
    have NB147_129 := n10_
    have NB130_147 := n11_
    have NB147_130 := n12_
    have NB131_147 := n13_
    have NB147_131 := n14_
    have NB137_147 := n15_
    have NB147_137 := n16_
    have HB := n17_
    clear n0_ n1_ n2_ n3_ n4_ n5_ n6_ n7_ n8_ n9_ n10_ n11_ n12_ n13_ n14_ n15_ n16_ n17_
    have hHeld := hS_
    try dsimp only at hHeld
    obtain ⟨Ao37, co37, eo37⟩ := Kd.R_slice HO145.out
    (first | subst eo37 | (injection eo37 with f1_ f2_ f3_; have f4_ := f1_.symm; have f5_ := f3_.symm; clear f1_ f2_ f3_; subst f4_; subst f5_))
    refine norm_ (a' := ?_) ?_ ?_
    rotate_left
    ·simp only [putAll, Act.put, List.setIfInBounds_toArray, List.set_cons_zero, List.set_cons_succ]
     rfl
    refine one_ (i := 9) (N := some 38) #[true, true, true, true, true, true, true, true, true, true, false, true, false] rfl rfl (one_of HT_.out (by kernel_rfl)) (by decide) (fun K hK => ?_)
    refine goes_ Try.func41 (by kernel_rfl) rfl #[.slice Ao37 y143.length co37] (by rfl) rfl rfl (by (try simp only [List.map_toArray, List.map_cons, List.map_nil]); first | done | rfl | (simp only [List.length_drop, List.length_take]; rfl)) ?_
    with_reducible refine (sat_Add.calls k _ _ y143 t146 _ ?side1 ?side2 A10.out).mono ?_
    (case side1 => repeat (first | exact (Kd.R_reads' HO145.out).2.2 | (with_reducible refine Kd.C_alloc ?_ _) | (with_reducible refine Kd.C_drewN ?_ _) | (with_reducible refine Kd.C_drew ?_)))
    (case side2 => exact (Kd.R_reads' HO145.out).2.1)
    rintro e w' ⟨rfl, ⟨nd, rfl⟩⟩
    refine ⟨_, rfl, ?_⟩
    refine hK.out _ _ (c12 BK129.out) (fun hHeld => ?_)
    clear hK K
    refine norm_ (a' := ?_) ?_ ?_
    rotate_left
    ·show Act.put _ (some 38) _ = _
     simp only [Act.put, List.setIfInBounds_toArray, List.set_cons_zero, List.set_cons_succ, i64_w, i32_w]
     rfl
    refine pure_ (i := 10) (N := some 39) (v := ?_) (a' := ?_) #[true, true, true, true, true, true, true, true, true, true, true, true, false] rfl rfl (any_of HT_.out (by kernel_rfl)) (fun _ _ _ h => h) (Or.inl ⟨by rfl, ?_⟩) ?_ ?_
    rotate_left
    ·intro w'
     go_simp
     with_reducible rfl
    rotate_left
    ·simp only [Act.put, List.setIfInBounds_toArray, List.set_cons_zero, List.set_cons_succ, i64_w, i32_w]
     rfl
    exact norm_ (by simp only [putAll, Act.put, List.setIfInBounds_toArray, List.set_cons_zero, List.set_cons_succ] <;> rfl) (hJ2_3_4_8_9_11 (v140, .slice Ao37 y143.length co37, gb147) _ ⟨hHeld, (by (with_reducible repeat (first | apply Kd.R_alloc | apply Kd.R_drewN | apply Kd.R_drew)); exact HO141.out), (by (with_reducible repeat (first | apply Kd.R_alloc | apply Kd.R_drewN | apply Kd.R_drew)); exact HO145.out), (by with_reducible repeat first | exact BK129.out | apply bN), (by with_reducible repeat first | exact BK130.out | apply bN), (by with_reducible repeat first | exact BK131.out | apply bN), (by with_reducible repeat first | exact BK137.out | apply bN), (by with_reducible repeat first | exact BK147.out | apply bN), GW147.out, GE147.out, NB129_147.out, NB147_129.out, NB130_147.out, NB147_130.out, NB131_147.out, NB147_131.out, NB137_147.out, NB147_137.out, (by repeat (first | (with_reducible first | exact HB.out | apply below_alloc | apply pw_below_drewN | apply below_drew1 | refine below_set ?_ GE129.out | refine below_set ?_ GE130.out | refine below_set ?_ GE131.out | refine below_set ?_ GE137.out | refine below_set ?_ GE147.out) | exact HB.out))⟩)
  ·skip
   rintro ⟨v140, v144⟩ w36 ⟨hS_, h0_, h1_, h2_, h3_, h4_, h5_, h6_⟩
   have n0_ : Aside0 (Kd.R (Kd.int .i64) 3 w36 w.heap.size (fun k_ => some k_ ≠ (v144 : Value).ownBlock) v140 y139) := ⟨h0_⟩
   have n1_ : Aside0 (Kd.R (Kd.int .i64) 3 w36 w.heap.size (fun k_ => some k_ ≠ (v140 : Value).ownBlock) v144 y143) := ⟨h1_⟩
   have n2_ : Aside0 (w36.heap[gb129]? = some (.cells #[.int .i64 a0_0, .int .i64 a0_1, .int .i64 a0_2, .int .i64 a0_3, .int .i64 a0_4, .int .i64 a0_5, .int .i64 a0_6, .int .i64 a0_7, .int .i64 a0_8, .int .i64 a0_9, .int .i64 a0_10, .int .i64 a0_11] 23 (0, 0))) := ⟨h2_⟩
   have n3_ : Aside0 (w36.heap[gb130]? = some (.cells #[.int .i64 a1_0, .int .i64 a1_1, .int .i64 a1_2, .int .i64 a1_3] 57 (0, 0))) := ⟨h3_⟩
   have n4_ : Aside0 (w36.heap[gb131]? = some (.cells #[.int .i64 0, .int .i64 0] 25 (0, 0))) := ⟨h4_⟩
   have n5_ : Aside0 (w36.heap[gb137]? = some (.cells #[.int .i64 t134, .int .i64 t136] 25 (0, 0))) := ⟨h5_⟩
   have n6_ : Aside0 (Below w.heap.size w w36) := ⟨h6_⟩
   clear BK129 BK130 BK131 BK137 HB h0_ h1_ h2_ h3_ h4_ h5_ h6_
   have HO141 := n0_
   have HO145 := n1_
   have BK129 := n2_
   have BK130 := n3_
   have BK131 := n4_
   have BK137 := n5_
   have HB := n6_
   clear n0_ n1_ n2_ n3_ n4_ n5_ n6_
   have hHeld := hS_
   try dsimp only at hHeld
   refine norm_ (a' := ?_) ?_ ?_
   rotate_left
   ·simp only [putAll, Act.put, List.setIfInBounds_toArray, List.set_cons_zero, List.set_cons_succ]
    rfl
   refine one_ (i := 11) (N := some 8) #[true, true, true, true, true, true, true, true, true, true, true, true, false] rfl rfl (one_of HT_.out (by kernel_rfl)) (by decide) (fun K hK => ?_)
   refine box_step ?hg (N := 8) ?hd (cs := #[.int .i64 0, .int .i64 0]) (t := 25) ?hr ?_; (case hd => rfl); (case hg => rfl); (case hr => first | (go_simp; done) | (go_simp; rfl))
   intro gb147 hg w37 hbox hb
   have n0_ := Aside0.mk (Kd.R_below (by (with_reducible repeat (first | apply Kd.R_alloc | apply Kd.R_drewN | apply Kd.R_drew)); exact HO141.out) hb)
   have n1_ := Aside0.mk (Kd.R_below (by (with_reducible repeat (first | apply Kd.R_alloc | apply Kd.R_drewN | apply Kd.R_drew)); exact HO145.out) hb)
   have n2_ := Aside0.mk (blk_below (by with_reducible repeat first | exact BK129.out | apply bN) hb)
   have n3_ := Aside0.mk (blk_below (by with_reducible repeat first | exact BK130.out | apply bN) hb)
   have n4_ := Aside0.mk (blk_below (by with_reducible repeat first | exact BK131.out | apply bN) hb)
   have n5_ := Aside0.mk (blk_below (by with_reducible repeat first | exact BK137.out | apply bN) hb)
   have n6_ := Aside0.mk (below_step (by with_reducible repeat first | exact HB.out | apply pw_below_drewN) hb)
   have n7_ := Aside0.mk (hbox)
   have n8_ := Aside0.mk ((by rw [hg]; exact (below_size (by with_reducible repeat first | exact HB.out | apply pw_below_drewN)) : w.heap.size ≤ gb147))
   have n9_ := Aside0.mk ((by rw [hg]; exact (below_size (by with_reducible repeat first | exact HB.out | apply pw_below_drewN)) : w.heap.size ≤ gb147))
   have n10_ := Aside0.mk ((by rw [hg]; exact Nat.ne_of_lt (blk_lt (by with_reducible repeat first | exact BK129.out | apply bN)) : gb129 ≠ gb147))
   have n11_ := Aside0.mk ((by rw [hg]; exact Nat.ne_of_gt (blk_lt (by with_reducible repeat first | exact BK129.out | apply bN)) : gb147 ≠ gb129))
   have n12_ := Aside0.mk ((by rw [hg]; exact Nat.ne_of_lt (blk_lt (by with_reducible repeat first | exact BK130.out | apply bN)) : gb130 ≠ gb147))
   have n13_ := Aside0.mk ((by rw [hg]; exact Nat.ne_of_gt (blk_lt (by with_reducible repeat first | exact BK130.out | apply bN)) : gb147 ≠ gb130))
   have n14_ := Aside0.mk ((by rw [hg]; exact Nat.ne_of_lt (blk_lt (by with_reducible repeat first | exact BK131.out | apply bN)) : gb131 ≠ gb147))
   have n15_ := Aside0.mk ((by rw [hg]; exact Nat.ne_of_gt (blk_lt (by with_reducible repeat first | exact BK131.out | apply bN)) : gb147 ≠ gb131))
   have n16_ := Aside0.mk ((by rw [hg]; exact Nat.ne_of_lt (blk_lt (by with_reducible repeat first | exact BK137.out | apply bN)) : gb137 ≠ gb147))
   have n17_ := Aside0.mk ((by rw [hg]; exact Nat.ne_of_gt (blk_lt (by with_reducible repeat first | exact BK137.out | apply bN)) : gb147 ≠ gb137))
   clear HO141 HO145 BK129 BK130 BK131 BK137 HB
   have HO141 := n0_
   have HO145 := n1_
   have BK129 := n2_
   have BK130 := n3_
   have BK131 := n4_
   have BK137 := n5_
   have HB := n6_
   have BK147 := n7_
   have GW147 := n8_
   have GE147 := n9_
   have NB129_147 := n10_
   have NB147_129 := n11_
   have NB130_147 := n12_
   have NB147_130 := n13_
   have NB131_147 := n14_
   have NB147_131 := n15_
   have NB137_147 := n16_
   have NB147_137 := n17_
   clear n0_ n1_ n2_ n3_ n4_ n5_ n6_ n7_ n8_ n9_ n10_ n11_ n12_ n13_ n14_ n15_ n16_ n17_ hb hbox hg
   refine hK.out _ _ (c12 BK129.out) (fun hHeld => ?_)
   clear hK K
   refine norm_ (a' := ?_) ?_ ?_
   rotate_left
   ·show Act.put _ (some 8) _ = _
    simp only [Act.put, List.setIfInBounds_toArray, List.set_cons_zero, List.set_cons_succ, i64_w, i32_w]
    rfl
   exact norm_ (by simp only [putAll, Act.put, List.setIfInBounds_toArray, List.set_cons_zero, List.set_cons_succ] <;> rfl) (hJ2_3_4_8_9_11 (_, _, gb147) _ ⟨hHeld, (by (with_reducible repeat (first | apply Kd.R_alloc | apply Kd.R_drewN | apply Kd.R_drew)); exact HO141.out), (by (with_reducible repeat (first | apply Kd.R_alloc | apply Kd.R_drewN | apply Kd.R_drew)); exact HO145.out), (by with_reducible repeat first | exact BK129.out | apply bN), (by with_reducible repeat first | exact BK130.out | apply bN), (by with_reducible repeat first | exact BK131.out | apply bN), (by with_reducible repeat first | exact BK137.out | apply bN), (by with_reducible repeat first | exact BK147.out | apply bN), GW147.out, GE147.out, NB129_147.out, NB147_129.out, NB130_147.out, NB147_130.out, NB131_147.out, NB147_131.out, NB137_147.out, NB147_137.out, (by repeat (first | (with_reducible first | exact HB.out | apply below_alloc | apply pw_below_drewN | apply below_drew1 | refine below_set ?_ GE129.out | refine below_set ?_ GE130.out | refine below_set ?_ GE131.out | refine below_set ?_ GE137.out | refine below_set ?_ GE147.out) | exact HB.out))⟩)
 rintro ⟨v140, v144, gb147⟩ w37 ⟨hS_, h0_, h1_, h2_, h3_, h4_, h5_, h6_, h7_, h8_, h9_, h10_, h11_, h12_, h13_, h14_, h15_, h16_, h17_⟩
 have n0_ : Aside0 (Kd.R (Kd.int .i64) 3 w37 w.heap.size (fun k_ => some k_ ≠ (v144 : Value).ownBlock) v140 y139) := ⟨h0_⟩
 have n1_ : Aside0 (Kd.R (Kd.int .i64) 3 w37 w.heap.size (fun k_ => some k_ ≠ (v140 : Value).ownBlock) v144 y143) := ⟨h1_⟩
 have n2_ : Aside0 (w37.heap[gb129]? = some (.cells #[.int .i64 a0_0, .int .i64 a0_1, .int .i64 a0_2, .int .i64 a0_3, .int .i64 a0_4, .int .i64 a0_5, .int .i64 a0_6, .int .i64 a0_7, .int .i64 a0_8, .int .i64 a0_9, .int .i64 a0_10, .int .i64 a0_11] 23 (0, 0))) := ⟨h2_⟩
 have n3_ : Aside0 (w37.heap[gb130]? = some (.cells #[.int .i64 a1_0, .int .i64 a1_1, .int .i64 a1_2, .int .i64 a1_3] 57 (0, 0))) := ⟨h3_⟩
 have n4_ : Aside0 (w37.heap[gb131]? = some (.cells #[.int .i64 0, .int .i64 0] 25 (0, 0))) := ⟨h4_⟩
 have n5_ : Aside0 (w37.heap[gb137]? = some (.cells #[.int .i64 t134, .int .i64 t136] 25 (0, 0))) := ⟨h5_⟩
 have n6_ : Aside0 (w37.heap[gb147]? = some (.cells #[.int .i64 0, .int .i64 0] 25 (0, 0))) := ⟨h6_⟩
 have n7_ : Aside0 (w.heap.size ≤ gb147) := ⟨h7_⟩
 have n8_ : Aside0 (w.heap.size ≤ gb147) := ⟨h8_⟩
 have n9_ : Aside0 (gb129 ≠ gb147) := ⟨h9_⟩
 have n10_ : Aside0 (gb147 ≠ gb129) := ⟨h10_⟩
 have n11_ : Aside0 (gb130 ≠ gb147) := ⟨h11_⟩
 have n12_ : Aside0 (gb147 ≠ gb130) := ⟨h12_⟩
 have n13_ : Aside0 (gb131 ≠ gb147) := ⟨h13_⟩
 have n14_ : Aside0 (gb147 ≠ gb131) := ⟨h14_⟩
 have n15_ : Aside0 (gb137 ≠ gb147) := ⟨h15_⟩
 have n16_ : Aside0 (gb147 ≠ gb137) := ⟨h16_⟩
 have n17_ : Aside0 (Below w.heap.size w w37) := ⟨h17_⟩
 clear BK129 BK130 BK131 BK137 HB h0_ h1_ h2_ h3_ h4_ h5_ h6_ h7_ h8_ h9_ h10_ h11_ h12_ h13_ h14_ h15_ h16_ h17_
 have HO141 := n0_
 have HO145 := n1_
 have BK129 := n2_
 have BK130 := n3_
 have BK131 := n4_
 have BK137 := n5_
 have BK147 := n6_
 have GW147 := n7_
 have GE147 := n8_
 have NB129_147 := n9_
 have NB147_129 := n10_
 have NB130_147 := n11_
 have NB147_130 := n12_
 have NB131_147 := n13_
 have NB147_131 := n14_
 have NB137_147 := n15_
 have NB147_137 := n16_
 have HB := n17_
 clear n0_ n1_ n2_ n3_ n4_ n5_ n6_ n7_ n8_ n9_ n10_ n11_ n12_ n13_ n14_ n15_ n16_ n17_
 have hHeld := hS_
 try dsimp only at hHeld
 refine norm_ (a' := ?_) ?_ ?_
 rotate_left
 ·simp only [putAll, Act.put, List.setIfInBounds_toArray, List.set_cons_zero, List.set_cons_succ]
  rfl
 refine one_ (i := 12) (N := none) #[true, true, true, true, true, true, true, true, true, true, true, true, true] rfl rfl (one_of HT_.out (by kernel_rfl)) (by decide) (fun K hK => ?_)
 have hs38 : w37.cell? ⟨gb147, 0, none⟩ = some (.int .i64 0) := (blk_cell BK147.out 0).trans rfl
 have hfs38 := blk_frozen BK147.out 0
 have hns38_0 := NB129_147.out
 have hns38_1 := NB130_147.out
 have hns38_2 := NB131_147.out
 have hns38_3 := NB137_147.out
 have hms38_0 := NB147_129.out
 have hms38_1 := NB147_130.out
 have hms38_2 := NB147_131.out
 have hms38_3 := NB147_137.out
 have hs39 : w37.cell? ⟨gb147, 1, none⟩ = some (.int .i64 0) := (blk_cell BK147.out 1).trans rfl
 have hfs39 := blk_frozen BK147.out 1
 have hns39_0 := NB129_147.out
 have hns39_1 := NB130_147.out
 have hns39_2 := NB131_147.out
 have hns39_3 := NB137_147.out
 have hms39_0 := NB147_129.out
 have hms39_1 := NB147_130.out
 have hms39_2 := NB147_131.out
 have hms39_3 := NB147_137.out
 refine skip_ (w1 := ?_) (by rfl) rfl ?_ ?_
 rotate_left
 ·go_simp
  rfl
 refine hK.out _ _ ⟨((cell_far (p := ⟨gb147, _, none⟩) NB129_147.out _).trans (((cell_far (p := ⟨gb147, _, none⟩) NB129_147.out _).trans (hHeld.1)))), ((cell_far (p := ⟨gb147, _, none⟩) NB129_147.out _).trans (((cell_far (p := ⟨gb147, _, none⟩) NB129_147.out _).trans (hHeld.2.1)))), ((cell_far (p := ⟨gb147, _, none⟩) NB129_147.out _).trans (((cell_far (p := ⟨gb147, _, none⟩) NB129_147.out _).trans (hHeld.2.2.1)))), ((cell_far (p := ⟨gb147, _, none⟩) NB129_147.out _).trans (((cell_far (p := ⟨gb147, _, none⟩) NB129_147.out _).trans (hHeld.2.2.2.1)))), ((cell_far (p := ⟨gb147, _, none⟩) NB129_147.out _).trans (((cell_far (p := ⟨gb147, _, none⟩) NB129_147.out _).trans (hHeld.2.2.2.2.1)))), ((cell_far (p := ⟨gb147, _, none⟩) NB129_147.out _).trans (((cell_far (p := ⟨gb147, _, none⟩) NB129_147.out _).trans (hHeld.2.2.2.2.2.1)))), ((cell_far (p := ⟨gb147, _, none⟩) NB129_147.out _).trans (((cell_far (p := ⟨gb147, _, none⟩) NB129_147.out _).trans (hHeld.2.2.2.2.2.2.1)))), ((cell_far (p := ⟨gb147, _, none⟩) NB129_147.out _).trans (((cell_far (p := ⟨gb147, _, none⟩) NB129_147.out _).trans (hHeld.2.2.2.2.2.2.2.1)))), ((cell_far (p := ⟨gb147, _, none⟩) NB129_147.out _).trans (((cell_far (p := ⟨gb147, _, none⟩) NB129_147.out _).trans (hHeld.2.2.2.2.2.2.2.2.1)))), ((cell_far (p := ⟨gb147, _, none⟩) NB129_147.out _).trans (((cell_far (p := ⟨gb147, _, none⟩) NB129_147.out _).trans (hHeld.2.2.2.2.2.2.2.2.2.1)))), ((cell_far (p := ⟨gb147, _, none⟩) NB129_147.out _).trans (((cell_far (p := ⟨gb147, _, none⟩) NB129_147.out _).trans (hHeld.2.2.2.2.2.2.2.2.2.2.1)))), ((cell_far (p := ⟨gb147, _, none⟩) NB129_147.out _).trans (((cell_far (p := ⟨gb147, _, none⟩) NB129_147.out _).trans (hHeld.2.2.2.2.2.2.2.2.2.2.2))))⟩ (fun hHeld => ?_)
 clear hK K
 refine done_ (done_of HT_.out (by kernel_rfl)) ?_
 have hnb40 := NB129_130.out
 have hnc40 := NB130_129.out
 have hnb41 := NB129_131.out
 have hnc41 := NB131_129.out
 have hnb42 := NB129_137.out
 have hnc42 := NB137_129.out
 have hnb43 := NB129_147.out
 have hnc43 := NB147_129.out
 have hcz44_0 : w37.cell? ⟨gb129, 0, none⟩ = some (.int .i64 a0_0) := (blk_cell BK129.out 0).trans rfl
 have hcz44_1 : w37.cell? ⟨gb129, 1, none⟩ = some (.int .i64 a0_1) := (blk_cell BK129.out 1).trans rfl
 have hcz44_2 : w37.cell? ⟨gb129, 2, none⟩ = some (.int .i64 a0_2) := (blk_cell BK129.out 2).trans rfl
 have hcz44_3 : w37.cell? ⟨gb129, 3, none⟩ = some (.int .i64 a0_3) := (blk_cell BK129.out 3).trans rfl
 have hcz44_4 : w37.cell? ⟨gb129, 4, none⟩ = some (.int .i64 a0_4) := (blk_cell BK129.out 4).trans rfl
 have hcz44_5 : w37.cell? ⟨gb129, 5, none⟩ = some (.int .i64 a0_5) := (blk_cell BK129.out 5).trans rfl
 have hcz44_6 : w37.cell? ⟨gb129, 6, none⟩ = some (.int .i64 a0_6) := (blk_cell BK129.out 6).trans rfl
 have hcz44_7 : w37.cell? ⟨gb129, 7, none⟩ = some (.int .i64 a0_7) := (blk_cell BK129.out 7).trans rfl
 have hcz44_8 : w37.cell? ⟨gb129, 8, none⟩ = some (.int .i64 a0_8) := (blk_cell BK129.out 8).trans rfl
 have hcz44_9 : w37.cell? ⟨gb129, 9, none⟩ = some (.int .i64 a0_9) := (blk_cell BK129.out 9).trans rfl
 have hcz44_10 : w37.cell? ⟨gb129, 10, none⟩ = some (.int .i64 a0_10) := (blk_cell BK129.out 10).trans rfl
 have hcz44_11 : w37.cell? ⟨gb129, 11, none⟩ = some (.int .i64 a0_11) := (blk_cell BK129.out 11).trans rfl
 have hfz44_0 := blk_frozen BK129.out 0
 have hfz44_1 := blk_frozen BK129.out 1
 have hfz44_2 := blk_frozen BK129.out 2
 have hfz44_3 := blk_frozen BK129.out 3
 have hfz44_4 := blk_frozen BK129.out 4
 have hfz44_5 := blk_frozen BK129.out 5
 have hfz44_6 := blk_frozen BK129.out 6
 have hfz44_7 := blk_frozen BK129.out 7
 have hfz44_8 := blk_frozen BK129.out 8
 have hfz44_9 := blk_frozen BK129.out 9
 have hfz44_10 := blk_frozen BK129.out 10
 have hfz44_11 := blk_frozen BK129.out 11
 try go_wp2_with (first | ((with_reducible refine gate_callee (f := 54) rfl ?_); refine goesL_ (some 42) rfl rfl Try.func54 (by kernel_rfl) rfl #[.int .i64 2, .int .i64 a0_4] rfl (by (try simp only [List.map_toArray, List.map_cons, List.map_nil]); first | done | rfl | (simp only [List.length_drop, List.length_take]; rfl)) ?_; (with_reducible refine (sat_Mul.calls k 2 a0_4 t148 _ A11.out).mono ?_); rintro e w' ⟨rfl, ⟨nd, rfl⟩⟩; refine ⟨_, rfl, ?_⟩))
 have n0_ : Aside0 (Kd.R (Kd.int .i64) 3 ((w37.setCell ⟨gb147, 0, none⟩ (.int .i64 t142)).setCell ⟨gb147, 1, none⟩ (.int .i64 t146)) w.heap.size (fun k_ => some k_ ≠ (v144 : Value).ownBlock) v140 y139) := ⟨by (with_reducible repeat (first | apply Kd.R_alloc | apply Kd.R_drewN | apply Kd.R_drew)); exact Kd.R_mono (Kd.R_far (p := ⟨gb147, 1, none⟩) (Kd.R_far (p := ⟨gb147, 0, none⟩) (Kd.R_types HO141.out BK147.out (by decide)) (fun _ hk => hk.2) (.int .i64 t142)) (fun _ hk => hk.2) (.int .i64 t146)) (fun _ hk => hk.1)⟩
 have n1_ : Aside0 (Kd.R (Kd.int .i64) 3 ((w37.setCell ⟨gb147, 0, none⟩ (.int .i64 t142)).setCell ⟨gb147, 1, none⟩ (.int .i64 t146)) w.heap.size (fun k_ => some k_ ≠ (v140 : Value).ownBlock) v144 y143) := ⟨by (with_reducible repeat (first | apply Kd.R_alloc | apply Kd.R_drewN | apply Kd.R_drew)); exact Kd.R_mono (Kd.R_far (p := ⟨gb147, 1, none⟩) (Kd.R_far (p := ⟨gb147, 0, none⟩) (Kd.R_types HO145.out BK147.out (by decide)) (fun _ hk => hk.2) (.int .i64 t142)) (fun _ hk => hk.2) (.int .i64 t146)) (fun _ hk => hk.1)⟩
 have n2_ : Aside0 (((w37.setCell ⟨gb147, 0, none⟩ (.int .i64 t142)).setCell ⟨gb147, 1, none⟩ (.int .i64 t146)).heap[gb129]? = some (.cells #[.int .i64 a0_0, .int .i64 a0_1, .int .i64 a0_2, .int .i64 a0_3, .int .i64 a0_4, .int .i64 a0_5, .int .i64 a0_6, .int .i64 a0_7, .int .i64 a0_8, .int .i64 a0_9, .int .i64 a0_10, .int .i64 a0_11] 23 (0, 0))) := ⟨by (with_reducible repeat (first | refine blk_drewN ?_ _ | refine blk_drew ?_ | refine blk_alloc ?_ _)); refine blk_far ?_ NB129_147.out _; (with_reducible repeat (first | refine blk_drewN ?_ _ | refine blk_drew ?_ | refine blk_alloc ?_ _)); refine blk_far ?_ NB129_147.out _; (with_reducible repeat (first | refine blk_drewN ?_ _ | refine blk_drew ?_ | refine blk_alloc ?_ _)); exact BK129.out⟩
 have n3_ : Aside0 (((w37.setCell ⟨gb147, 0, none⟩ (.int .i64 t142)).setCell ⟨gb147, 1, none⟩ (.int .i64 t146)).heap[gb130]? = some (.cells #[.int .i64 a1_0, .int .i64 a1_1, .int .i64 a1_2, .int .i64 a1_3] 57 (0, 0))) := ⟨by (with_reducible repeat (first | refine blk_drewN ?_ _ | refine blk_drew ?_ | refine blk_alloc ?_ _)); refine blk_far ?_ NB130_147.out _; (with_reducible repeat (first | refine blk_drewN ?_ _ | refine blk_drew ?_ | refine blk_alloc ?_ _)); refine blk_far ?_ NB130_147.out _; (with_reducible repeat (first | refine blk_drewN ?_ _ | refine blk_drew ?_ | refine blk_alloc ?_ _)); exact BK130.out⟩
 have n4_ : Aside0 (((w37.setCell ⟨gb147, 0, none⟩ (.int .i64 t142)).setCell ⟨gb147, 1, none⟩ (.int .i64 t146)).heap[gb131]? = some (.cells #[.int .i64 0, .int .i64 0] 25 (0, 0))) := ⟨by (with_reducible repeat (first | refine blk_drewN ?_ _ | refine blk_drew ?_ | refine blk_alloc ?_ _)); refine blk_far ?_ NB131_147.out _; (with_reducible repeat (first | refine blk_drewN ?_ _ | refine blk_drew ?_ | refine blk_alloc ?_ _)); refine blk_far ?_ NB131_147.out _; (with_reducible repeat (first | refine blk_drewN ?_ _ | refine blk_drew ?_ | refine blk_alloc ?_ _)); exact BK131.out⟩
 have n5_ : Aside0 (((w37.setCell ⟨gb147, 0, none⟩ (.int .i64 t142)).setCell ⟨gb147, 1, none⟩ (.int .i64 t146)).heap[gb137]? = some (.cells #[.int .i64 t134, .int .i64 t136] 25 (0, 0))) := ⟨by (with_reducible repeat (first | refine blk_drewN ?_ _ | refine blk_drew ?_ | refine blk_alloc ?_ _)); refine blk_far ?_ NB137_147.out _; (with_reducible repeat (first | refine blk_drewN ?_ _ | refine blk_drew ?_ | refine blk_alloc ?_ _)); refine blk_far ?_ NB137_147.out _; (with_reducible repeat (first | refine blk_drewN ?_ _ | refine blk_drew ?_ | refine blk_alloc ?_ _)); exact BK137.out⟩
 have n6_ : Aside0 (((w37.setCell ⟨gb147, 0, none⟩ (.int .i64 t142)).setCell ⟨gb147, 1, none⟩ (.int .i64 t146)).heap[gb147]? = some (.cells #[.int .i64 t142, .int .i64 t146] 25 (0, 0))) := ⟨by (with_reducible repeat (first | refine blk_drewN ?_ _ | refine blk_drew ?_ | refine blk_alloc ?_ _)); refine blk_put (cs := #[.int .i64 t142, .int .i64 0]) ?_ 1 _ rfl; (with_reducible repeat (first | refine blk_drewN ?_ _ | refine blk_drew ?_ | refine blk_alloc ?_ _)); refine blk_put (cs := #[.int .i64 0, .int .i64 0]) ?_ 0 _ rfl; (with_reducible repeat (first | refine blk_drewN ?_ _ | refine blk_drew ?_ | refine blk_alloc ?_ _)); exact BK147.out⟩
 have n7_ : Aside0 (Below w.heap.size w ((w37.setCell ⟨gb147, 0, none⟩ (.int .i64 t142)).setCell ⟨gb147, 1, none⟩ (.int .i64 t146))) := ⟨by repeat (first | (with_reducible first | exact HB.out | apply below_alloc | apply pw_below_drewN | apply below_drew1 | refine below_set ?_ GE129.out | refine below_set ?_ GE130.out | refine below_set ?_ GE131.out | refine below_set ?_ GE137.out | refine below_set ?_ GE147.out) | exact HB.out)⟩
 (try clear HO141)
 (try clear HO145)
 (try clear BK129)
 (try clear BK130)
 (try clear BK131)
 (try clear BK137)
 (try clear BK147)
 (try clear HB)
 generalize ((w37.setCell ⟨gb147, 0, none⟩ (.int .i64 t142)).setCell ⟨gb147, 1, none⟩ (.int .i64 t146)) = w45 at n0_ n1_ n2_ n3_ n4_ n5_ n6_ n7_ ⊢
 have HO141 := n0_
 have HO145 := n1_
 have BK129 := n2_
 have BK130 := n3_
 have BK131 := n4_
 have BK137 := n5_
 have BK147 := n6_
 have HB := n7_
 clear n0_ n1_ n2_ n3_ n4_ n5_ n6_ n7_
 (try ((repeat rw [World.drewN_drewN]); rw [drewN_self w45]; generalize hq_ : World.drewN w45 _ = w45; have n0_ : Aside0 (Kd.R (Kd.int .i64) 3 w45 w.heap.size (fun k_ => some k_ ≠ (v144 : Value).ownBlock) v140 y139) := ⟨by rw [← hq_]; exact (by (with_reducible repeat (first | apply Kd.R_alloc | apply Kd.R_drewN | apply Kd.R_drew)); exact HO141.out)⟩; have n1_ : Aside0 (Kd.R (Kd.int .i64) 3 w45 w.heap.size (fun k_ => some k_ ≠ (v140 : Value).ownBlock) v144 y143) := ⟨by rw [← hq_]; exact (by (with_reducible repeat (first | apply Kd.R_alloc | apply Kd.R_drewN | apply Kd.R_drew)); exact HO145.out)⟩; have n2_ : Aside0 (w45.heap[gb129]? = some (.cells #[.int .i64 a0_0, .int .i64 a0_1, .int .i64 a0_2, .int .i64 a0_3, .int .i64 a0_4, .int .i64 a0_5, .int .i64 a0_6, .int .i64 a0_7, .int .i64 a0_8, .int .i64 a0_9, .int .i64 a0_10, .int .i64 a0_11] 23 (0, 0))) := ⟨by rw [← hq_]; exact (by with_reducible repeat first | exact BK129.out | apply bN)⟩; have n3_ : Aside0 (w45.heap[gb130]? = some (.cells #[.int .i64 a1_0, .int .i64 a1_1, .int .i64 a1_2, .int .i64 a1_3] 57 (0, 0))) := ⟨by rw [← hq_]; exact (by with_reducible repeat first | exact BK130.out | apply bN)⟩; have n4_ : Aside0 (w45.heap[gb131]? = some (.cells #[.int .i64 0, .int .i64 0] 25 (0, 0))) := ⟨by rw [← hq_]; exact (by with_reducible repeat first | exact BK131.out | apply bN)⟩; have n5_ : Aside0 (w45.heap[gb137]? = some (.cells #[.int .i64 t134, .int .i64 t136] 25 (0, 0))) := ⟨by rw [← hq_]; exact (by with_reducible repeat first | exact BK137.out | apply bN)⟩; have n6_ : Aside0 (w45.heap[gb147]? = some (.cells #[.int .i64 t142, .int .i64 t146] 25 (0, 0))) := ⟨by rw [← hq_]; exact (by with_reducible repeat first | exact BK147.out | apply bN)⟩; have n7_ : Aside0 (Below w.heap.size w w45) := ⟨by rw [← hq_]; exact (by repeat (first | (with_reducible first | exact HB.out | apply below_alloc | apply pw_below_drewN | apply below_drew1 | refine below_set ?_ GE129.out | refine below_set ?_ GE130.out | refine below_set ?_ GE131.out | refine below_set ?_ GE137.out | refine below_set ?_ GE147.out) | exact HB.out))⟩; clear HO141 HO145 BK129 BK130 BK131 BK137 BK147 HB hq_; have HO141 := n0_; have HO145 := n1_; have BK129 := n2_; have BK130 := n3_; have BK131 := n4_; have BK137 := n5_; have BK147 := n6_; have HB := n7_; clear n0_ n1_ n2_ n3_ n4_ n5_ n6_ n7_))
 have n0_ := Aside0.mk (Kd.R_drew HO141.out)
 have n1_ := Aside0.mk (Kd.R_drew HO145.out)
 have n2_ := Aside0.mk (blk_drew BK129.out)
 have n3_ := Aside0.mk (blk_drew BK130.out)
 have n4_ := Aside0.mk (blk_drew BK131.out)
 have n5_ := Aside0.mk (blk_drew BK137.out)
 have n6_ := Aside0.mk (blk_drew BK147.out)
 have n7_ := Aside0.mk (below_drew1 HB.out)
 clear HO141 HO145 BK129 BK130 BK131 BK137 BK147 HB
 have HO141 := n0_
 have HO145 := n1_
 have BK129 := n2_
 have BK130 := n3_
 have BK131 := n4_
 have BK137 := n5_
 have BK147 := n6_
 have HB := n7_
 clear n0_ n1_ n2_ n3_ n4_ n5_ n6_ n7_
 refine start_ (n := 13) (S := fun w' => w'.cell? ⟨gb137, 0, none⟩ = some (.int .i64 t134) ∧ w'.cell? ⟨gb137, 1, none⟩ = some (.int .i64 t136) ∧ w'.cell? ⟨gb147, 0, none⟩ = some (.int .i64 t142) ∧ w'.cell? ⟨gb147, 1, none⟩ = some (.int .i64 t146)) (ds := []) #[false, false, false, false, false, false, false, false, false, false, false, false, false] (by kernel_rfl) rfl rfl ⟨(blk_cell BK137.out 0).trans rfl, (blk_cell BK137.out 1).trans rfl, (blk_cell BK147.out 0).trans rfl, (blk_cell BK147.out 1).trans rfl⟩ (fun hHeld => ?_); refine with_tabW probe_Ahead.tab5 probe_Ahead.bits5 (fun HT_ HW_ => ?_)
 generalize w45.drew = w46 at HO141 HO145 BK129 BK130 BK131 BK137 BK147 HB hHeld ⊢
 refine pure_ (i := 1) (N := some 44) (v := ?_) (a' := ?_) #[false, true, false, false, false, false, false, false, false, false, false, false, false] rfl rfl (any_of HT_.out (by kernel_rfl)) (fun _ _ _ h => h) (Or.inl ⟨by rfl, ?_⟩) ?_ ?_
 rotate_left
 ·intro w'
  go_simp
  with_reducible rfl
 rotate_left
 ·simp only [Act.put, List.setIfInBounds_toArray, List.set_cons_zero, List.set_cons_succ, i64_w, i32_w]
  rfl
 refine pure_ (i := 3) (N := some 46) (v := ?_) (a' := ?_) #[false, true, false, true, false, false, false, false, false, false, false, false, false] rfl rfl (any_of HT_.out (by kernel_rfl)) (fun _ _ _ h => h) (Or.inl ⟨by rfl, ?_⟩) ?_ ?_
 rotate_left
 ·intro w'
  go_simp
  with_reducible rfl
 rotate_left
 ·simp only [Act.put, List.setIfInBounds_toArray, List.set_cons_zero, List.set_cons_succ, i64_w, i32_w]
  rfl
 refine pure_ (i := 6) (N := some 49) (v := ?_) (a' := ?_) #[false, true, false, true, false, false, true, false, false, false, false, false, false] rfl rfl (any_of HT_.out (by kernel_rfl)) (fun _ _ _ h => h) (Or.inl ⟨by rfl, ?_⟩) ?_ ?_
 rotate_left
 ·intro w'
  go_simp
  with_reducible rfl
 rotate_left
 ·simp only [Act.put, List.setIfInBounds_toArray, List.set_cons_zero, List.set_cons_succ, i64_w, i32_w]
  rfl
 refine pure_ (i := 8) (N := some 51) (v := ?_) (a' := ?_) #[false, true, false, true, false, false, true, false, true, false, false, false, false] rfl rfl (any_of HT_.out (by kernel_rfl)) (fun _ _ _ h => h) (Or.inl ⟨by rfl, ?_⟩) ?_ ?_
 rotate_left
 ·intro w'
  go_simp
  with_reducible rfl
 rotate_left
 ·simp only [Act.put, List.setIfInBounds_toArray, List.set_cons_zero, List.set_cons_succ, i64_w, i32_w]
  rfl
 refine take_ (i := 0) (N := some 43) (v := ?_) (a' := ?_) #[true, true, false, true, false, false, true, false, true, false, false, false, false] rfl rfl (take_ofW HT_.out HW_.out (by kernel_rfl)) (fun _ _ _ h => h) (Or.inl ⟨by rfl, ?_⟩) hHeld ?_ ?_
 rotate_left
 ·rintro w' ⟨s0, s1, s2, s3⟩
  go_simp
  with_reducible rfl
 rotate_left
 ·simp only [Act.put, List.setIfInBounds_toArray, List.set_cons_zero, List.set_cons_succ, i64_w, i32_w]
  rfl
 refine take_ (i := 5) (N := some 48) (v := ?_) (a' := ?_) #[true, true, false, true, false, true, true, false, true, false, false, false, false] rfl rfl (take_ofW HT_.out HW_.out (by kernel_rfl)) (fun _ _ _ h => h) (Or.inl ⟨by rfl, ?_⟩) hHeld ?_ ?_
 rotate_left
 ·rintro w' ⟨s0, s1, s2, s3⟩
  go_simp
  with_reducible rfl
 rotate_left
 ·simp only [Act.put, List.setIfInBounds_toArray, List.set_cons_zero, List.set_cons_succ, i64_w, i32_w]
  rfl
 refine one_ (i := 2) (N := some 45) #[true, true, true, true, false, true, true, false, true, false, false, false, false] rfl rfl (one_of HT_.out (by kernel_rfl)) (by decide) (fun K hK => ?_)
 refine goes_ Try.func45 (by kernel_rfl) rfl #[.int .i64 t148] (by rfl) rfl rfl (by (try simp only [List.map_toArray, List.map_cons, List.map_nil]); first | done | rfl | (simp only [List.length_drop, List.length_take]; rfl)) ?_
 with_reducible refine (sat_Neg.calls k t148 t149 _ A12.out).mono ?_
 rintro e w' ⟨rfl, ⟨nd, rfl⟩⟩
 refine ⟨_, rfl, ?_⟩
 refine hK.out _ _ ⟨(blk_cell BK137.out 0).trans rfl, (blk_cell BK137.out 1).trans rfl, (blk_cell BK147.out 0).trans rfl, (blk_cell BK147.out 1).trans rfl⟩ (fun hHeld => ?_)
 clear hK K
 refine norm_ (a' := ?_) ?_ ?_
 rotate_left
 ·show Act.put _ (some 45) _ = _
  simp only [Act.put, List.setIfInBounds_toArray, List.set_cons_zero, List.set_cons_succ, i64_w, i32_w]
  rfl
 refine one_ (i := 4) (N := some 47) #[true, true, true, true, true, true, true, false, true, false, false, false, false] rfl rfl (one_of HT_.out (by kernel_rfl)) (by decide) (fun K hK => ?_)
 refine goes_ Try.func39 (by kernel_rfl) rfl #[.agg #[.int .i64 t134, .int .i64 t136], .int .i64 t149, .int .i64 t148] (by rfl) rfl rfl (by (try simp only [List.map_toArray, List.map_cons, List.map_nil]); first | done | rfl | (simp only [List.length_drop, List.length_take]; rfl)) ?_
 with_reducible refine (span_Shift.calls k t134 t136 t149 t148 t150 t151 _ A13.out).mono ?_
 rintro e w47 ⟨rfl, hb⟩
 refine ⟨_, rfl, ?_⟩
 have n0_ := Aside0.mk (Kd.R_below (by (with_reducible repeat (first | apply Kd.R_alloc | apply Kd.R_drewN | apply Kd.R_drew)); exact HO141.out) hb)
 have n1_ := Aside0.mk (Kd.R_below (by (with_reducible repeat (first | apply Kd.R_alloc | apply Kd.R_drewN | apply Kd.R_drew)); exact HO145.out) hb)
 have n2_ := Aside0.mk (blk_below (by with_reducible repeat first | exact BK129.out | apply bN) hb)
 have n3_ := Aside0.mk (blk_below (by with_reducible repeat first | exact BK130.out | apply bN) hb)
 have n4_ := Aside0.mk (blk_below (by with_reducible repeat first | exact BK131.out | apply bN) hb)
 have n5_ := Aside0.mk (blk_below (by with_reducible repeat first | exact BK137.out | apply bN) hb)
 have n6_ := Aside0.mk (blk_below (by with_reducible repeat first | exact BK147.out | apply bN) hb)
 have n7_ := Aside0.mk (below_step (by with_reducible repeat first | exact HB.out | apply pw_below_drewN) hb)
 clear HO141 HO145 BK129 BK130 BK131 BK137 BK147 HB
 have HO141 := n0_
 have HO145 := n1_
 have BK129 := n2_
 have BK130 := n3_
 have BK131 := n4_
 have BK137 := n5_
 have BK147 := n6_
 have HB := n7_
 clear n0_ n1_ n2_ n3_ n4_ n5_ n6_ n7_
 (try clear hb)
 (try clear hb2)
 (try clear hk)
 (try clear hi)
 refine hK.out _ _ ⟨(blk_cell BK137.out 0).trans rfl, (blk_cell BK137.out 1).trans rfl, (blk_cell BK147.out 0).trans rfl, (blk_cell BK147.out 1).trans rfl⟩ (fun hHeld => ?_)
 clear hK K
 refine norm_ (a' := ?_) ?_ ?_
 rotate_left
 ·show Act.put _ (some 47) _ = _
  simp only [Act.put, List.setIfInBounds_toArray, List.set_cons_zero, List.set_cons_succ, i64_w, i32_w]
  rfl
 refine one_ (i := 7) (N := some 50) #[true, true, true, true, true, true, true, true, true, false, false, false, false] rfl rfl (one_of HT_.out (by kernel_rfl)) (by decide) (fun K hK => ?_)
 refine goes_ Try.func45 (by kernel_rfl) rfl #[.int .i64 t148] (by rfl) rfl rfl (by (try simp only [List.map_toArray, List.map_cons, List.map_nil]); first | done | rfl | (simp only [List.length_drop, List.length_take]; rfl)) ?_
 with_reducible refine (sat_Neg.calls k t148 t149 _ A14.out).mono ?_
 rintro e w' ⟨rfl, ⟨nd, rfl⟩⟩
 refine ⟨_, rfl, ?_⟩
 refine hK.out _ _ ⟨(blk_cell BK137.out 0).trans rfl, (blk_cell BK137.out 1).trans rfl, (blk_cell BK147.out 0).trans rfl, (blk_cell BK147.out 1).trans rfl⟩ (fun hHeld => ?_)
 clear hK K
 refine norm_ (a' := ?_) ?_ ?_
 rotate_left
 ·show Act.put _ (some 50) _ = _
  simp only [Act.put, List.setIfInBounds_toArray, List.set_cons_zero, List.set_cons_succ, i64_w, i32_w]
  rfl
 refine one_ (i := 9) (N := some 52) #[true, true, true, true, true, true, true, true, true, true, false, false, false] rfl rfl (one_of HT_.out (by kernel_rfl)) (by decide) (fun K hK => ?_)
 refine goes_ Try.func39 (by kernel_rfl) rfl #[.agg #[.int .i64 t142, .int .i64 t146], .int .i64 t149, .int .i64 t148] (by rfl) rfl rfl (by (try simp only [List.map_toArray, List.map_cons, List.map_nil]); first | done | rfl | (simp only [List.length_drop, List.length_take]; rfl)) ?_
 with_reducible refine (span_Shift.calls k t142 t146 t149 t148 t153 t154 _ A15.out).mono ?_
 rintro e w48 ⟨rfl, hb⟩
 refine ⟨_, rfl, ?_⟩
 have n0_ := Aside0.mk (Kd.R_below (by (with_reducible repeat (first | apply Kd.R_alloc | apply Kd.R_drewN | apply Kd.R_drew)); exact HO141.out) hb)
 have n1_ := Aside0.mk (Kd.R_below (by (with_reducible repeat (first | apply Kd.R_alloc | apply Kd.R_drewN | apply Kd.R_drew)); exact HO145.out) hb)
 have n2_ := Aside0.mk (blk_below (by with_reducible repeat first | exact BK129.out | apply bN) hb)
 have n3_ := Aside0.mk (blk_below (by with_reducible repeat first | exact BK130.out | apply bN) hb)
 have n4_ := Aside0.mk (blk_below (by with_reducible repeat first | exact BK131.out | apply bN) hb)
 have n5_ := Aside0.mk (blk_below (by with_reducible repeat first | exact BK137.out | apply bN) hb)
 have n6_ := Aside0.mk (blk_below (by with_reducible repeat first | exact BK147.out | apply bN) hb)
 have n7_ := Aside0.mk (below_step (by with_reducible repeat first | exact HB.out | apply pw_below_drewN) hb)
 clear HO141 HO145 BK129 BK130 BK131 BK137 BK147 HB
 have HO141 := n0_
 have HO145 := n1_
 have BK129 := n2_
 have BK130 := n3_
 have BK131 := n4_
 have BK137 := n5_
 have BK147 := n6_
 have HB := n7_
 clear n0_ n1_ n2_ n3_ n4_ n5_ n6_ n7_
 (try clear hb)
 (try clear hb2)
 (try clear hk)
 (try clear hi)
 refine hK.out _ _ ⟨(blk_cell BK137.out 0).trans rfl, (blk_cell BK137.out 1).trans rfl, (blk_cell BK147.out 0).trans rfl, (blk_cell BK147.out 1).trans rfl⟩ (fun hHeld => ?_)
 clear hK K
 refine norm_ (a' := ?_) ?_ ?_
 rotate_left
 ·show Act.put _ (some 52) _ = _
  simp only [Act.put, List.setIfInBounds_toArray, List.set_cons_zero, List.set_cons_succ, i64_w, i32_w]
  rfl
 refine one_ (i := 10) (N := some 53) #[true, true, true, true, true, true, true, true, true, true, true, false, false] rfl rfl (one_of HT_.out (by kernel_rfl)) (by decide) (fun K hK => ?_)
 refine Kd.R_lit_step k25 _ 25 ?hg (N := 53) ?hd (xs := ([(⟨t150, t151⟩ : S25), (⟨t153, t154⟩ : S25)] : List (S25))) (inner := [.int .i64 t150, .int .i64 t151, .int .i64 t153, .int .i64 t154]) (ok := fun _ => True) (okp := fun _ => True) ?hr ?hp (fun _ hk => hk) trivial (Below.refl _ _) (Nat.le_refl _) (by simp) ?_; (case hd => rfl); (case hg => rfl); (case hr => first | (go_simp; done) | (go_simp; rfl)); (case hp => exact (Reps.c2 (show Kd.M k25 _ _ _ (⟨t150, t151⟩ : S25) [.int .i64 t150, .int .i64 t151] from (k25_mkM _ _ _ (⟨t150, t151⟩ : S25) )) (Reps.c2 (show Kd.M k25 _ _ _ (⟨t153, t154⟩ : S25) [.int .i64 t153, .int .i64 t154] from (k25_mkM _ _ _ (⟨t153, t154⟩ : S25) )) (Reps.none _ _))))
 intro v156 w49 ho50 hb hg_ hnew_
 clear hg_ hnew_
 (first | rw [← Ny155.out] at ho50 | (simp only [Int.reduceToNat] at ho50; rw [← Ny155.out] at ho50))
 have n0_ := Aside0.mk (Kd.R_below (by (with_reducible repeat (first | apply Kd.R_alloc | apply Kd.R_drewN | apply Kd.R_drew)); exact HO141.out) hb)
 have n1_ := Aside0.mk (Kd.R_below (by (with_reducible repeat (first | apply Kd.R_alloc | apply Kd.R_drewN | apply Kd.R_drew)); exact HO145.out) hb)
 have n2_ := Aside0.mk (Kd.R_lower (Kd.R_newB (Kd.R_newB (Kd.R_newB ho50 (by with_reducible repeat first | exact BK131.out | apply bN)) (by with_reducible repeat first | exact BK137.out | apply bN)) (by with_reducible repeat first | exact BK147.out | apply bN)) (below_size (by with_reducible repeat first | exact HB.out | apply pw_below_drewN)))
 have n3_ := Aside0.mk (blk_below (by with_reducible repeat first | exact BK129.out | apply bN) hb)
 have n4_ := Aside0.mk (blk_below (by with_reducible repeat first | exact BK130.out | apply bN) hb)
 have n5_ := Aside0.mk (blk_below (by with_reducible repeat first | exact BK131.out | apply bN) hb)
 have n6_ := Aside0.mk (blk_below (by with_reducible repeat first | exact BK137.out | apply bN) hb)
 have n7_ := Aside0.mk (blk_below (by with_reducible repeat first | exact BK147.out | apply bN) hb)
 have n8_ := Aside0.mk (below_step (by with_reducible repeat first | exact HB.out | apply pw_below_drewN) hb)
 clear HO141 HO145 BK129 BK130 BK131 BK137 BK147 HB
 have HO141 := n0_
 have HO145 := n1_
 have HO157 := n2_
 have BK129 := n3_
 have BK130 := n4_
 have BK131 := n5_
 have BK137 := n6_
 have BK147 := n7_
 have HB := n8_
 clear n0_ n1_ n2_ n3_ n4_ n5_ n6_ n7_ n8_ hb ho50
 obtain ⟨Ao51, co51, eo51⟩ := Kd.R_slice HO157.out
 (first | subst eo51 | (injection eo51 with f1_ f2_ f3_; have f4_ := f1_.symm; have f5_ := f3_.symm; clear f1_ f2_ f3_; subst f4_; subst f5_))
 refine hK.out _ _ ⟨(blk_cell BK137.out 0).trans rfl, (blk_cell BK137.out 1).trans rfl, (blk_cell BK147.out 0).trans rfl, (blk_cell BK147.out 1).trans rfl⟩ (fun hHeld => ?_)
 clear hK K
 refine norm_ (a' := ?_) ?_ ?_
 rotate_left
 ·show Act.put _ (some 53) _ = _
  simp only [Act.put, List.setIfInBounds_toArray, List.set_cons_zero, List.set_cons_succ, i64_w, i32_w]
  rfl
 refine one_ (i := 11) (N := some 54) #[true, true, true, true, true, true, true, true, true, true, true, true, false] rfl rfl (one_of HT_.out (by kernel_rfl)) (by decide) (fun K hK => ?_)
 refine goes_ Try.func55 (by kernel_rfl) rfl #[.slice Ao51 y155.length co51] (by rfl) rfl rfl (by (try simp only [List.map_toArray, List.map_cons, List.map_nil]); first | done | rfl | (simp only [List.length_drop, List.length_take]; rfl)) ?_
 with_reducible refine (span_Meet.calls k _ _ y155 t158 t159 _ ?side1 ?side2 A16.out).mono ?_
 (case side1 => repeat (first | exact (Kd.R_reads' HO157.out).2.2 | (with_reducible refine Kd.C_alloc ?_ _) | (with_reducible refine Kd.C_drewN ?_ _) | (with_reducible refine Kd.C_drew ?_)))
 (case side2 => exact (Kd.R_reads' HO157.out).2.1)
 rintro e w52 ⟨rfl, hb⟩
 refine ⟨_, rfl, ?_⟩
 have n0_ := Aside0.mk (Kd.R_below (by (with_reducible repeat (first | apply Kd.R_alloc | apply Kd.R_drewN | apply Kd.R_drew)); exact HO141.out) hb)
 have n1_ := Aside0.mk (Kd.R_below (by (with_reducible repeat (first | apply Kd.R_alloc | apply Kd.R_drewN | apply Kd.R_drew)); exact HO145.out) hb)
 have n2_ := Aside0.mk (Kd.R_below (by (with_reducible repeat (first | apply Kd.R_alloc | apply Kd.R_drewN | apply Kd.R_drew)); exact HO157.out) hb)
 have n3_ := Aside0.mk (blk_below (by with_reducible repeat first | exact BK129.out | apply bN) hb)
 have n4_ := Aside0.mk (blk_below (by with_reducible repeat first | exact BK130.out | apply bN) hb)
 have n5_ := Aside0.mk (blk_below (by with_reducible repeat first | exact BK131.out | apply bN) hb)
 have n6_ := Aside0.mk (blk_below (by with_reducible repeat first | exact BK137.out | apply bN) hb)
 have n7_ := Aside0.mk (blk_below (by with_reducible repeat first | exact BK147.out | apply bN) hb)
 have n8_ := Aside0.mk (below_step (by with_reducible repeat first | exact HB.out | apply pw_below_drewN) hb)
 clear HO141 HO145 HO157 BK129 BK130 BK131 BK137 BK147 HB
 have HO141 := n0_
 have HO145 := n1_
 have HO157 := n2_
 have BK129 := n3_
 have BK130 := n4_
 have BK131 := n5_
 have BK137 := n6_
 have BK147 := n7_
 have HB := n8_
 clear n0_ n1_ n2_ n3_ n4_ n5_ n6_ n7_ n8_
 (try clear hb)
 (try clear hb2)
 (try clear hk)
 (try clear hi)
 refine hK.out _ _ ⟨(blk_cell BK137.out 0).trans rfl, (blk_cell BK137.out 1).trans rfl, (blk_cell BK147.out 0).trans rfl, (blk_cell BK147.out 1).trans rfl⟩ (fun hHeld => ?_)
 clear hK K
 refine norm_ (a' := ?_) ?_ ?_
 rotate_left
 ·show Act.put _ (some 54) _ = _
  simp only [Act.put, List.setIfInBounds_toArray, List.set_cons_zero, List.set_cons_succ, i64_w, i32_w]
  rfl
 refine one_ (i := 12) (N := none) #[true, true, true, true, true, true, true, true, true, true, true, true, true] rfl rfl (one_of HT_.out (by kernel_rfl)) (by decide) (fun K hK => ?_)
 have hs53 : w52.cell? ⟨gb131, 0, none⟩ = some (.int .i64 0) := (blk_cell BK131.out 0).trans rfl
 have hfs53 := blk_frozen BK131.out 0
 have hns53_0 := NB129_131.out
 have hns53_1 := NB130_131.out
 have hns53_3 := NB137_131.out
 have hns53_4 := NB147_131.out
 have hms53_0 := NB131_129.out
 have hms53_1 := NB131_130.out
 have hms53_3 := NB131_137.out
 have hms53_4 := NB131_147.out
 have hs54 : w52.cell? ⟨gb131, 1, none⟩ = some (.int .i64 0) := (blk_cell BK131.out 1).trans rfl
 have hfs54 := blk_frozen BK131.out 1
 have hns54_0 := NB129_131.out
 have hns54_1 := NB130_131.out
 have hns54_3 := NB137_131.out
 have hns54_4 := NB147_131.out
 have hms54_0 := NB131_129.out
 have hms54_1 := NB131_130.out
 have hms54_3 := NB131_137.out
 have hms54_4 := NB131_147.out
 refine skip_ (w1 := ?_) (by rfl) rfl ?_ ?_
 rotate_left
 ·go_simp
  rfl
 refine hK.out _ _ ⟨((cell_far (p := ⟨gb131, _, none⟩) NB137_131.out _).trans (((cell_far (p := ⟨gb131, _, none⟩) NB137_131.out _).trans (hHeld.1)))), ((cell_far (p := ⟨gb131, _, none⟩) NB137_131.out _).trans (((cell_far (p := ⟨gb131, _, none⟩) NB137_131.out _).trans (hHeld.2.1)))), ((cell_far (p := ⟨gb131, _, none⟩) NB147_131.out _).trans (((cell_far (p := ⟨gb131, _, none⟩) NB147_131.out _).trans (hHeld.2.2.1)))), ((cell_far (p := ⟨gb131, _, none⟩) NB147_131.out _).trans (((cell_far (p := ⟨gb131, _, none⟩) NB147_131.out _).trans (hHeld.2.2.2))))⟩ (fun hHeld => ?_)
 clear hK K
 refine done_ (done_of HT_.out (by kernel_rfl)) ?_
 try go_wp2
 refine bodyPost_ret (results_cell_row rfl _ _ gb131 25 #[.int .i64 t158, .int .i64 t159] (0, 0) _ rfl (by (with_reducible repeat (first | refine blk_drewN ?_ _ | refine blk_drew ?_ | refine blk_alloc ?_ _)); refine blk_put (cs := #[.int .i64 t158, .int .i64 0]) ?_ 1 _ rfl; (with_reducible repeat (first | refine blk_drewN ?_ _ | refine blk_drew ?_ | refine blk_alloc ?_ _)); refine blk_put (cs := #[.int .i64 0, .int .i64 0]) ?_ 0 _ rfl; (with_reducible repeat (first | refine blk_drewN ?_ _ | refine blk_drew ?_ | refine blk_alloc ?_ _)); exact BK131.out) Try.underlying25 rfl (by kernel_rfl)) rfl ?_
 exact ⟨by first | rfl | (simp [errW_none, errW_some] <;> rfl) | (simp [*, errW_none, errW_some] <;> rfl), by repeat (first | (with_reducible first | exact HB.out | apply below_alloc | apply pw_below_drewN | apply below_drew1 | refine below_set ?_ GE129.out | refine below_set ?_ GE130.out | refine below_set ?_ GE131.out | refine below_set ?_ GE137.out | refine below_set ?_ GE147.out) | exact HB.out)⟩

end Go.Proofs.Ytigpigfoahlfjaa.Q
