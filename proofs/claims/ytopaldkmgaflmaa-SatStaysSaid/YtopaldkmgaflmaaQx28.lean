/- The calls of these Go functions answer what the Lean functions beside them answer; written by a program (wip/pr2.py, out of the print of the loaded program); under no condition but those that stand in the theorems. -/
import Derived.Test.YtopaldkmgaflmaaQx0
import Derived.Test.YtopaldkmgaflmaaQx9
import Derived.Test.YtopaldkmgaflmaaQx11
import Derived.Test.YtopaldkmgaflmaaQx13
import Derived.Test.YtopaldkmgaflmaaQx17
namespace Go.Proofs.Ytopaldkmgaflmaa.Q
open Go.RowKit Go.Proofs.YtopaldkmgaflmaaW.PrintWords Go.Proofs.YtopaldkmgaflmaaW.PrintLast Go.Proofs.YtopaldkmgaflmaaW.PrintMore
attribute [local go_sem] max2_int min2_int max_two min_two max_three min_three max_four min_four   -- for this text's walks alone
set_option linter.unusedVariables false
set_option linter.unusedSimpArgs false

/-! ### clepsydralaw01_SatStays: function 14 -/
def clepsydralaw01_SatStays.j0 : Nat → Int → Int → Int → Int → Option (Bool)
  | 0, _, _, _, _ => none
  | k + 1, x0, x1, x9, x10 => (sat_Add.f k (([x0, x1] : List Int))).bind fun t337 => ((sat_Add.f k (([x1, x0] : List Int))).bind fun t341 => (if t337 = t341 then ((sat_Mul.f k x0 x1).bind fun t342 => ((sat_Mul.f k x1 x0).bind fun t343 => (if t342 = t343 then ((sat_Add.f k (([x0, x9] : List Int))).bind fun t347 => ((sat_Add.f k (([x0, x10] : List Int))).bind fun t351 => (if t347 ≤ t351 then ((sat_Sub.f k x0 x9).bind fun t352 => ((sat_Sub.f k x0 x10).bind fun t353 => (some (decide (t352 ≥ t353))))) else (some false)))) else (some false)))) else (some false)))
def clepsydralaw01_SatStays.f (k : Nat) (a0 : Int) (a1 : Int) (a2 : Int) : Option (Bool) := (sat_Add.f k (([3, 4] : List Int))).bind fun t318 => (if t318 = 7 then ((sat_Add.f k (([a0, a1] : List Int))).bind fun t322 => ((sat_Sub.f k a0 a1).bind fun t323 => ((sat_Mul.f k a0 a1).bind fun t324 => ((sat_Add.f k (([a0, a1, a2] : List Int))).bind fun t328 => ((sat_Abs.f k a0).bind fun t329 => ((sat_Max.f k (([a0, a1] : List Int))).bind fun t333 => (if t322 > 2305843009213693952 then (some false) else (if t322 < (-2305843009213693952) then (some false) else (if t323 > 2305843009213693952 then (some false) else (if t323 < (-2305843009213693952) then (some false) else (if t324 > 2305843009213693952 then (some false) else (if t324 < (-2305843009213693952) then (some false) else (if t328 > 2305843009213693952 then (some false) else (if t328 < (-2305843009213693952) then (some false) else (if t329 > 2305843009213693952 then (some false) else (if t329 < (-2305843009213693952) then (some false) else (if t333 > 2305843009213693952 then (some false) else (if t333 < (-2305843009213693952) then (some false) else (if a1 > a2 then (clepsydralaw01_SatStays.j0 k a0 a1 a2 a1) else (clepsydralaw01_SatStays.j0 k a0 a1 a1 a2)))))))))))))))))))) else (some false))
theorem clepsydralaw01_SatStays.mono_l : ∀ k, (∀ y0 y1 y2 y3, LeO (clepsydralaw01_SatStays.j0 k y0 y1 y2 y3) (clepsydralaw01_SatStays.j0 (k + 1) y0 y1 y2 y3))
  | 0 => fun _ _ _ _ r h => by simp [clepsydralaw01_SatStays.j0] at h
  | k + 1 => by
    have ih0 := clepsydralaw01_SatStays.mono_l k
    · intro y0 y1 y2 y3
      unfold clepsydralaw01_SatStays.j0
      repeat' first
      | (with_reducible exact ih0 _ _ _ _)
      | (with_reducible exact sat_Abs.mono _ _)
      | (with_reducible exact sat_Add.mono _ _)
      | (with_reducible exact sat_Max.mono _ _)
      | (with_reducible exact sat_Mul.mono _ _ _)
      | (with_reducible exact sat_Sub.mono _ _ _)
      | (with_reducible exact LeO.refl _)
      | (with_reducible exact LeO.none _)
      | (with_reducible refine LeO.ite ?_ ?_)
      | (with_reducible refine LeO.bind ?_ (fun _ => ?_))
      | exact ih0 _ _ _ _
      | exact sat_Abs.mono _ _
      | exact sat_Add.mono _ _
      | exact sat_Max.mono _ _
      | exact sat_Mul.mono _ _ _
      | exact sat_Sub.mono _ _ _
      | exact LeO.none _
      | refine LeO.ite ?_ ?_
      | refine LeO.bind ?_ (fun _ => ?_)
theorem clepsydralaw01_SatStays.mono : ∀ a0 a1 a2 k, LeO (clepsydralaw01_SatStays.f k a0 a1 a2) (clepsydralaw01_SatStays.f (k + 1) a0 a1 a2) := by
  intro a0 a1 a2 k
  have ih0 := clepsydralaw01_SatStays.mono_l k
  unfold clepsydralaw01_SatStays.f
  repeat' first
      | (with_reducible exact ih0 _ _ _ _)
      | (with_reducible exact sat_Abs.mono _ _)
      | (with_reducible exact sat_Add.mono _ _)
      | (with_reducible exact sat_Max.mono _ _)
      | (with_reducible exact sat_Mul.mono _ _ _)
      | (with_reducible exact sat_Sub.mono _ _ _)
      | (with_reducible exact LeO.refl _)
      | (with_reducible exact LeO.none _)
      | (with_reducible refine LeO.ite ?_ ?_)
      | (with_reducible refine LeO.bind ?_ (fun _ => ?_))
      | exact ih0 _ _ _ _
      | exact sat_Abs.mono _ _
      | exact sat_Add.mono _ _
      | exact sat_Max.mono _ _
      | exact sat_Mul.mono _ _ _
      | exact sat_Sub.mono _ _ _
      | exact LeO.none _
      | refine LeO.ite ?_ ?_
      | refine LeO.bind ?_ (fun _ => ?_)
theorem clepsydralaw01_SatStays.ix55_0 (x0 x1 x2 x3 x4 x5 : Value) (w : World) : (Instr.index 55 (.agg #[x0, x1, x2, x3, x4, x5]) (.int .i64 0)).run Try.prog w = .ok x0 w := by kernel_rfl
attribute [local go_sem] clepsydralaw01_SatStays.ix55_0
theorem clepsydralaw01_SatStays.ix55_1 (x0 x1 x2 x3 x4 x5 : Value) (w : World) : (Instr.index 55 (.agg #[x0, x1, x2, x3, x4, x5]) (.int .i64 1)).run Try.prog w = .ok x1 w := by kernel_rfl
attribute [local go_sem] clepsydralaw01_SatStays.ix55_1
theorem clepsydralaw01_SatStays.ix55_2 (x0 x1 x2 x3 x4 x5 : Value) (w : World) : (Instr.index 55 (.agg #[x0, x1, x2, x3, x4, x5]) (.int .i64 2)).run Try.prog w = .ok x2 w := by kernel_rfl
attribute [local go_sem] clepsydralaw01_SatStays.ix55_2
theorem clepsydralaw01_SatStays.ix55_3 (x0 x1 x2 x3 x4 x5 : Value) (w : World) : (Instr.index 55 (.agg #[x0, x1, x2, x3, x4, x5]) (.int .i64 3)).run Try.prog w = .ok x3 w := by kernel_rfl
attribute [local go_sem] clepsydralaw01_SatStays.ix55_3
theorem clepsydralaw01_SatStays.ix55_4 (x0 x1 x2 x3 x4 x5 : Value) (w : World) : (Instr.index 55 (.agg #[x0, x1, x2, x3, x4, x5]) (.int .i64 4)).run Try.prog w = .ok x4 w := by kernel_rfl
attribute [local go_sem] clepsydralaw01_SatStays.ix55_4
theorem clepsydralaw01_SatStays.ix55_5 (x0 x1 x2 x3 x4 x5 : Value) (w : World) : (Instr.index 55 (.agg #[x0, x1, x2, x3, x4, x5]) (.int .i64 5)).run Try.prog w = .ok x5 w := by kernel_rfl
attribute [local go_sem] clepsydralaw01_SatStays.ix55_5
set_option maxHeartbeats 8000000 in
set_option maxRecDepth 100000 in
theorem clepsydralaw01_SatStays.calls (k : Nat) (a0 : Int) (a1 : Int) (a2 : Int) (r : Bool) (w : World) (hT : Aside0 (r = true)) (h : clepsydralaw01_SatStays.f k a0 a1 a2 = some r) :
    Calls Try.prog 14 #[.int .i64 a0, .int .i64 a1, .int .i64 a2] w fun e w' => e = .returned (.bool r) ∧ Below w.heap.size w w' := by
  have hu55 := Try.underlying55
  have HB := Aside0.mk (Below.refl w.heap.size w)
  have H : ((sat_Add.f k (([3, 4] : List Int))).bind fun t318 => (if t318 = 7 then ((sat_Add.f k (([a0, a1] : List Int))).bind fun t322 => ((sat_Sub.f k a0 a1).bind fun t323 => ((sat_Mul.f k a0 a1).bind fun t324 => ((sat_Add.f k (([a0, a1, a2] : List Int))).bind fun t328 => ((sat_Abs.f k a0).bind fun t329 => ((sat_Max.f k (([a0, a1] : List Int))).bind fun t333 => (if t322 > 2305843009213693952 then (some false) else (if t322 < (-2305843009213693952) then (some false) else (if t323 > 2305843009213693952 then (some false) else (if t323 < (-2305843009213693952) then (some false) else (if t324 > 2305843009213693952 then (some false) else (if t324 < (-2305843009213693952) then (some false) else (if t328 > 2305843009213693952 then (some false) else (if t328 < (-2305843009213693952) then (some false) else (if t329 > 2305843009213693952 then (some false) else (if t329 < (-2305843009213693952) then (some false) else (if t333 > 2305843009213693952 then (some false) else (if t333 < (-2305843009213693952) then (some false) else (if a1 > a2 then (clepsydralaw01_SatStays.j0 k a0 a1 a2 a1) else (clepsydralaw01_SatStays.j0 k a0 a1 a1 a2)))))))))))))))))))) else (some false))) = some r := h
  clear h
  obtain ⟨y315, hy315⟩ : ∃ y_ : List Int, y_ = (([3, 4] : List Int)) := ⟨_, rfl⟩
  replace H : ((sat_Add.f k y315).bind fun t318 => (if t318 = 7 then ((sat_Add.f k (([a0, a1] : List Int))).bind fun t322 => ((sat_Sub.f k a0 a1).bind fun t323 => ((sat_Mul.f k a0 a1).bind fun t324 => ((sat_Add.f k (([a0, a1, a2] : List Int))).bind fun t328 => ((sat_Abs.f k a0).bind fun t329 => ((sat_Max.f k (([a0, a1] : List Int))).bind fun t333 => (if t322 > 2305843009213693952 then (some false) else (if t322 < (-2305843009213693952) then (some false) else (if t323 > 2305843009213693952 then (some false) else (if t323 < (-2305843009213693952) then (some false) else (if t324 > 2305843009213693952 then (some false) else (if t324 < (-2305843009213693952) then (some false) else (if t328 > 2305843009213693952 then (some false) else (if t328 < (-2305843009213693952) then (some false) else (if t329 > 2305843009213693952 then (some false) else (if t329 < (-2305843009213693952) then (some false) else (if t333 > 2305843009213693952 then (some false) else (if t333 < (-2305843009213693952) then (some false) else (if a1 > a2 then (clepsydralaw01_SatStays.j0 k a0 a1 a2 a1) else (clepsydralaw01_SatStays.j0 k a0 a1 a1 a2)))))))))))))))))))) else (some false))) = some r := by first | (rw [hy315]; with_reducible exact H) | (have H2_ := (Option.bind_some _ _).symm.trans H; rw [hy315]; with_reducible exact H2_) | (have H2_ := (Option.bind_some _ _).symm.trans H; with_reducible exact H2_) | with_reducible exact H | (rw [hy315]; exact H) | exact H
  have Ny315 := Aside0.mk hy315
  clear hy315
  replace H := Option.bind_eq_some_iff.mp H
  obtain ⟨t318, A40, H⟩ := H
  replace H : (if t318 = 7 then ((sat_Add.f k (([a0, a1] : List Int))).bind fun t322 => ((sat_Sub.f k a0 a1).bind fun t323 => ((sat_Mul.f k a0 a1).bind fun t324 => ((sat_Add.f k (([a0, a1, a2] : List Int))).bind fun t328 => ((sat_Abs.f k a0).bind fun t329 => ((sat_Max.f k (([a0, a1] : List Int))).bind fun t333 => (if t322 > 2305843009213693952 then (some false) else (if t322 < (-2305843009213693952) then (some false) else (if t323 > 2305843009213693952 then (some false) else (if t323 < (-2305843009213693952) then (some false) else (if t324 > 2305843009213693952 then (some false) else (if t324 < (-2305843009213693952) then (some false) else (if t328 > 2305843009213693952 then (some false) else (if t328 < (-2305843009213693952) then (some false) else (if t329 > 2305843009213693952 then (some false) else (if t329 < (-2305843009213693952) then (some false) else (if t333 > 2305843009213693952 then (some false) else (if t333 < (-2305843009213693952) then (some false) else (if a1 > a2 then (clepsydralaw01_SatStays.j0 k a0 a1 a2 a1) else (clepsydralaw01_SatStays.j0 k a0 a1 a1 a2)))))))))))))))))))) else (some false)) = some r := H
  have A4 := Aside0.mk A40
  clear A40
  by_cases c5 : t318 = 7
  · rw [if_pos c5] at H
    have c5b0 : (t318 == 7) = true := beq_iff_eq.mpr c5
    have c5b1 : (t318 != 7) = false := bne_eq_false_iff_eq.mpr c5
    clear c5
    obtain ⟨y319, hy319⟩ : ∃ y_ : List Int, y_ = (([a0, a1] : List Int)) := ⟨_, rfl⟩
    replace H : ((sat_Add.f k y319).bind fun t322 => ((sat_Sub.f k a0 a1).bind fun t323 => ((sat_Mul.f k a0 a1).bind fun t324 => ((sat_Add.f k (([a0, a1, a2] : List Int))).bind fun t328 => ((sat_Abs.f k a0).bind fun t329 => ((sat_Max.f k (([a0, a1] : List Int))).bind fun t333 => (if t322 > 2305843009213693952 then (some false) else (if t322 < (-2305843009213693952) then (some false) else (if t323 > 2305843009213693952 then (some false) else (if t323 < (-2305843009213693952) then (some false) else (if t324 > 2305843009213693952 then (some false) else (if t324 < (-2305843009213693952) then (some false) else (if t328 > 2305843009213693952 then (some false) else (if t328 < (-2305843009213693952) then (some false) else (if t329 > 2305843009213693952 then (some false) else (if t329 < (-2305843009213693952) then (some false) else (if t333 > 2305843009213693952 then (some false) else (if t333 < (-2305843009213693952) then (some false) else (if a1 > a2 then (clepsydralaw01_SatStays.j0 k a0 a1 a2 a1) else (clepsydralaw01_SatStays.j0 k a0 a1 a1 a2)))))))))))))))))))) = some r := by first | (rw [hy319]; with_reducible exact H) | (have H2_ := (Option.bind_some _ _).symm.trans H; rw [hy319]; with_reducible exact H2_) | (have H2_ := (Option.bind_some _ _).symm.trans H; with_reducible exact H2_) | with_reducible exact H | (rw [hy319]; exact H) | exact H
    have Ny319 := Aside0.mk hy319
    clear hy319
    replace H := Option.bind_eq_some_iff.mp H
    obtain ⟨t322, A60, H⟩ := H
    replace H : ((sat_Sub.f k a0 a1).bind fun t323 => ((sat_Mul.f k a0 a1).bind fun t324 => ((sat_Add.f k (([a0, a1, a2] : List Int))).bind fun t328 => ((sat_Abs.f k a0).bind fun t329 => ((sat_Max.f k (([a0, a1] : List Int))).bind fun t333 => (if t322 > 2305843009213693952 then (some false) else (if t322 < (-2305843009213693952) then (some false) else (if t323 > 2305843009213693952 then (some false) else (if t323 < (-2305843009213693952) then (some false) else (if t324 > 2305843009213693952 then (some false) else (if t324 < (-2305843009213693952) then (some false) else (if t328 > 2305843009213693952 then (some false) else (if t328 < (-2305843009213693952) then (some false) else (if t329 > 2305843009213693952 then (some false) else (if t329 < (-2305843009213693952) then (some false) else (if t333 > 2305843009213693952 then (some false) else (if t333 < (-2305843009213693952) then (some false) else (if a1 > a2 then (clepsydralaw01_SatStays.j0 k a0 a1 a2 a1) else (clepsydralaw01_SatStays.j0 k a0 a1 a1 a2))))))))))))))))))) = some r := H
    have A6 := Aside0.mk A60
    clear A60
    replace H := Option.bind_eq_some_iff.mp H
    obtain ⟨t323, A70, H⟩ := H
    replace H : ((sat_Mul.f k a0 a1).bind fun t324 => ((sat_Add.f k (([a0, a1, a2] : List Int))).bind fun t328 => ((sat_Abs.f k a0).bind fun t329 => ((sat_Max.f k (([a0, a1] : List Int))).bind fun t333 => (if t322 > 2305843009213693952 then (some false) else (if t322 < (-2305843009213693952) then (some false) else (if t323 > 2305843009213693952 then (some false) else (if t323 < (-2305843009213693952) then (some false) else (if t324 > 2305843009213693952 then (some false) else (if t324 < (-2305843009213693952) then (some false) else (if t328 > 2305843009213693952 then (some false) else (if t328 < (-2305843009213693952) then (some false) else (if t329 > 2305843009213693952 then (some false) else (if t329 < (-2305843009213693952) then (some false) else (if t333 > 2305843009213693952 then (some false) else (if t333 < (-2305843009213693952) then (some false) else (if a1 > a2 then (clepsydralaw01_SatStays.j0 k a0 a1 a2 a1) else (clepsydralaw01_SatStays.j0 k a0 a1 a1 a2)))))))))))))))))) = some r := H
    have A7 := Aside0.mk A70
    clear A70
    replace H := Option.bind_eq_some_iff.mp H
    obtain ⟨t324, A80, H⟩ := H
    replace H : ((sat_Add.f k (([a0, a1, a2] : List Int))).bind fun t328 => ((sat_Abs.f k a0).bind fun t329 => ((sat_Max.f k (([a0, a1] : List Int))).bind fun t333 => (if t322 > 2305843009213693952 then (some false) else (if t322 < (-2305843009213693952) then (some false) else (if t323 > 2305843009213693952 then (some false) else (if t323 < (-2305843009213693952) then (some false) else (if t324 > 2305843009213693952 then (some false) else (if t324 < (-2305843009213693952) then (some false) else (if t328 > 2305843009213693952 then (some false) else (if t328 < (-2305843009213693952) then (some false) else (if t329 > 2305843009213693952 then (some false) else (if t329 < (-2305843009213693952) then (some false) else (if t333 > 2305843009213693952 then (some false) else (if t333 < (-2305843009213693952) then (some false) else (if a1 > a2 then (clepsydralaw01_SatStays.j0 k a0 a1 a2 a1) else (clepsydralaw01_SatStays.j0 k a0 a1 a1 a2))))))))))))))))) = some r := H
    have A8 := Aside0.mk A80
    clear A80
    obtain ⟨y325, hy325⟩ : ∃ y_ : List Int, y_ = (([a0, a1, a2] : List Int)) := ⟨_, rfl⟩
    replace H : ((sat_Add.f k y325).bind fun t328 => ((sat_Abs.f k a0).bind fun t329 => ((sat_Max.f k (([a0, a1] : List Int))).bind fun t333 => (if t322 > 2305843009213693952 then (some false) else (if t322 < (-2305843009213693952) then (some false) else (if t323 > 2305843009213693952 then (some false) else (if t323 < (-2305843009213693952) then (some false) else (if t324 > 2305843009213693952 then (some false) else (if t324 < (-2305843009213693952) then (some false) else (if t328 > 2305843009213693952 then (some false) else (if t328 < (-2305843009213693952) then (some false) else (if t329 > 2305843009213693952 then (some false) else (if t329 < (-2305843009213693952) then (some false) else (if t333 > 2305843009213693952 then (some false) else (if t333 < (-2305843009213693952) then (some false) else (if a1 > a2 then (clepsydralaw01_SatStays.j0 k a0 a1 a2 a1) else (clepsydralaw01_SatStays.j0 k a0 a1 a1 a2))))))))))))))))) = some r := by first | (rw [hy325]; with_reducible exact H) | (have H2_ := (Option.bind_some _ _).symm.trans H; rw [hy325]; with_reducible exact H2_) | (have H2_ := (Option.bind_some _ _).symm.trans H; with_reducible exact H2_) | with_reducible exact H | (rw [hy325]; exact H) | exact H
    have Ny325 := Aside0.mk hy325
    clear hy325
    replace H := Option.bind_eq_some_iff.mp H
    obtain ⟨t328, A90, H⟩ := H
    replace H : ((sat_Abs.f k a0).bind fun t329 => ((sat_Max.f k (([a0, a1] : List Int))).bind fun t333 => (if t322 > 2305843009213693952 then (some false) else (if t322 < (-2305843009213693952) then (some false) else (if t323 > 2305843009213693952 then (some false) else (if t323 < (-2305843009213693952) then (some false) else (if t324 > 2305843009213693952 then (some false) else (if t324 < (-2305843009213693952) then (some false) else (if t328 > 2305843009213693952 then (some false) else (if t328 < (-2305843009213693952) then (some false) else (if t329 > 2305843009213693952 then (some false) else (if t329 < (-2305843009213693952) then (some false) else (if t333 > 2305843009213693952 then (some false) else (if t333 < (-2305843009213693952) then (some false) else (if a1 > a2 then (clepsydralaw01_SatStays.j0 k a0 a1 a2 a1) else (clepsydralaw01_SatStays.j0 k a0 a1 a1 a2)))))))))))))))) = some r := H
    have A9 := Aside0.mk A90
    clear A90
    replace H := Option.bind_eq_some_iff.mp H
    obtain ⟨t329, A100, H⟩ := H
    replace H : ((sat_Max.f k (([a0, a1] : List Int))).bind fun t333 => (if t322 > 2305843009213693952 then (some false) else (if t322 < (-2305843009213693952) then (some false) else (if t323 > 2305843009213693952 then (some false) else (if t323 < (-2305843009213693952) then (some false) else (if t324 > 2305843009213693952 then (some false) else (if t324 < (-2305843009213693952) then (some false) else (if t328 > 2305843009213693952 then (some false) else (if t328 < (-2305843009213693952) then (some false) else (if t329 > 2305843009213693952 then (some false) else (if t329 < (-2305843009213693952) then (some false) else (if t333 > 2305843009213693952 then (some false) else (if t333 < (-2305843009213693952) then (some false) else (if a1 > a2 then (clepsydralaw01_SatStays.j0 k a0 a1 a2 a1) else (clepsydralaw01_SatStays.j0 k a0 a1 a1 a2))))))))))))))) = some r := H
    have A10 := Aside0.mk A100
    clear A100
    obtain ⟨y330, hy330⟩ : ∃ y_ : List Int, y_ = (([a0, a1] : List Int)) := ⟨_, rfl⟩
    replace H : ((sat_Max.f k y330).bind fun t333 => (if t322 > 2305843009213693952 then (some false) else (if t322 < (-2305843009213693952) then (some false) else (if t323 > 2305843009213693952 then (some false) else (if t323 < (-2305843009213693952) then (some false) else (if t324 > 2305843009213693952 then (some false) else (if t324 < (-2305843009213693952) then (some false) else (if t328 > 2305843009213693952 then (some false) else (if t328 < (-2305843009213693952) then (some false) else (if t329 > 2305843009213693952 then (some false) else (if t329 < (-2305843009213693952) then (some false) else (if t333 > 2305843009213693952 then (some false) else (if t333 < (-2305843009213693952) then (some false) else (if a1 > a2 then (clepsydralaw01_SatStays.j0 k a0 a1 a2 a1) else (clepsydralaw01_SatStays.j0 k a0 a1 a1 a2))))))))))))))) = some r := by first | (rw [hy330]; with_reducible exact H) | (have H2_ := (Option.bind_some _ _).symm.trans H; rw [hy330]; with_reducible exact H2_) | (have H2_ := (Option.bind_some _ _).symm.trans H; with_reducible exact H2_) | with_reducible exact H | (rw [hy330]; exact H) | exact H
    have Ny330 := Aside0.mk hy330
    clear hy330
    replace H := Option.bind_eq_some_iff.mp H
    obtain ⟨t333, A110, H⟩ := H
    replace H : (if t322 > 2305843009213693952 then (some false) else (if t322 < (-2305843009213693952) then (some false) else (if t323 > 2305843009213693952 then (some false) else (if t323 < (-2305843009213693952) then (some false) else (if t324 > 2305843009213693952 then (some false) else (if t324 < (-2305843009213693952) then (some false) else (if t328 > 2305843009213693952 then (some false) else (if t328 < (-2305843009213693952) then (some false) else (if t329 > 2305843009213693952 then (some false) else (if t329 < (-2305843009213693952) then (some false) else (if t333 > 2305843009213693952 then (some false) else (if t333 < (-2305843009213693952) then (some false) else (if a1 > a2 then (clepsydralaw01_SatStays.j0 k a0 a1 a2 a1) else (clepsydralaw01_SatStays.j0 k a0 a1 a1 a2)))))))))))))) = some r := H
    have A11 := Aside0.mk A110
    clear A110
    by_cases c12 : t322 > 2305843009213693952
    · rw [if_pos c12] at H
      have c12b0 : decide (2305843009213693952 < t322) = true := decide_eq_true c12
      clear c12
      exact absurd ((Option.some.inj H).trans hT.out) (by decide)
    · rw [if_neg c12] at H
      have c12b0 : decide (2305843009213693952 < t322) = false := decide_eq_false c12
      clear c12
      by_cases c13 : t322 < (-2305843009213693952)
      · rw [if_pos c13] at H
        have c13b0 : decide (t322 < (-2305843009213693952)) = true := decide_eq_true c13
        clear c13
        exact absurd ((Option.some.inj H).trans hT.out) (by decide)
      · rw [if_neg c13] at H
        have c13b0 : decide (t322 < (-2305843009213693952)) = false := decide_eq_false c13
        clear c13
        by_cases c14 : t323 > 2305843009213693952
        · rw [if_pos c14] at H
          have c14b0 : decide (2305843009213693952 < t323) = true := decide_eq_true c14
          clear c14
          exact absurd ((Option.some.inj H).trans hT.out) (by decide)
        · rw [if_neg c14] at H
          have c14b0 : decide (2305843009213693952 < t323) = false := decide_eq_false c14
          clear c14
          by_cases c15 : t323 < (-2305843009213693952)
          · rw [if_pos c15] at H
            have c15b0 : decide (t323 < (-2305843009213693952)) = true := decide_eq_true c15
            clear c15
            exact absurd ((Option.some.inj H).trans hT.out) (by decide)
          · rw [if_neg c15] at H
            have c15b0 : decide (t323 < (-2305843009213693952)) = false := decide_eq_false c15
            clear c15
            by_cases c16 : t324 > 2305843009213693952
            · rw [if_pos c16] at H
              have c16b0 : decide (2305843009213693952 < t324) = true := decide_eq_true c16
              clear c16
              exact absurd ((Option.some.inj H).trans hT.out) (by decide)
            · rw [if_neg c16] at H
              have c16b0 : decide (2305843009213693952 < t324) = false := decide_eq_false c16
              clear c16
              by_cases c17 : t324 < (-2305843009213693952)
              · rw [if_pos c17] at H
                have c17b0 : decide (t324 < (-2305843009213693952)) = true := decide_eq_true c17
                clear c17
                exact absurd ((Option.some.inj H).trans hT.out) (by decide)
              · rw [if_neg c17] at H
                have c17b0 : decide (t324 < (-2305843009213693952)) = false := decide_eq_false c17
                clear c17
                by_cases c18 : t328 > 2305843009213693952
                · rw [if_pos c18] at H
                  have c18b0 : decide (2305843009213693952 < t328) = true := decide_eq_true c18
                  clear c18
                  exact absurd ((Option.some.inj H).trans hT.out) (by decide)
                · rw [if_neg c18] at H
                  have c18b0 : decide (2305843009213693952 < t328) = false := decide_eq_false c18
                  clear c18
                  by_cases c19 : t328 < (-2305843009213693952)
                  · rw [if_pos c19] at H
                    have c19b0 : decide (t328 < (-2305843009213693952)) = true := decide_eq_true c19
                    clear c19
                    exact absurd ((Option.some.inj H).trans hT.out) (by decide)
                  · rw [if_neg c19] at H
                    have c19b0 : decide (t328 < (-2305843009213693952)) = false := decide_eq_false c19
                    clear c19
                    by_cases c20 : t329 > 2305843009213693952
                    · rw [if_pos c20] at H
                      have c20b0 : decide (2305843009213693952 < t329) = true := decide_eq_true c20
                      clear c20
                      exact absurd ((Option.some.inj H).trans hT.out) (by decide)
                    · rw [if_neg c20] at H
                      have c20b0 : decide (2305843009213693952 < t329) = false := decide_eq_false c20
                      clear c20
                      by_cases c21 : t329 < (-2305843009213693952)
                      · rw [if_pos c21] at H
                        have c21b0 : decide (t329 < (-2305843009213693952)) = true := decide_eq_true c21
                        clear c21
                        exact absurd ((Option.some.inj H).trans hT.out) (by decide)
                      · rw [if_neg c21] at H
                        have c21b0 : decide (t329 < (-2305843009213693952)) = false := decide_eq_false c21
                        clear c21
                        by_cases c22 : t333 > 2305843009213693952
                        · rw [if_pos c22] at H
                          have c22b0 : decide (2305843009213693952 < t333) = true := decide_eq_true c22
                          clear c22
                          exact absurd ((Option.some.inj H).trans hT.out) (by decide)
                        · rw [if_neg c22] at H
                          have c22b0 : decide (2305843009213693952 < t333) = false := decide_eq_false c22
                          clear c22
                          by_cases c23 : t333 < (-2305843009213693952)
                          · rw [if_pos c23] at H
                            have c23b0 : decide (t333 < (-2305843009213693952)) = true := decide_eq_true c23
                            clear c23
                            exact absurd ((Option.some.inj H).trans hT.out) (by decide)
                          · rw [if_neg c23] at H
                            have c23b0 : decide (t333 < (-2305843009213693952)) = false := decide_eq_false c23
                            clear c23
                            have HC24 := Aside0.mk H
                            clear H
                            go_enter Try.func14, Try.ntmps14
                            try go_wp2_with (first | ((with_reducible refine gate_dst (N := 11) rfl ?_); (try (refine gate_guard (by rfl) ?_; dsimp only)); refine Kd.R_lit (Kd.int .i64) _ 3 ?hg (N := 11) ?hd (xs := ([3, 4] : List Int)) (inner := [.int .i64 3, .int .i64 4]) (ok := fun _ => True) (okp := fun _ => True) ?hr ?hp (fun _ hk => hk) trivial (Below.refl _ _) (Nat.le_refl _) (by simp) ?_; (case hd => rfl); (case hg => rfl); (case hr => first | (go_simp; done) | (go_simp; rfl)); (case hp => exact (Reps.one (show Kd.M (Kd.int .i64) _ _ _ 3 [.int .i64 3] from rfl) (Reps.one (show Kd.M (Kd.int .i64) _ _ _ 4 [.int .i64 4] from rfl) (Reps.none _ _)))); intro v316 w25 ho26 hb hg_ hnew_; clear hg_ hnew_; (first | rw [← Ny315.out] at ho26 | (simp only [Int.reduceToNat] at ho26; rw [← Ny315.out] at ho26)); have n0_ := Aside0.mk (Kd.R_lower ho26 (below_size (by repeat (first | (with_reducible first | exact HB.out | apply below_alloc | apply pw_below_drewN | apply below_drew1) | exact HB.out)))); have n1_ := Aside0.mk (below_step (by repeat (first | (with_reducible first | exact HB.out | apply below_alloc | apply pw_below_drewN | apply below_drew1) | exact HB.out)) hb); clear HB; have HO317 := n0_; have HB := n1_; clear n0_ n1_; clear hb ho26; obtain ⟨Ao27, co27, eo27⟩ := Kd.R_slice HO317.out; subst eo27) | ((with_reducible refine gate_callee (f := 24) rfl ?_); refine goesL_ (some 12) rfl rfl Try.func24 (by kernel_rfl) rfl #[.slice Ao27 y315.length co27] rfl (by (try simp only [List.map_toArray, List.map_cons, List.map_nil]); first | done | rfl | (simp only [List.length_drop, List.length_take]; rfl)) ?_; (with_reducible refine (sat_Add.calls k _ _ y315 t318 _ ?side1 ?side2 A4.out).mono ?_); (case side1 => repeat (first | exact (Kd.R_reads' HO317.out).2.2 | (with_reducible refine Kd.C_alloc ?_ _) | (with_reducible refine Kd.C_drewN ?_ _) | (with_reducible refine Kd.C_drew ?_))); (case side2 => exact (Kd.R_reads' HO317.out).2.1); rintro e w' ⟨rfl, ⟨nd, rfl⟩⟩; refine ⟨_, rfl, ?_⟩) | ((with_reducible refine gate_dst (N := 16) rfl ?_); (try (refine gate_guard (by rfl) ?_; dsimp only)); refine Kd.R_lit (Kd.int .i64) _ 3 ?hg (N := 16) ?hd (xs := ([a0, a1] : List Int)) (inner := [.int .i64 a0, .int .i64 a1]) (ok := fun _ => True) (okp := fun _ => True) ?hr ?hp (fun _ hk => hk) trivial (Below.refl _ _) (Nat.le_refl _) (by simp) ?_; (case hd => rfl); (case hg => rfl); (case hr => first | (go_simp; done) | (go_simp; rfl)); (case hp => exact (Reps.one (show Kd.M (Kd.int .i64) _ _ _ a0 [.int .i64 a0] from rfl) (Reps.one (show Kd.M (Kd.int .i64) _ _ _ a1 [.int .i64 a1] from rfl) (Reps.none _ _)))); intro v320 w28 ho29 hb hg_ hnew_; clear hg_ hnew_; (first | rw [← Ny319.out] at ho29 | (simp only [Int.reduceToNat] at ho29; rw [← Ny319.out] at ho29)); have n0_ := Aside0.mk (Kd.R_elder' (by (with_reducible repeat (first | apply Kd.R_alloc | apply Kd.R_drewN | apply Kd.R_drew)); exact HO317.out) (Kd.R_base ho29) hb); have n1_ := Aside0.mk (Kd.R_lower (Kd.R_new' ho29 (Kd.R_lt (by (with_reducible repeat (first | apply Kd.R_alloc | apply Kd.R_drewN | apply Kd.R_drew)); exact HO317.out))) (below_size (by repeat (first | (with_reducible first | exact HB.out | apply below_alloc | apply pw_below_drewN | apply below_drew1) | exact HB.out)))); have n2_ := Aside0.mk (below_step (by repeat (first | (with_reducible first | exact HB.out | apply below_alloc | apply pw_below_drewN | apply below_drew1) | exact HB.out)) hb); clear HO317; clear HB; have HO317 := n0_; have HO321 := n1_; have HB := n2_; clear n0_ n1_ n2_; clear hb ho29; obtain ⟨Ao30, co30, eo30⟩ := Kd.R_slice HO321.out; subst eo30) | ((with_reducible refine gate_callee (f := 24) rfl ?_); refine goesL_ (some 17) rfl rfl Try.func24 (by kernel_rfl) rfl #[.slice Ao30 y319.length co30] rfl (by (try simp only [List.map_toArray, List.map_cons, List.map_nil]); first | done | rfl | (simp only [List.length_drop, List.length_take]; rfl)) ?_; (with_reducible refine (sat_Add.calls k _ _ y319 t322 _ ?side1 ?side2 A6.out).mono ?_); (case side1 => repeat (first | exact (Kd.R_reads' HO321.out).2.2 | (with_reducible refine Kd.C_alloc ?_ _) | (with_reducible refine Kd.C_drewN ?_ _) | (with_reducible refine Kd.C_drew ?_))); (case side2 => exact (Kd.R_reads' HO321.out).2.1); rintro e w' ⟨rfl, ⟨nd, rfl⟩⟩; refine ⟨_, rfl, ?_⟩) | ((with_reducible refine gate_callee (f := 26) rfl ?_); refine goesL_ (some 20) rfl rfl Try.func26 (by kernel_rfl) rfl #[.int .i64 a0, .int .i64 a1] rfl (by (try simp only [List.map_toArray, List.map_cons, List.map_nil]); first | done | rfl | (simp only [List.length_drop, List.length_take]; rfl)) ?_; (with_reducible refine (sat_Sub.calls k a0 a1 t323 _ A7.out).mono ?_); rintro e w' ⟨rfl, ⟨nd, rfl⟩⟩; refine ⟨_, rfl, ?_⟩) | ((with_reducible refine gate_callee (f := 34) rfl ?_); refine goesL_ (some 23) rfl rfl Try.func34 (by kernel_rfl) rfl #[.int .i64 a0, .int .i64 a1] rfl (by (try simp only [List.map_toArray, List.map_cons, List.map_nil]); first | done | rfl | (simp only [List.length_drop, List.length_take]; rfl)) ?_; (with_reducible refine (sat_Mul.calls k a0 a1 t324 _ A8.out).mono ?_); rintro e w' ⟨rfl, ⟨nd, rfl⟩⟩; refine ⟨_, rfl, ?_⟩) | ((with_reducible refine gate_dst (N := 27) rfl ?_); (try (refine gate_guard (by rfl) ?_; dsimp only)); refine Kd.R_lit (Kd.int .i64) _ 3 ?hg (N := 27) ?hd (xs := ([a0, a1, a2] : List Int)) (inner := [.int .i64 a0, .int .i64 a1, .int .i64 a2]) (ok := fun _ => True) (okp := fun _ => True) ?hr ?hp (fun _ hk => hk) trivial (Below.refl _ _) (Nat.le_refl _) (by simp) ?_; (case hd => rfl); (case hg => rfl); (case hr => first | (go_simp; done) | (go_simp; rfl)); (case hp => exact (Reps.one (show Kd.M (Kd.int .i64) _ _ _ a0 [.int .i64 a0] from rfl) (Reps.one (show Kd.M (Kd.int .i64) _ _ _ a1 [.int .i64 a1] from rfl) (Reps.one (show Kd.M (Kd.int .i64) _ _ _ a2 [.int .i64 a2] from rfl) (Reps.none _ _))))); intro v326 w31 ho32 hb hg_ hnew_; clear hg_ hnew_; (first | rw [← Ny325.out] at ho32 | (simp only [Int.reduceToNat] at ho32; rw [← Ny325.out] at ho32)); have n0_ := Aside0.mk (Kd.R_elder' (by (with_reducible repeat (first | apply Kd.R_alloc | apply Kd.R_drewN | apply Kd.R_drew)); exact HO317.out) (Kd.R_base ho32) hb); have n1_ := Aside0.mk (Kd.R_elder' (by (with_reducible repeat (first | apply Kd.R_alloc | apply Kd.R_drewN | apply Kd.R_drew)); exact HO321.out) (Kd.R_base ho32) hb); have n2_ := Aside0.mk (Kd.R_lower (Kd.R_new' (Kd.R_new' ho32 (Kd.R_lt (by (with_reducible repeat (first | apply Kd.R_alloc | apply Kd.R_drewN | apply Kd.R_drew)); exact HO317.out))) (Kd.R_lt (by (with_reducible repeat (first | apply Kd.R_alloc | apply Kd.R_drewN | apply Kd.R_drew)); exact HO321.out))) (below_size (by repeat (first | (with_reducible first | exact HB.out | apply below_alloc | apply pw_below_drewN | apply below_drew1) | exact HB.out)))); have n3_ := Aside0.mk (below_step (by repeat (first | (with_reducible first | exact HB.out | apply below_alloc | apply pw_below_drewN | apply below_drew1) | exact HB.out)) hb); clear HO317; clear HO321; clear HB; have HO317 := n0_; have HO321 := n1_; have HO327 := n2_; have HB := n3_; clear n0_ n1_ n2_ n3_; clear hb ho32; obtain ⟨Ao33, co33, eo33⟩ := Kd.R_slice HO327.out; subst eo33) | ((with_reducible refine gate_callee (f := 24) rfl ?_); refine goesL_ (some 28) rfl rfl Try.func24 (by kernel_rfl) rfl #[.slice Ao33 y325.length co33] rfl (by (try simp only [List.map_toArray, List.map_cons, List.map_nil]); first | done | rfl | (simp only [List.length_drop, List.length_take]; rfl)) ?_; (with_reducible refine (sat_Add.calls k _ _ y325 t328 _ ?side1 ?side2 A9.out).mono ?_); (case side1 => repeat (first | exact (Kd.R_reads' HO327.out).2.2 | (with_reducible refine Kd.C_alloc ?_ _) | (with_reducible refine Kd.C_drewN ?_ _) | (with_reducible refine Kd.C_drew ?_))); (case side2 => exact (Kd.R_reads' HO327.out).2.1); rintro e w' ⟨rfl, ⟨nd, rfl⟩⟩; refine ⟨_, rfl, ?_⟩) | ((with_reducible refine gate_callee (f := 22) rfl ?_); refine goesL_ (some 30) rfl rfl Try.func22 (by kernel_rfl) rfl #[.int .i64 a0] rfl (by (try simp only [List.map_toArray, List.map_cons, List.map_nil]); first | done | rfl | (simp only [List.length_drop, List.length_take]; rfl)) ?_; (with_reducible refine (sat_Abs.calls k a0 t329 _ A10.out).mono ?_); rintro e w' ⟨rfl, ⟨nd, rfl⟩⟩; refine ⟨_, rfl, ?_⟩) | ((with_reducible refine gate_dst (N := 33) rfl ?_); (try (refine gate_guard (by rfl) ?_; dsimp only)); refine Kd.R_lit (Kd.int .i64) _ 3 ?hg (N := 33) ?hd (xs := ([a0, a1] : List Int)) (inner := [.int .i64 a0, .int .i64 a1]) (ok := fun _ => True) (okp := fun _ => True) ?hr ?hp (fun _ hk => hk) trivial (Below.refl _ _) (Nat.le_refl _) (by simp) ?_; (case hd => rfl); (case hg => rfl); (case hr => first | (go_simp; done) | (go_simp; rfl)); (case hp => exact (Reps.one (show Kd.M (Kd.int .i64) _ _ _ a0 [.int .i64 a0] from rfl) (Reps.one (show Kd.M (Kd.int .i64) _ _ _ a1 [.int .i64 a1] from rfl) (Reps.none _ _)))); intro v331 w34 ho35 hb hg_ hnew_; clear hg_ hnew_; (first | rw [← Ny330.out] at ho35 | (simp only [Int.reduceToNat] at ho35; rw [← Ny330.out] at ho35)); have n0_ := Aside0.mk (Kd.R_elder' (by (with_reducible repeat (first | apply Kd.R_alloc | apply Kd.R_drewN | apply Kd.R_drew)); exact HO317.out) (Kd.R_base ho35) hb); have n1_ := Aside0.mk (Kd.R_elder' (by (with_reducible repeat (first | apply Kd.R_alloc | apply Kd.R_drewN | apply Kd.R_drew)); exact HO321.out) (Kd.R_base ho35) hb); have n2_ := Aside0.mk (Kd.R_elder' (by (with_reducible repeat (first | apply Kd.R_alloc | apply Kd.R_drewN | apply Kd.R_drew)); exact HO327.out) (Kd.R_base ho35) hb); have n3_ := Aside0.mk (Kd.R_lower (Kd.R_new' (Kd.R_new' (Kd.R_new' ho35 (Kd.R_lt (by (with_reducible repeat (first | apply Kd.R_alloc | apply Kd.R_drewN | apply Kd.R_drew)); exact HO317.out))) (Kd.R_lt (by (with_reducible repeat (first | apply Kd.R_alloc | apply Kd.R_drewN | apply Kd.R_drew)); exact HO321.out))) (Kd.R_lt (by (with_reducible repeat (first | apply Kd.R_alloc | apply Kd.R_drewN | apply Kd.R_drew)); exact HO327.out))) (below_size (by repeat (first | (with_reducible first | exact HB.out | apply below_alloc | apply pw_below_drewN | apply below_drew1) | exact HB.out)))); have n4_ := Aside0.mk (below_step (by repeat (first | (with_reducible first | exact HB.out | apply below_alloc | apply pw_below_drewN | apply below_drew1) | exact HB.out)) hb); clear HO317; clear HO321; clear HO327; clear HB; have HO317 := n0_; have HO321 := n1_; have HO327 := n2_; have HO332 := n3_; have HB := n4_; clear n0_ n1_ n2_ n3_ n4_; clear hb ho35; obtain ⟨Ao36, co36, eo36⟩ := Kd.R_slice HO332.out; subst eo36) | ((with_reducible refine gate_callee (f := 28) rfl ?_); refine goesL_ (some 34) rfl rfl Try.func28 (by kernel_rfl) rfl #[.slice Ao36 y330.length co36] rfl (by (try simp only [List.map_toArray, List.map_cons, List.map_nil]); first | done | rfl | (simp only [List.length_drop, List.length_take]; rfl)) ?_; (with_reducible refine (sat_Max.calls k _ _ y330 t333 _ ?side1 ?side2 A11.out).mono ?_); (case side1 => repeat (first | exact (Kd.R_reads' HO332.out).2.2 | (with_reducible refine Kd.C_alloc ?_ _) | (with_reducible refine Kd.C_drewN ?_ _) | (with_reducible refine Kd.C_drew ?_))); (case side2 => exact (Kd.R_reads' HO332.out).2.1); rintro e w37 ⟨rfl, hb⟩; refine ⟨_, rfl, ?_⟩; have n0_ := Aside0.mk (Kd.R_below (by (with_reducible repeat (first | apply Kd.R_alloc | apply Kd.R_drewN | apply Kd.R_drew)); exact HO317.out) hb); have n1_ := Aside0.mk (Kd.R_below (by (with_reducible repeat (first | apply Kd.R_alloc | apply Kd.R_drewN | apply Kd.R_drew)); exact HO321.out) hb); have n2_ := Aside0.mk (Kd.R_below (by (with_reducible repeat (first | apply Kd.R_alloc | apply Kd.R_drewN | apply Kd.R_drew)); exact HO327.out) hb); have n3_ := Aside0.mk (Kd.R_below (by (with_reducible repeat (first | apply Kd.R_alloc | apply Kd.R_drewN | apply Kd.R_drew)); exact HO332.out) hb); have n4_ := Aside0.mk (below_step (by repeat (first | (with_reducible first | exact HB.out | apply below_alloc | apply pw_below_drewN | apply below_drew1) | exact HB.out)) hb); clear HO317; clear HO321; clear HO327; clear HO332; clear HB; have HO317 := n0_; have HO321 := n1_; have HO327 := n2_; have HO332 := n3_; have HB := n4_; clear n0_ n1_ n2_ n3_ n4_; (try clear hb); (try clear hb2); (try clear hk); (try clear hi)))
                            refine wp_loop_rounds 7 ?_; rw [rounds_succ]
                            try go_wp2
                            rw [rounds_succ]
                            try go_wp2
                            rw [rounds_succ]
                            try go_wp2
                            rw [rounds_succ]
                            try go_wp2
                            rw [rounds_succ]
                            try go_wp2
                            rw [rounds_succ]
                            try go_wp2
                            rw [rounds_succ]
                            go_upto_if 50 with (fail)
                            go_cut [9, 10] (fun v9 v10 wc => ∃ (kq : Nat) (x9_23 : Int) (x10_23 : Int), v9 = .int .i64 x9_23 ∧ v10 = .int .i64 x10_23 ∧ Aside0 (clepsydralaw01_SatStays.j0 kq a0 a1 x9_23 x10_23 = some r) ∧ Aside0 (kq ≤ k) ∧ Aside0 (Below w.heap.size w wc))
                            case first =>
                              have H := HC24.out
                              clear HC24
                              by_cases c38 : a1 > a2
                              · rw [if_pos c38] at H
                                have c38b0 : decide (a2 < a1) = true := decide_eq_true c38
                                clear c38
                                (first | rw [c38b0] | (simp only [i64_w, i32_w]; rw [c38b0]) | skip)
                                have H' := Aside0.mk H
                                clear H
                                go_wp2
                                go_meet
                                case rel => exact ⟨_, (a2), (a1), (by first | rfl | (simp; done) | (simp [*]; done) | (simp [Int.tdiv_eq_ediv_of_nonneg]; done) | (simp [Go.RowKit.wrap64]; done) | (simp [*, Go.RowKit.wrap64]; done)), (by first | rfl | (simp; done) | (simp [*]; done) | (simp [Int.tdiv_eq_ediv_of_nonneg]; done) | (simp [Go.RowKit.wrap64]; done) | (simp [*, Go.RowKit.wrap64]; done)), H', ⟨by first | omega | exact Nat.le_refl _⟩, ⟨by repeat (first | (with_reducible first | exact HB.out | apply below_alloc | apply pw_below_drewN | apply below_drew1) | exact HB.out)⟩⟩
                              · rw [if_neg c38] at H
                                have c38b0 : decide (a2 < a1) = false := decide_eq_false c38
                                clear c38
                                (first | rw [c38b0] | (simp only [i64_w, i32_w]; rw [c38b0]) | skip)
                                have H' := Aside0.mk H
                                clear H
                                go_wp2
                                go_meet
                                case rel => exact ⟨_, (a1), (a2), (by first | rfl | (simp; done) | (simp [*]; done) | (simp [Int.tdiv_eq_ediv_of_nonneg]; done) | (simp [Go.RowKit.wrap64]; done) | (simp [*, Go.RowKit.wrap64]; done)), (by first | rfl | (simp; done) | (simp [*]; done) | (simp [Int.tdiv_eq_ediv_of_nonneg]; done) | (simp [Go.RowKit.wrap64]; done) | (simp [*, Go.RowKit.wrap64]; done)), H', ⟨by first | omega | exact Nat.le_refl _⟩, ⟨by repeat (first | (with_reducible first | exact HB.out | apply below_alloc | apply pw_below_drewN | apply below_drew1) | exact HB.out)⟩⟩
                            case rest =>
                              clear HC24
                              try clear c1
                              try clear c2
                              try clear p2
                              try clear c3
                              try clear c5
                              try clear c5b0
                              try clear c5b1
                              try clear c12
                              try clear c12b0
                              try clear c13
                              try clear c13b0
                              try clear c14
                              try clear c14b0
                              try clear c15
                              try clear c15b0
                              try clear c16
                              try clear c16b0
                              try clear c17
                              try clear c17b0
                              try clear c18
                              try clear c18b0
                              try clear c19
                              try clear c19b0
                              try clear c20
                              try clear c20b0
                              try clear c21
                              try clear c21b0
                              try clear c22
                              try clear c22b0
                              try clear c23
                              try clear c23b0
                              try clear c24
                              try clear c26
                              try clear c28
                              try clear c34
                              try clear c38
                              try clear c38b0
                              obtain ⟨kq, x9_23, x10_23, rfl, rfl, HA, HJ23, HB⟩ := hcut
                              cases kq with
                              | zero => exact absurd HA.out (by simp [clepsydralaw01_SatStays.j0])
                              | succ kj23 =>
                                have H := HA.out
                                clear HA
                                simp only [clepsydralaw01_SatStays.j0] at H
                                obtain ⟨y334, hy334⟩ : ∃ y_ : List Int, y_ = (([a0, a1] : List Int)) := ⟨_, rfl⟩
                                replace H : ((sat_Add.f kj23 y334).bind fun t337 => ((sat_Add.f kj23 (([a1, a0] : List Int))).bind fun t341 => (if t337 = t341 then ((sat_Mul.f kj23 a0 a1).bind fun t342 => ((sat_Mul.f kj23 a1 a0).bind fun t343 => (if t342 = t343 then ((sat_Add.f kj23 (([a0, x9_23] : List Int))).bind fun t347 => ((sat_Add.f kj23 (([a0, x10_23] : List Int))).bind fun t351 => (if t347 ≤ t351 then ((sat_Sub.f kj23 a0 x9_23).bind fun t352 => ((sat_Sub.f kj23 a0 x10_23).bind fun t353 => (some (decide (t352 ≥ t353))))) else (some false)))) else (some false)))) else (some false)))) = some r := by first | (rw [hy334]; with_reducible exact H) | (have H2_ := (Option.bind_some _ _).symm.trans H; rw [hy334]; with_reducible exact H2_) | (have H2_ := (Option.bind_some _ _).symm.trans H; with_reducible exact H2_) | with_reducible exact H | (rw [hy334]; exact H) | exact H
                                have Ny334 := Aside0.mk hy334
                                clear hy334
                                replace H := Option.bind_eq_some_iff.mp H
                                obtain ⟨t337, A390, H⟩ := H
                                replace H : ((sat_Add.f kj23 (([a1, a0] : List Int))).bind fun t341 => (if t337 = t341 then ((sat_Mul.f kj23 a0 a1).bind fun t342 => ((sat_Mul.f kj23 a1 a0).bind fun t343 => (if t342 = t343 then ((sat_Add.f kj23 (([a0, x9_23] : List Int))).bind fun t347 => ((sat_Add.f kj23 (([a0, x10_23] : List Int))).bind fun t351 => (if t347 ≤ t351 then ((sat_Sub.f kj23 a0 x9_23).bind fun t352 => ((sat_Sub.f kj23 a0 x10_23).bind fun t353 => (some (decide (t352 ≥ t353))))) else (some false)))) else (some false)))) else (some false))) = some r := H
                                have A39 := Aside0.mk A390
                                clear A390
                                obtain ⟨y338, hy338⟩ : ∃ y_ : List Int, y_ = (([a1, a0] : List Int)) := ⟨_, rfl⟩
                                replace H : ((sat_Add.f kj23 y338).bind fun t341 => (if t337 = t341 then ((sat_Mul.f kj23 a0 a1).bind fun t342 => ((sat_Mul.f kj23 a1 a0).bind fun t343 => (if t342 = t343 then ((sat_Add.f kj23 (([a0, x9_23] : List Int))).bind fun t347 => ((sat_Add.f kj23 (([a0, x10_23] : List Int))).bind fun t351 => (if t347 ≤ t351 then ((sat_Sub.f kj23 a0 x9_23).bind fun t352 => ((sat_Sub.f kj23 a0 x10_23).bind fun t353 => (some (decide (t352 ≥ t353))))) else (some false)))) else (some false)))) else (some false))) = some r := by first | (rw [hy338]; with_reducible exact H) | (have H2_ := (Option.bind_some _ _).symm.trans H; rw [hy338]; with_reducible exact H2_) | (have H2_ := (Option.bind_some _ _).symm.trans H; with_reducible exact H2_) | with_reducible exact H | (rw [hy338]; exact H) | exact H
                                have Ny338 := Aside0.mk hy338
                                clear hy338
                                replace H := Option.bind_eq_some_iff.mp H
                                obtain ⟨t341, A400, H⟩ := H
                                replace H : (if t337 = t341 then ((sat_Mul.f kj23 a0 a1).bind fun t342 => ((sat_Mul.f kj23 a1 a0).bind fun t343 => (if t342 = t343 then ((sat_Add.f kj23 (([a0, x9_23] : List Int))).bind fun t347 => ((sat_Add.f kj23 (([a0, x10_23] : List Int))).bind fun t351 => (if t347 ≤ t351 then ((sat_Sub.f kj23 a0 x9_23).bind fun t352 => ((sat_Sub.f kj23 a0 x10_23).bind fun t353 => (some (decide (t352 ≥ t353))))) else (some false)))) else (some false)))) else (some false)) = some r := H
                                have A40 := Aside0.mk A400
                                clear A400
                                by_cases c41 : t337 = t341
                                · rw [if_pos c41] at H
                                  have c41b0 : (t337 == t341) = true := beq_iff_eq.mpr c41
                                  have c41b1 : (t337 != t341) = false := bne_eq_false_iff_eq.mpr c41
                                  clear c41
                                  replace H := Option.bind_eq_some_iff.mp H
                                  obtain ⟨t342, A420, H⟩ := H
                                  replace H : ((sat_Mul.f kj23 a1 a0).bind fun t343 => (if t342 = t343 then ((sat_Add.f kj23 (([a0, x9_23] : List Int))).bind fun t347 => ((sat_Add.f kj23 (([a0, x10_23] : List Int))).bind fun t351 => (if t347 ≤ t351 then ((sat_Sub.f kj23 a0 x9_23).bind fun t352 => ((sat_Sub.f kj23 a0 x10_23).bind fun t353 => (some (decide (t352 ≥ t353))))) else (some false)))) else (some false))) = some r := H
                                  have A42 := Aside0.mk A420
                                  clear A420
                                  replace H := Option.bind_eq_some_iff.mp H
                                  obtain ⟨t343, A430, H⟩ := H
                                  replace H : (if t342 = t343 then ((sat_Add.f kj23 (([a0, x9_23] : List Int))).bind fun t347 => ((sat_Add.f kj23 (([a0, x10_23] : List Int))).bind fun t351 => (if t347 ≤ t351 then ((sat_Sub.f kj23 a0 x9_23).bind fun t352 => ((sat_Sub.f kj23 a0 x10_23).bind fun t353 => (some (decide (t352 ≥ t353))))) else (some false)))) else (some false)) = some r := H
                                  have A43 := Aside0.mk A430
                                  clear A430
                                  by_cases c44 : t342 = t343
                                  · rw [if_pos c44] at H
                                    have c44b0 : (t342 == t343) = true := beq_iff_eq.mpr c44
                                    have c44b1 : (t342 != t343) = false := bne_eq_false_iff_eq.mpr c44
                                    clear c44
                                    obtain ⟨y344, hy344⟩ : ∃ y_ : List Int, y_ = (([a0, x9_23] : List Int)) := ⟨_, rfl⟩
                                    replace H : ((sat_Add.f kj23 y344).bind fun t347 => ((sat_Add.f kj23 (([a0, x10_23] : List Int))).bind fun t351 => (if t347 ≤ t351 then ((sat_Sub.f kj23 a0 x9_23).bind fun t352 => ((sat_Sub.f kj23 a0 x10_23).bind fun t353 => (some (decide (t352 ≥ t353))))) else (some false)))) = some r := by first | (rw [hy344]; with_reducible exact H) | (have H2_ := (Option.bind_some _ _).symm.trans H; rw [hy344]; with_reducible exact H2_) | (have H2_ := (Option.bind_some _ _).symm.trans H; with_reducible exact H2_) | with_reducible exact H | (rw [hy344]; exact H) | exact H
                                    have Ny344 := Aside0.mk hy344
                                    clear hy344
                                    replace H := Option.bind_eq_some_iff.mp H
                                    obtain ⟨t347, A450, H⟩ := H
                                    replace H : ((sat_Add.f kj23 (([a0, x10_23] : List Int))).bind fun t351 => (if t347 ≤ t351 then ((sat_Sub.f kj23 a0 x9_23).bind fun t352 => ((sat_Sub.f kj23 a0 x10_23).bind fun t353 => (some (decide (t352 ≥ t353))))) else (some false))) = some r := H
                                    have A45 := Aside0.mk A450
                                    clear A450
                                    obtain ⟨y348, hy348⟩ : ∃ y_ : List Int, y_ = (([a0, x10_23] : List Int)) := ⟨_, rfl⟩
                                    replace H : ((sat_Add.f kj23 y348).bind fun t351 => (if t347 ≤ t351 then ((sat_Sub.f kj23 a0 x9_23).bind fun t352 => ((sat_Sub.f kj23 a0 x10_23).bind fun t353 => (some (decide (t352 ≥ t353))))) else (some false))) = some r := by first | (rw [hy348]; with_reducible exact H) | (have H2_ := (Option.bind_some _ _).symm.trans H; rw [hy348]; with_reducible exact H2_) | (have H2_ := (Option.bind_some _ _).symm.trans H; with_reducible exact H2_) | with_reducible exact H | (rw [hy348]; exact H) | exact H
                                    have Ny348 := Aside0.mk hy348
                                    clear hy348
                                    replace H := Option.bind_eq_some_iff.mp H
                                    obtain ⟨t351, A460, H⟩ := H
                                    replace H : (if t347 ≤ t351 then ((sat_Sub.f kj23 a0 x9_23).bind fun t352 => ((sat_Sub.f kj23 a0 x10_23).bind fun t353 => (some (decide (t352 ≥ t353))))) else (some false)) = some r := H
                                    have A46 := Aside0.mk A460
                                    clear A460
                                    by_cases c47 : t347 ≤ t351
                                    · rw [if_pos c47] at H
                                      have c47b0 : decide (t347 ≤ t351) = true := decide_eq_true c47
                                      clear c47
                                      replace H := Option.bind_eq_some_iff.mp H
                                      obtain ⟨t352, A480, H⟩ := H
                                      replace H : ((sat_Sub.f kj23 a0 x10_23).bind fun t353 => (some (decide (t352 ≥ t353)))) = some r := H
                                      have A48 := Aside0.mk A480
                                      clear A480
                                      replace H := Option.bind_eq_some_iff.mp H
                                      obtain ⟨t353, A490, H⟩ := H
                                      replace H : (some (decide (t352 ≥ t353))) = some r := H
                                      have A49 := Aside0.mk A490
                                      clear A490
                                      obtain rfl := Option.some.inj H
                                      go_wp2_with (first | ((with_reducible refine gate_dst (N := 55) rfl ?_); (try (refine gate_guard (by rfl) ?_; dsimp only)); refine Kd.R_lit (Kd.int .i64) _ 3 ?hg (N := 55) ?hd (xs := ([a0, a1] : List Int)) (inner := [.int .i64 a0, .int .i64 a1]) (ok := fun _ => True) (okp := fun _ => True) ?hr ?hp (fun _ hk => hk) trivial (Below.refl _ _) (Nat.le_refl _) (by simp) ?_; (case hd => rfl); (case hg => rfl); (case hr => first | (go_simp; done) | (go_simp; rfl)); (case hp => exact (Reps.one (show Kd.M (Kd.int .i64) _ _ _ a0 [.int .i64 a0] from rfl) (Reps.one (show Kd.M (Kd.int .i64) _ _ _ a1 [.int .i64 a1] from rfl) (Reps.none _ _)))); intro v335 w50 ho51 hb hg_ hnew_; clear hg_ hnew_; (first | rw [← Ny334.out] at ho51 | (simp only [Int.reduceToNat] at ho51; rw [← Ny334.out] at ho51)); have n0_ := Aside0.mk (Kd.R_lower ho51 (below_size (by repeat (first | (with_reducible first | exact HB.out | apply below_alloc | apply pw_below_drewN | apply below_drew1) | exact HB.out)))); have n1_ := Aside0.mk (below_step (by repeat (first | (with_reducible first | exact HB.out | apply below_alloc | apply pw_below_drewN | apply below_drew1) | exact HB.out)) hb); clear HB; have HO336 := n0_; have HB := n1_; clear n0_ n1_; clear hb ho51; obtain ⟨Ao52, co52, eo52⟩ := Kd.R_slice HO336.out; subst eo52) | ((with_reducible refine gate_callee (f := 24) rfl ?_); refine goesL_ (some 56) rfl rfl Try.func24 (by kernel_rfl) rfl #[.slice Ao52 y334.length co52] rfl (by (try simp only [List.map_toArray, List.map_cons, List.map_nil]); first | done | rfl | (simp only [List.length_drop, List.length_take]; rfl)) ?_; (with_reducible refine (sat_Add.calls kj23 _ _ y334 t337 _ ?side1 ?side2 A39.out).mono ?_); (case side1 => repeat (first | exact (Kd.R_reads' HO336.out).2.2 | (with_reducible refine Kd.C_alloc ?_ _) | (with_reducible refine Kd.C_drewN ?_ _) | (with_reducible refine Kd.C_drew ?_))); (case side2 => exact (Kd.R_reads' HO336.out).2.1); rintro e w' ⟨rfl, ⟨nd, rfl⟩⟩; refine ⟨_, rfl, ?_⟩) | ((with_reducible refine gate_dst (N := 59) rfl ?_); (try (refine gate_guard (by rfl) ?_; dsimp only)); refine Kd.R_lit (Kd.int .i64) _ 3 ?hg (N := 59) ?hd (xs := ([a1, a0] : List Int)) (inner := [.int .i64 a1, .int .i64 a0]) (ok := fun _ => True) (okp := fun _ => True) ?hr ?hp (fun _ hk => hk) trivial (Below.refl _ _) (Nat.le_refl _) (by simp) ?_; (case hd => rfl); (case hg => rfl); (case hr => first | (go_simp; done) | (go_simp; rfl)); (case hp => exact (Reps.one (show Kd.M (Kd.int .i64) _ _ _ a1 [.int .i64 a1] from rfl) (Reps.one (show Kd.M (Kd.int .i64) _ _ _ a0 [.int .i64 a0] from rfl) (Reps.none _ _)))); intro v339 w53 ho54 hb hg_ hnew_; clear hg_ hnew_; (first | rw [← Ny338.out] at ho54 | (simp only [Int.reduceToNat] at ho54; rw [← Ny338.out] at ho54)); have n0_ := Aside0.mk (Kd.R_elder' (by (with_reducible repeat (first | apply Kd.R_alloc | apply Kd.R_drewN | apply Kd.R_drew)); exact HO336.out) (Kd.R_base ho54) hb); have n1_ := Aside0.mk (Kd.R_lower (Kd.R_new' ho54 (Kd.R_lt (by (with_reducible repeat (first | apply Kd.R_alloc | apply Kd.R_drewN | apply Kd.R_drew)); exact HO336.out))) (below_size (by repeat (first | (with_reducible first | exact HB.out | apply below_alloc | apply pw_below_drewN | apply below_drew1) | exact HB.out)))); have n2_ := Aside0.mk (below_step (by repeat (first | (with_reducible first | exact HB.out | apply below_alloc | apply pw_below_drewN | apply below_drew1) | exact HB.out)) hb); clear HO336; clear HB; have HO336 := n0_; have HO340 := n1_; have HB := n2_; clear n0_ n1_ n2_; clear hb ho54; obtain ⟨Ao55, co55, eo55⟩ := Kd.R_slice HO340.out; subst eo55) | ((with_reducible refine gate_callee (f := 24) rfl ?_); refine goesL_ (some 60) rfl rfl Try.func24 (by kernel_rfl) rfl #[.slice Ao55 y338.length co55] rfl (by (try simp only [List.map_toArray, List.map_cons, List.map_nil]); first | done | rfl | (simp only [List.length_drop, List.length_take]; rfl)) ?_; (with_reducible refine (sat_Add.calls kj23 _ _ y338 t341 _ ?side1 ?side2 A40.out).mono ?_); (case side1 => repeat (first | exact (Kd.R_reads' HO340.out).2.2 | (with_reducible refine Kd.C_alloc ?_ _) | (with_reducible refine Kd.C_drewN ?_ _) | (with_reducible refine Kd.C_drew ?_))); (case side2 => exact (Kd.R_reads' HO340.out).2.1); rintro e w' ⟨rfl, ⟨nd, rfl⟩⟩; refine ⟨_, rfl, ?_⟩) | (go_at_call 34; (with_reducible refine (sat_Mul.calls kj23 a0 a1 t342 _ A42.out).mono ?_); rintro e w' ⟨rfl, ⟨nd, rfl⟩⟩) | (go_at_call 34; (with_reducible refine (sat_Mul.calls kj23 a1 a0 t343 _ A43.out).mono ?_); rintro e w' ⟨rfl, ⟨nd, rfl⟩⟩) | ((with_reducible refine gate_dst (N := 74) rfl ?_); (try (refine gate_guard (by rfl) ?_; dsimp only)); refine Kd.R_lit (Kd.int .i64) _ 3 ?hg (N := 74) ?hd (xs := ([a0, x9_23] : List Int)) (inner := [.int .i64 a0, .int .i64 x9_23]) (ok := fun _ => True) (okp := fun _ => True) ?hr ?hp (fun _ hk => hk) trivial (Below.refl _ _) (Nat.le_refl _) (by simp) ?_; (case hd => rfl); (case hg => rfl); (case hr => first | (go_simp; done) | (go_simp; rfl)); (case hp => exact (Reps.one (show Kd.M (Kd.int .i64) _ _ _ a0 [.int .i64 a0] from rfl) (Reps.one (show Kd.M (Kd.int .i64) _ _ _ x9_23 [.int .i64 x9_23] from rfl) (Reps.none _ _)))); intro v345 w56 ho57 hb hg_ hnew_; clear hg_ hnew_; (first | rw [← Ny344.out] at ho57 | (simp only [Int.reduceToNat] at ho57; rw [← Ny344.out] at ho57)); have n0_ := Aside0.mk (Kd.R_elder' (by (with_reducible repeat (first | apply Kd.R_alloc | apply Kd.R_drewN | apply Kd.R_drew)); exact HO336.out) (Kd.R_base ho57) hb); have n1_ := Aside0.mk (Kd.R_elder' (by (with_reducible repeat (first | apply Kd.R_alloc | apply Kd.R_drewN | apply Kd.R_drew)); exact HO340.out) (Kd.R_base ho57) hb); have n2_ := Aside0.mk (Kd.R_lower (Kd.R_new' (Kd.R_new' ho57 (Kd.R_lt (by (with_reducible repeat (first | apply Kd.R_alloc | apply Kd.R_drewN | apply Kd.R_drew)); exact HO336.out))) (Kd.R_lt (by (with_reducible repeat (first | apply Kd.R_alloc | apply Kd.R_drewN | apply Kd.R_drew)); exact HO340.out))) (below_size (by repeat (first | (with_reducible first | exact HB.out | apply below_alloc | apply pw_below_drewN | apply below_drew1) | exact HB.out)))); have n3_ := Aside0.mk (below_step (by repeat (first | (with_reducible first | exact HB.out | apply below_alloc | apply pw_below_drewN | apply below_drew1) | exact HB.out)) hb); clear HO336; clear HO340; clear HB; have HO336 := n0_; have HO340 := n1_; have HO346 := n2_; have HB := n3_; clear n0_ n1_ n2_ n3_; clear hb ho57; obtain ⟨Ao58, co58, eo58⟩ := Kd.R_slice HO346.out; subst eo58) | (go_at_call 24; (with_reducible refine (sat_Add.calls kj23 _ _ y344 t347 _ ?side1 ?side2 A45.out).mono ?_); (case side1 => repeat (first | exact (Kd.R_reads' HO346.out).2.2 | (with_reducible refine Kd.C_alloc ?_ _) | (with_reducible refine Kd.C_drewN ?_ _) | (with_reducible refine Kd.C_drew ?_))); (case side2 => exact (Kd.R_reads' HO346.out).2.1); rintro e w' ⟨rfl, ⟨nd, rfl⟩⟩) | ((with_reducible refine gate_dst (N := 78) rfl ?_); (try (refine gate_guard (by rfl) ?_; dsimp only)); refine Kd.R_lit (Kd.int .i64) _ 3 ?hg (N := 78) ?hd (xs := ([a0, x10_23] : List Int)) (inner := [.int .i64 a0, .int .i64 x10_23]) (ok := fun _ => True) (okp := fun _ => True) ?hr ?hp (fun _ hk => hk) trivial (Below.refl _ _) (Nat.le_refl _) (by simp) ?_; (case hd => rfl); (case hg => rfl); (case hr => first | (go_simp; done) | (go_simp; rfl)); (case hp => exact (Reps.one (show Kd.M (Kd.int .i64) _ _ _ a0 [.int .i64 a0] from rfl) (Reps.one (show Kd.M (Kd.int .i64) _ _ _ x10_23 [.int .i64 x10_23] from rfl) (Reps.none _ _)))); intro v349 w59 ho60 hb hg_ hnew_; clear hg_ hnew_; (first | rw [← Ny348.out] at ho60 | (simp only [Int.reduceToNat] at ho60; rw [← Ny348.out] at ho60)); have n0_ := Aside0.mk (Kd.R_elder' (by (with_reducible repeat (first | apply Kd.R_alloc | apply Kd.R_drewN | apply Kd.R_drew)); exact HO336.out) (Kd.R_base ho60) hb); have n1_ := Aside0.mk (Kd.R_elder' (by (with_reducible repeat (first | apply Kd.R_alloc | apply Kd.R_drewN | apply Kd.R_drew)); exact HO340.out) (Kd.R_base ho60) hb); have n2_ := Aside0.mk (Kd.R_elder' (by (with_reducible repeat (first | apply Kd.R_alloc | apply Kd.R_drewN | apply Kd.R_drew)); exact HO346.out) (Kd.R_base ho60) hb); have n3_ := Aside0.mk (Kd.R_lower (Kd.R_new' (Kd.R_new' (Kd.R_new' ho60 (Kd.R_lt (by (with_reducible repeat (first | apply Kd.R_alloc | apply Kd.R_drewN | apply Kd.R_drew)); exact HO336.out))) (Kd.R_lt (by (with_reducible repeat (first | apply Kd.R_alloc | apply Kd.R_drewN | apply Kd.R_drew)); exact HO340.out))) (Kd.R_lt (by (with_reducible repeat (first | apply Kd.R_alloc | apply Kd.R_drewN | apply Kd.R_drew)); exact HO346.out))) (below_size (by repeat (first | (with_reducible first | exact HB.out | apply below_alloc | apply pw_below_drewN | apply below_drew1) | exact HB.out)))); have n4_ := Aside0.mk (below_step (by repeat (first | (with_reducible first | exact HB.out | apply below_alloc | apply pw_below_drewN | apply below_drew1) | exact HB.out)) hb); clear HO336; clear HO340; clear HO346; clear HB; have HO336 := n0_; have HO340 := n1_; have HO346 := n2_; have HO350 := n3_; have HB := n4_; clear n0_ n1_ n2_ n3_ n4_; clear hb ho60; obtain ⟨Ao61, co61, eo61⟩ := Kd.R_slice HO350.out; subst eo61) | (go_at_call 24; (with_reducible refine (sat_Add.calls kj23 _ _ y348 t351 _ ?side1 ?side2 A46.out).mono ?_); (case side1 => repeat (first | exact (Kd.R_reads' HO350.out).2.2 | (with_reducible refine Kd.C_alloc ?_ _) | (with_reducible refine Kd.C_drewN ?_ _) | (with_reducible refine Kd.C_drew ?_))); (case side2 => exact (Kd.R_reads' HO350.out).2.1); rintro e w' ⟨rfl, ⟨nd, rfl⟩⟩) | (go_at_call 26; (with_reducible refine (sat_Sub.calls kj23 a0 x9_23 t352 _ A48.out).mono ?_); rintro e w' ⟨rfl, ⟨nd, rfl⟩⟩) | (go_at_call 26; (with_reducible refine (sat_Sub.calls kj23 a0 x10_23 t353 _ A49.out).mono ?_); rintro e w' ⟨rfl, ⟨nd, rfl⟩⟩))
                                      go_ret
                                      exact ⟨by first | rfl | (simp [errW_none, errW_some] <;> rfl) | (simp [*, errW_none, errW_some] <;> rfl), by repeat (first | (with_reducible first | exact HB.out | apply below_alloc | apply pw_below_drewN | apply below_drew1) | exact HB.out)⟩
                                    · rw [if_neg c47] at H
                                      have c47b0 : decide (t347 ≤ t351) = false := decide_eq_false c47
                                      clear c47
                                      exact absurd ((Option.some.inj H).trans hT.out) (by decide)
                                  · rw [if_neg c44] at H
                                    have c44b0 : (t342 == t343) = false := beq_eq_false_iff_ne.mpr c44
                                    have c44b1 : (t342 != t343) = true := bne_iff_ne.mpr c44
                                    exact absurd ((Option.some.inj H).trans hT.out) (by decide)
                                · rw [if_neg c41] at H
                                  have c41b0 : (t337 == t341) = false := beq_eq_false_iff_ne.mpr c41
                                  have c41b1 : (t337 != t341) = true := bne_iff_ne.mpr c41
                                  exact absurd ((Option.some.inj H).trans hT.out) (by decide)
  · rw [if_neg c5] at H
    have c5b0 : (t318 == 7) = false := beq_eq_false_iff_ne.mpr c5
    have c5b1 : (t318 != 7) = true := bne_iff_ne.mpr c5
    exact absurd ((Option.some.inj H).trans hT.out) (by decide)

end Go.Proofs.Ytopaldkmgaflmaa.Q
