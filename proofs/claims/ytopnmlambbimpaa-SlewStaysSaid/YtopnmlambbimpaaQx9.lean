/- The calls of these Go functions answer what the Lean functions beside them answer; written by a program (wip/pr2.py, out of the print of the loaded program); under no condition but those that stand in the theorems. -/
import Derived.Test.YtopnmlambbimpaaQx0
import Derived.Test.YtopnmlambbimpaaQx3
import Derived.Test.YtopnmlambbimpaaQx7
namespace Go.Proofs.Ytopnmlambbimpaa.Q
open Go.RowKit Go.Proofs.YtopnmlambbimpaaW.PrintWords Go.Proofs.YtopnmlambbimpaaW.PrintLast Go.Proofs.YtopnmlambbimpaaW.PrintMore
attribute [local go_sem] max2_int min2_int max_two min_two max_three min_three max_four min_four   -- for this text's walks alone
set_option linter.unusedVariables false
set_option linter.unusedSimpArgs false

/-! ### clepsydralaw12_SlewStays: function 5 -/
def clepsydralaw12_SlewStays.j0 : Nat → Int → Int → Int → Int → Int → Bool → Int → Int → Int → Int → Int → Int → Int → Int → Int → Int → Int → Int → Option (Bool)
  | 0, _, _, _, _, _, _, _, _, _, _, _, _, _, _, _, _, _, _ => none
  | k + 1, x1, x2, x3, x4, x5, x71, x184000, x184001, x184002, x184003, x184004, x184005, x184006, x184007, x184008, x184009, x184010, x184011 => if x71 = true then (some true) else ((slew_Clock_Step.f k (wrap64 (x1 + x3)) true x184000 x184001 x184002 x184003 x184004 x184005 x184006 x184007 x184008 x184009 x184010 x184011 (wrap64 (x184003 + x4)) (wrap64 ((wrap64 (x1 + x184003)) + x5)) false).bind fun bt187 => ((slew_Clock_Off.f k bt187.1 bt187.2 (wrap64 (x1 + x184003))).bind fun t190 => (if t190 ≤ x2 then (some bt187.2) else (some false))))
def clepsydralaw12_SlewStays.f (k : Nat) (a0_0 : Int) (a0_1 : Int) (a0_2 : Int) (a0_3 : Int) (a0_4 : Int) (a0_5 : Int) (a0_6 : Int) (a0_7 : Int) (a0_8 : Int) (a0_9 : Int) (a0_10 : Int) (a0_11 : Int) (a1 : Int) (a2 : Int) (a3 : Int) (a4 : Int) (a5 : Int) : Option (Bool) := (clepsydralaw12_alive.f k).bind fun t184 => (if t184 = true then ((limit_Check.f k a0_0 a0_1 a0_2 a0_3 a0_4 a0_5 a0_6 a0_7 a0_8 a0_9 a0_10 a0_11).bind fun t185 => (if t185 = 0 then (if a2 < 0 then (clepsydralaw12_SlewStays.j0 k a1 a2 a3 a4 a5 true a0_0 a0_1 a0_2 a0_3 a0_4 a0_5 a0_6 a0_7 a0_8 a0_9 a0_10 a0_11) else (if a2 > 72057594037927936 then (clepsydralaw12_SlewStays.j0 k a1 a2 a3 a4 a5 true a0_0 a0_1 a0_2 a0_3 a0_4 a0_5 a0_6 a0_7 a0_8 a0_9 a0_10 a0_11) else (if a1 > 72057594037927936 then (clepsydralaw12_SlewStays.j0 k a1 a2 a3 a4 a5 true a0_0 a0_1 a0_2 a0_3 a0_4 a0_5 a0_6 a0_7 a0_8 a0_9 a0_10 a0_11) else (if a1 < (-72057594037927936) then (clepsydralaw12_SlewStays.j0 k a1 a2 a3 a4 a5 true a0_0 a0_1 a0_2 a0_3 a0_4 a0_5 a0_6 a0_7 a0_8 a0_9 a0_10 a0_11) else (if a3 > a2 then (clepsydralaw12_SlewStays.j0 k a1 a2 a3 a4 a5 true a0_0 a0_1 a0_2 a0_3 a0_4 a0_5 a0_6 a0_7 a0_8 a0_9 a0_10 a0_11) else (if a3 < (wrap64 (-a2)) then (clepsydralaw12_SlewStays.j0 k a1 a2 a3 a4 a5 true a0_0 a0_1 a0_2 a0_3 a0_4 a0_5 a0_6 a0_7 a0_8 a0_9 a0_10 a0_11) else (if a4 > a0_4 then (clepsydralaw12_SlewStays.j0 k a1 a2 a3 a4 a5 true a0_0 a0_1 a0_2 a0_3 a0_4 a0_5 a0_6 a0_7 a0_8 a0_9 a0_10 a0_11) else (if a4 < (wrap64 (-a0_4)) then (clepsydralaw12_SlewStays.j0 k a1 a2 a3 a4 a5 true a0_0 a0_1 a0_2 a0_3 a0_4 a0_5 a0_6 a0_7 a0_8 a0_9 a0_10 a0_11) else (if a5 > a2 then (clepsydralaw12_SlewStays.j0 k a1 a2 a3 a4 a5 true a0_0 a0_1 a0_2 a0_3 a0_4 a0_5 a0_6 a0_7 a0_8 a0_9 a0_10 a0_11) else (clepsydralaw12_SlewStays.j0 k a1 a2 a3 a4 a5 (decide (a5 < (wrap64 (-a2)))) a0_0 a0_1 a0_2 a0_3 a0_4 a0_5 a0_6 a0_7 a0_8 a0_9 a0_10 a0_11)))))))))) else (clepsydralaw12_SlewStays.j0 k a1 a2 a3 a4 a5 true a0_0 a0_1 a0_2 a0_3 a0_4 a0_5 a0_6 a0_7 a0_8 a0_9 a0_10 a0_11))) else (some false))
theorem clepsydralaw12_SlewStays.mono_l : ∀ k, (∀ y0 y1 y2 y3 y4 y5 y6 y7 y8 y9 y10 y11 y12 y13 y14 y15 y16 y17, LeO (clepsydralaw12_SlewStays.j0 k y0 y1 y2 y3 y4 y5 y6 y7 y8 y9 y10 y11 y12 y13 y14 y15 y16 y17) (clepsydralaw12_SlewStays.j0 (k + 1) y0 y1 y2 y3 y4 y5 y6 y7 y8 y9 y10 y11 y12 y13 y14 y15 y16 y17))
  | 0 => fun _ _ _ _ _ _ _ _ _ _ _ _ _ _ _ _ _ _ r h => by simp [clepsydralaw12_SlewStays.j0] at h
  | k + 1 => by
    have ih0 := clepsydralaw12_SlewStays.mono_l k
    · intro y0 y1 y2 y3 y4 y5 y6 y7 y8 y9 y10 y11 y12 y13 y14 y15 y16 y17
      unfold clepsydralaw12_SlewStays.j0
      repeat' first
      | (with_reducible exact ih0 _ _ _ _ _ _ _ _ _ _ _ _ _ _ _ _ _ _)
      | (with_reducible exact clepsydralaw12_alive.mono _)
      | (with_reducible exact limit_Check.mono _ _ _ _ _ _ _ _ _ _ _ _ _)
      | (with_reducible exact slew_Clock_Off.mono _ _ _ _)
      | (with_reducible exact slew_Clock_Step.mono _ _ _ _ _ _ _ _ _ _ _ _ _ _ _ _ _ _)
      | (with_reducible exact LeO.refl _)
      | (with_reducible exact LeO.none _)
      | (with_reducible refine LeO.ite ?_ ?_)
      | (with_reducible refine LeO.bind ?_ (fun _ => ?_))
      | exact ih0 _ _ _ _ _ _ _ _ _ _ _ _ _ _ _ _ _ _
      | exact clepsydralaw12_alive.mono _
      | exact limit_Check.mono _ _ _ _ _ _ _ _ _ _ _ _ _
      | exact slew_Clock_Off.mono _ _ _ _
      | exact slew_Clock_Step.mono _ _ _ _ _ _ _ _ _ _ _ _ _ _ _ _ _ _
      | exact LeO.none _
      | refine LeO.ite ?_ ?_
      | refine LeO.bind ?_ (fun _ => ?_)
theorem clepsydralaw12_SlewStays.mono : ∀ a0 a1 a2 a3 a4 a5 a6 a7 a8 a9 a10 a11 a12 a13 a14 a15 a16 k, LeO (clepsydralaw12_SlewStays.f k a0 a1 a2 a3 a4 a5 a6 a7 a8 a9 a10 a11 a12 a13 a14 a15 a16) (clepsydralaw12_SlewStays.f (k + 1) a0 a1 a2 a3 a4 a5 a6 a7 a8 a9 a10 a11 a12 a13 a14 a15 a16) := by
  intro a0 a1 a2 a3 a4 a5 a6 a7 a8 a9 a10 a11 a12 a13 a14 a15 a16 k
  have ih0 := clepsydralaw12_SlewStays.mono_l k
  unfold clepsydralaw12_SlewStays.f
  repeat' first
      | (with_reducible exact ih0 _ _ _ _ _ _ _ _ _ _ _ _ _ _ _ _ _ _)
      | (with_reducible exact clepsydralaw12_alive.mono _)
      | (with_reducible exact limit_Check.mono _ _ _ _ _ _ _ _ _ _ _ _ _)
      | (with_reducible exact slew_Clock_Off.mono _ _ _ _)
      | (with_reducible exact slew_Clock_Step.mono _ _ _ _ _ _ _ _ _ _ _ _ _ _ _ _ _ _)
      | (with_reducible exact LeO.refl _)
      | (with_reducible exact LeO.none _)
      | (with_reducible refine LeO.ite ?_ ?_)
      | (with_reducible refine LeO.bind ?_ (fun _ => ?_))
      | exact ih0 _ _ _ _ _ _ _ _ _ _ _ _ _ _ _ _ _ _
      | exact clepsydralaw12_alive.mono _
      | exact limit_Check.mono _ _ _ _ _ _ _ _ _ _ _ _ _
      | exact slew_Clock_Off.mono _ _ _ _
      | exact slew_Clock_Step.mono _ _ _ _ _ _ _ _ _ _ _ _ _ _ _ _ _ _
      | exact LeO.none _
      | refine LeO.ite ?_ ?_
      | refine LeO.bind ?_ (fun _ => ?_)
set_option maxHeartbeats 8000000 in
set_option maxRecDepth 100000 in
theorem clepsydralaw12_SlewStays.calls (k : Nat) (a0_0 : Int) (a0_1 : Int) (a0_2 : Int) (a0_3 : Int) (a0_4 : Int) (a0_5 : Int) (a0_6 : Int) (a0_7 : Int) (a0_8 : Int) (a0_9 : Int) (a0_10 : Int) (a0_11 : Int) (a1 : Int) (a2 : Int) (a3 : Int) (a4 : Int) (a5 : Int) (r : Bool) (w : World) (hT : Aside0 (r = true)) (h : clepsydralaw12_SlewStays.f k a0_0 a0_1 a0_2 a0_3 a0_4 a0_5 a0_6 a0_7 a0_8 a0_9 a0_10 a0_11 a1 a2 a3 a4 a5 = some r) :
    Calls Try.prog 5 #[.agg #[.int .i64 a0_0, .int .i64 a0_1, .int .i64 a0_2, .int .i64 a0_3, .int .i64 a0_4, .int .i64 a0_5, .int .i64 a0_6, .int .i64 a0_7, .int .i64 a0_8, .int .i64 a0_9, .int .i64 a0_10, .int .i64 a0_11], .int .i64 a1, .int .i64 a2, .int .i64 a3, .int .i64 a4, .int .i64 a5] w fun e w' => e = .returned (.bool r) ∧ Below w.heap.size w w' := by
  have hu23 := Try.underlying23
  have hu25 := Try.underlying25
  have HB := Aside0.mk (Below.refl w.heap.size w)
  have H : ((clepsydralaw12_alive.f k).bind fun t184 => (if t184 = true then ((limit_Check.f k a0_0 a0_1 a0_2 a0_3 a0_4 a0_5 a0_6 a0_7 a0_8 a0_9 a0_10 a0_11).bind fun t185 => (if t185 = 0 then (if a2 < 0 then (clepsydralaw12_SlewStays.j0 k a1 a2 a3 a4 a5 true a0_0 a0_1 a0_2 a0_3 a0_4 a0_5 a0_6 a0_7 a0_8 a0_9 a0_10 a0_11) else (if a2 > 72057594037927936 then (clepsydralaw12_SlewStays.j0 k a1 a2 a3 a4 a5 true a0_0 a0_1 a0_2 a0_3 a0_4 a0_5 a0_6 a0_7 a0_8 a0_9 a0_10 a0_11) else (if a1 > 72057594037927936 then (clepsydralaw12_SlewStays.j0 k a1 a2 a3 a4 a5 true a0_0 a0_1 a0_2 a0_3 a0_4 a0_5 a0_6 a0_7 a0_8 a0_9 a0_10 a0_11) else (if a1 < (-72057594037927936) then (clepsydralaw12_SlewStays.j0 k a1 a2 a3 a4 a5 true a0_0 a0_1 a0_2 a0_3 a0_4 a0_5 a0_6 a0_7 a0_8 a0_9 a0_10 a0_11) else (if a3 > a2 then (clepsydralaw12_SlewStays.j0 k a1 a2 a3 a4 a5 true a0_0 a0_1 a0_2 a0_3 a0_4 a0_5 a0_6 a0_7 a0_8 a0_9 a0_10 a0_11) else (if a3 < (wrap64 (-a2)) then (clepsydralaw12_SlewStays.j0 k a1 a2 a3 a4 a5 true a0_0 a0_1 a0_2 a0_3 a0_4 a0_5 a0_6 a0_7 a0_8 a0_9 a0_10 a0_11) else (if a4 > a0_4 then (clepsydralaw12_SlewStays.j0 k a1 a2 a3 a4 a5 true a0_0 a0_1 a0_2 a0_3 a0_4 a0_5 a0_6 a0_7 a0_8 a0_9 a0_10 a0_11) else (if a4 < (wrap64 (-a0_4)) then (clepsydralaw12_SlewStays.j0 k a1 a2 a3 a4 a5 true a0_0 a0_1 a0_2 a0_3 a0_4 a0_5 a0_6 a0_7 a0_8 a0_9 a0_10 a0_11) else (if a5 > a2 then (clepsydralaw12_SlewStays.j0 k a1 a2 a3 a4 a5 true a0_0 a0_1 a0_2 a0_3 a0_4 a0_5 a0_6 a0_7 a0_8 a0_9 a0_10 a0_11) else (clepsydralaw12_SlewStays.j0 k a1 a2 a3 a4 a5 (decide (a5 < (wrap64 (-a2)))) a0_0 a0_1 a0_2 a0_3 a0_4 a0_5 a0_6 a0_7 a0_8 a0_9 a0_10 a0_11)))))))))) else (clepsydralaw12_SlewStays.j0 k a1 a2 a3 a4 a5 true a0_0 a0_1 a0_2 a0_3 a0_4 a0_5 a0_6 a0_7 a0_8 a0_9 a0_10 a0_11))) else (some false))) = some r := h
  clear h
  replace H := Option.bind_eq_some_iff.mp H
  obtain ⟨t184, A70, H⟩ := H
  replace H : (if t184 = true then ((limit_Check.f k a0_0 a0_1 a0_2 a0_3 a0_4 a0_5 a0_6 a0_7 a0_8 a0_9 a0_10 a0_11).bind fun t185 => (if t185 = 0 then (if a2 < 0 then (clepsydralaw12_SlewStays.j0 k a1 a2 a3 a4 a5 true a0_0 a0_1 a0_2 a0_3 a0_4 a0_5 a0_6 a0_7 a0_8 a0_9 a0_10 a0_11) else (if a2 > 72057594037927936 then (clepsydralaw12_SlewStays.j0 k a1 a2 a3 a4 a5 true a0_0 a0_1 a0_2 a0_3 a0_4 a0_5 a0_6 a0_7 a0_8 a0_9 a0_10 a0_11) else (if a1 > 72057594037927936 then (clepsydralaw12_SlewStays.j0 k a1 a2 a3 a4 a5 true a0_0 a0_1 a0_2 a0_3 a0_4 a0_5 a0_6 a0_7 a0_8 a0_9 a0_10 a0_11) else (if a1 < (-72057594037927936) then (clepsydralaw12_SlewStays.j0 k a1 a2 a3 a4 a5 true a0_0 a0_1 a0_2 a0_3 a0_4 a0_5 a0_6 a0_7 a0_8 a0_9 a0_10 a0_11) else (if a3 > a2 then (clepsydralaw12_SlewStays.j0 k a1 a2 a3 a4 a5 true a0_0 a0_1 a0_2 a0_3 a0_4 a0_5 a0_6 a0_7 a0_8 a0_9 a0_10 a0_11) else (if a3 < (wrap64 (-a2)) then (clepsydralaw12_SlewStays.j0 k a1 a2 a3 a4 a5 true a0_0 a0_1 a0_2 a0_3 a0_4 a0_5 a0_6 a0_7 a0_8 a0_9 a0_10 a0_11) else (if a4 > a0_4 then (clepsydralaw12_SlewStays.j0 k a1 a2 a3 a4 a5 true a0_0 a0_1 a0_2 a0_3 a0_4 a0_5 a0_6 a0_7 a0_8 a0_9 a0_10 a0_11) else (if a4 < (wrap64 (-a0_4)) then (clepsydralaw12_SlewStays.j0 k a1 a2 a3 a4 a5 true a0_0 a0_1 a0_2 a0_3 a0_4 a0_5 a0_6 a0_7 a0_8 a0_9 a0_10 a0_11) else (if a5 > a2 then (clepsydralaw12_SlewStays.j0 k a1 a2 a3 a4 a5 true a0_0 a0_1 a0_2 a0_3 a0_4 a0_5 a0_6 a0_7 a0_8 a0_9 a0_10 a0_11) else (clepsydralaw12_SlewStays.j0 k a1 a2 a3 a4 a5 (decide (a5 < (wrap64 (-a2)))) a0_0 a0_1 a0_2 a0_3 a0_4 a0_5 a0_6 a0_7 a0_8 a0_9 a0_10 a0_11)))))))))) else (clepsydralaw12_SlewStays.j0 k a1 a2 a3 a4 a5 true a0_0 a0_1 a0_2 a0_3 a0_4 a0_5 a0_6 a0_7 a0_8 a0_9 a0_10 a0_11))) else (some false)) = some r := H
  have A7 := Aside0.mk A70
  clear A70
  by_cases c8 : t184 = true
  · subst c8
    have H1 : ((limit_Check.f k a0_0 a0_1 a0_2 a0_3 a0_4 a0_5 a0_6 a0_7 a0_8 a0_9 a0_10 a0_11).bind fun t185 => (if t185 = 0 then (if a2 < 0 then (clepsydralaw12_SlewStays.j0 k a1 a2 a3 a4 a5 true a0_0 a0_1 a0_2 a0_3 a0_4 a0_5 a0_6 a0_7 a0_8 a0_9 a0_10 a0_11) else (if a2 > 72057594037927936 then (clepsydralaw12_SlewStays.j0 k a1 a2 a3 a4 a5 true a0_0 a0_1 a0_2 a0_3 a0_4 a0_5 a0_6 a0_7 a0_8 a0_9 a0_10 a0_11) else (if a1 > 72057594037927936 then (clepsydralaw12_SlewStays.j0 k a1 a2 a3 a4 a5 true a0_0 a0_1 a0_2 a0_3 a0_4 a0_5 a0_6 a0_7 a0_8 a0_9 a0_10 a0_11) else (if a1 < (-72057594037927936) then (clepsydralaw12_SlewStays.j0 k a1 a2 a3 a4 a5 true a0_0 a0_1 a0_2 a0_3 a0_4 a0_5 a0_6 a0_7 a0_8 a0_9 a0_10 a0_11) else (if a3 > a2 then (clepsydralaw12_SlewStays.j0 k a1 a2 a3 a4 a5 true a0_0 a0_1 a0_2 a0_3 a0_4 a0_5 a0_6 a0_7 a0_8 a0_9 a0_10 a0_11) else (if a3 < (wrap64 (-a2)) then (clepsydralaw12_SlewStays.j0 k a1 a2 a3 a4 a5 true a0_0 a0_1 a0_2 a0_3 a0_4 a0_5 a0_6 a0_7 a0_8 a0_9 a0_10 a0_11) else (if a4 > a0_4 then (clepsydralaw12_SlewStays.j0 k a1 a2 a3 a4 a5 true a0_0 a0_1 a0_2 a0_3 a0_4 a0_5 a0_6 a0_7 a0_8 a0_9 a0_10 a0_11) else (if a4 < (wrap64 (-a0_4)) then (clepsydralaw12_SlewStays.j0 k a1 a2 a3 a4 a5 true a0_0 a0_1 a0_2 a0_3 a0_4 a0_5 a0_6 a0_7 a0_8 a0_9 a0_10 a0_11) else (if a5 > a2 then (clepsydralaw12_SlewStays.j0 k a1 a2 a3 a4 a5 true a0_0 a0_1 a0_2 a0_3 a0_4 a0_5 a0_6 a0_7 a0_8 a0_9 a0_10 a0_11) else (clepsydralaw12_SlewStays.j0 k a1 a2 a3 a4 a5 (decide (a5 < (wrap64 (-a2)))) a0_0 a0_1 a0_2 a0_3 a0_4 a0_5 a0_6 a0_7 a0_8 a0_9 a0_10 a0_11)))))))))) else (clepsydralaw12_SlewStays.j0 k a1 a2 a3 a4 a5 true a0_0 a0_1 a0_2 a0_3 a0_4 a0_5 a0_6 a0_7 a0_8 a0_9 a0_10 a0_11))) = some r := by rw [if_pos rfl] at H; exact H
    clear H
    have H := H1
    clear H1
    have HC9 := Aside0.mk H
    clear H
    go_enter Try.func5, Try.ntmps5
    go_upto_region 3 with (first | ((with_reducible refine gate_dst (N := 6) rfl ?_); refine box_event ?hg (N := 6) ?hd (cs := #[.int .i64 a0_0, .int .i64 a0_1, .int .i64 a0_2, .int .i64 a0_3, .int .i64 a0_4, .int .i64 a0_5, .int .i64 a0_6, .int .i64 a0_7, .int .i64 a0_8, .int .i64 a0_9, .int .i64 a0_10, .int .i64 a0_11]) (t := 23) ?hr ?_; (case hd => rfl); (case hg => rfl); (case hr => first | (go_simp; done) | (go_simp; rfl)); intro gb183 hg w10 hbox hb; have n0_ := Aside0.mk (below_step (by repeat (first | (with_reducible first | exact HB.out | apply below_alloc | apply pw_below_drewN | apply below_drew1) | exact HB.out)) hb); have n1_ := Aside0.mk (hbox); have n2_ := Aside0.mk ((by rw [hg]; exact (below_size (by repeat (first | (with_reducible first | exact HB.out | apply below_alloc | apply pw_below_drewN | apply below_drew1) | exact HB.out))) : w.heap.size ≤ gb183)); have n3_ := Aside0.mk ((by rw [hg]; exact (below_size (by repeat (first | (with_reducible first | exact HB.out | apply below_alloc | apply pw_below_drewN | apply below_drew1) | exact HB.out))) : w.heap.size ≤ gb183)); clear HB; have HB := n0_; have BK183 := n1_; have GW183 := n2_; have GE183 := n3_; clear n0_ n1_ n2_ n3_; clear hb hbox hg) | ((with_reducible refine gate_callee (f := 12) rfl ?_); refine goesL_ (some 16) rfl rfl Try.func12 (by kernel_rfl) rfl #[] rfl (by (try simp only [List.map_toArray, List.map_cons, List.map_nil]); first | done | rfl | (simp only [List.length_drop, List.length_take]; rfl)) ?_; (with_reducible refine (clepsydralaw12_alive.calls k  true _ A7.out).mono ?_); rintro e w11 ⟨rfl, hb⟩; refine ⟨_, rfl, ?_⟩; have n0_ := Aside0.mk (blk_below (g := gb183) (o := .cells #[.int .i64 a0_0, .int .i64 a0_1, .int .i64 a0_2, .int .i64 a0_3, .int .i64 a0_4, .int .i64 a0_5, .int .i64 a0_6, .int .i64 a0_7, .int .i64 a0_8, .int .i64 a0_9, .int .i64 a0_10, .int .i64 a0_11] 23 (0, 0)) (by (with_reducible repeat (first | refine blk_drewN ?_ _ | refine blk_drew ?_ | refine blk_alloc ?_ _)); exact BK183.out) hb); have n1_ := Aside0.mk (below_step (by repeat (first | (with_reducible first | exact HB.out | apply below_alloc | apply pw_below_drewN | apply below_drew1 | refine below_set ?_ GE183.out) | exact HB.out)) hb); clear BK183; clear HB; have BK183 := n0_; have HB := n1_; clear n0_ n1_; (try clear hb); (try clear hb2); (try clear hk); (try clear hi)))
    (try simp only [Act.put, List.setIfInBounds_toArray, List.set_cons_zero, List.set_cons_succ])
    go_cut [71] (fun v71 wc => ∃ (kq : Nat) (x71_8 : Bool), v71 = .bool x71_8 ∧ Aside0 (clepsydralaw12_SlewStays.j0 kq a1 a2 a3 a4 a5 x71_8 a0_0 a0_1 a0_2 a0_3 a0_4 a0_5 a0_6 a0_7 a0_8 a0_9 a0_10 a0_11 = some r) ∧ Aside0 (kq ≤ k) ∧ Aside0 (wc.heap[gb183]? = some (.cells #[.int .i64 a0_0, .int .i64 a0_1, .int .i64 a0_2, .int .i64 a0_3, .int .i64 a0_4, .int .i64 a0_5, .int .i64 a0_6, .int .i64 a0_7, .int .i64 a0_8, .int .i64 a0_9, .int .i64 a0_10, .int .i64 a0_11] 23 (0, 0))) ∧ Aside0 (Below w.heap.size w wc))
    case first =>
      have H := HC9.out
      clear HC9
      replace H := Option.bind_eq_some_iff.mp H
      obtain ⟨t185, A120, H⟩ := H
      replace H : (if t185 = 0 then (if a2 < 0 then (clepsydralaw12_SlewStays.j0 k a1 a2 a3 a4 a5 true a0_0 a0_1 a0_2 a0_3 a0_4 a0_5 a0_6 a0_7 a0_8 a0_9 a0_10 a0_11) else (if a2 > 72057594037927936 then (clepsydralaw12_SlewStays.j0 k a1 a2 a3 a4 a5 true a0_0 a0_1 a0_2 a0_3 a0_4 a0_5 a0_6 a0_7 a0_8 a0_9 a0_10 a0_11) else (if a1 > 72057594037927936 then (clepsydralaw12_SlewStays.j0 k a1 a2 a3 a4 a5 true a0_0 a0_1 a0_2 a0_3 a0_4 a0_5 a0_6 a0_7 a0_8 a0_9 a0_10 a0_11) else (if a1 < (-72057594037927936) then (clepsydralaw12_SlewStays.j0 k a1 a2 a3 a4 a5 true a0_0 a0_1 a0_2 a0_3 a0_4 a0_5 a0_6 a0_7 a0_8 a0_9 a0_10 a0_11) else (if a3 > a2 then (clepsydralaw12_SlewStays.j0 k a1 a2 a3 a4 a5 true a0_0 a0_1 a0_2 a0_3 a0_4 a0_5 a0_6 a0_7 a0_8 a0_9 a0_10 a0_11) else (if a3 < (wrap64 (-a2)) then (clepsydralaw12_SlewStays.j0 k a1 a2 a3 a4 a5 true a0_0 a0_1 a0_2 a0_3 a0_4 a0_5 a0_6 a0_7 a0_8 a0_9 a0_10 a0_11) else (if a4 > a0_4 then (clepsydralaw12_SlewStays.j0 k a1 a2 a3 a4 a5 true a0_0 a0_1 a0_2 a0_3 a0_4 a0_5 a0_6 a0_7 a0_8 a0_9 a0_10 a0_11) else (if a4 < (wrap64 (-a0_4)) then (clepsydralaw12_SlewStays.j0 k a1 a2 a3 a4 a5 true a0_0 a0_1 a0_2 a0_3 a0_4 a0_5 a0_6 a0_7 a0_8 a0_9 a0_10 a0_11) else (if a5 > a2 then (clepsydralaw12_SlewStays.j0 k a1 a2 a3 a4 a5 true a0_0 a0_1 a0_2 a0_3 a0_4 a0_5 a0_6 a0_7 a0_8 a0_9 a0_10 a0_11) else (clepsydralaw12_SlewStays.j0 k a1 a2 a3 a4 a5 (decide (a5 < (wrap64 (-a2)))) a0_0 a0_1 a0_2 a0_3 a0_4 a0_5 a0_6 a0_7 a0_8 a0_9 a0_10 a0_11)))))))))) else (clepsydralaw12_SlewStays.j0 k a1 a2 a3 a4 a5 true a0_0 a0_1 a0_2 a0_3 a0_4 a0_5 a0_6 a0_7 a0_8 a0_9 a0_10 a0_11)) = some r := H
      have A12 := Aside0.mk A120
      clear A120
      by_cases c13 : t185 = 0
      · rw [if_pos c13] at H
        have c13b0 : (t185 == 0) = true := beq_iff_eq.mpr c13
        have c13b1 : (t185 != 0) = false := bne_eq_false_iff_eq.mpr c13
        clear c13
        (first | rw [c13b0] | (simp only [i64_w, i32_w]; rw [c13b0]) | skip)
        by_cases c14 : a2 < 0
        · rw [if_pos c14] at H
          have c14b0 : decide (a2 < 0) = true := decide_eq_true c14
          clear c14
          have H' := Aside0.mk H
          clear H
          have hcz15_0 : w11.cell? ⟨gb183, 0, none⟩ = some (.int .i64 a0_0) := (blk_cell BK183.out 0).trans rfl
          have hcz15_1 : w11.cell? ⟨gb183, 1, none⟩ = some (.int .i64 a0_1) := (blk_cell BK183.out 1).trans rfl
          have hcz15_2 : w11.cell? ⟨gb183, 2, none⟩ = some (.int .i64 a0_2) := (blk_cell BK183.out 2).trans rfl
          have hcz15_3 : w11.cell? ⟨gb183, 3, none⟩ = some (.int .i64 a0_3) := (blk_cell BK183.out 3).trans rfl
          have hcz15_4 : w11.cell? ⟨gb183, 4, none⟩ = some (.int .i64 a0_4) := (blk_cell BK183.out 4).trans rfl
          have hcz15_5 : w11.cell? ⟨gb183, 5, none⟩ = some (.int .i64 a0_5) := (blk_cell BK183.out 5).trans rfl
          have hcz15_6 : w11.cell? ⟨gb183, 6, none⟩ = some (.int .i64 a0_6) := (blk_cell BK183.out 6).trans rfl
          have hcz15_7 : w11.cell? ⟨gb183, 7, none⟩ = some (.int .i64 a0_7) := (blk_cell BK183.out 7).trans rfl
          have hcz15_8 : w11.cell? ⟨gb183, 8, none⟩ = some (.int .i64 a0_8) := (blk_cell BK183.out 8).trans rfl
          have hcz15_9 : w11.cell? ⟨gb183, 9, none⟩ = some (.int .i64 a0_9) := (blk_cell BK183.out 9).trans rfl
          have hcz15_10 : w11.cell? ⟨gb183, 10, none⟩ = some (.int .i64 a0_10) := (blk_cell BK183.out 10).trans rfl
          have hcz15_11 : w11.cell? ⟨gb183, 11, none⟩ = some (.int .i64 a0_11) := (blk_cell BK183.out 11).trans rfl
          have hfz15_0 := blk_frozen BK183.out 0
          have hfz15_1 := blk_frozen BK183.out 1
          have hfz15_2 := blk_frozen BK183.out 2
          have hfz15_3 := blk_frozen BK183.out 3
          have hfz15_4 := blk_frozen BK183.out 4
          have hfz15_5 := blk_frozen BK183.out 5
          have hfz15_6 := blk_frozen BK183.out 6
          have hfz15_7 := blk_frozen BK183.out 7
          have hfz15_8 := blk_frozen BK183.out 8
          have hfz15_9 := blk_frozen BK183.out 9
          have hfz15_10 := blk_frozen BK183.out 10
          have hfz15_11 := blk_frozen BK183.out 11
          go_wp2_with (first | ((with_reducible refine gate_callee (f := 18) rfl ?_); refine goesL_ (some 19) rfl rfl Try.func18 (by kernel_rfl) rfl #[.agg #[.int .i64 a0_0, .int .i64 a0_1, .int .i64 a0_2, .int .i64 a0_3, .int .i64 a0_4, .int .i64 a0_5, .int .i64 a0_6, .int .i64 a0_7, .int .i64 a0_8, .int .i64 a0_9, .int .i64 a0_10, .int .i64 a0_11]] rfl (by (try simp only [List.map_toArray, List.map_cons, List.map_nil]); first | done | rfl | (simp only [List.length_drop, List.length_take]; rfl)) ?_; (with_reducible refine (limit_Check.calls k a0_0 a0_1 a0_2 a0_3 a0_4 a0_5 a0_6 a0_7 a0_8 a0_9 a0_10 a0_11 t185 _ A12.out).mono ?_); rintro e w16 ⟨rfl, hb⟩; refine ⟨_, rfl, ?_⟩; have n0_ := Aside0.mk (blk_below (g := gb183) (o := .cells #[.int .i64 a0_0, .int .i64 a0_1, .int .i64 a0_2, .int .i64 a0_3, .int .i64 a0_4, .int .i64 a0_5, .int .i64 a0_6, .int .i64 a0_7, .int .i64 a0_8, .int .i64 a0_9, .int .i64 a0_10, .int .i64 a0_11] 23 (0, 0)) (by (with_reducible repeat (first | refine blk_drewN ?_ _ | refine blk_drew ?_ | refine blk_alloc ?_ _)); exact BK183.out) hb); have n1_ := Aside0.mk (below_step (by repeat (first | (with_reducible first | exact HB.out | apply below_alloc | apply pw_below_drewN | apply below_drew1 | refine below_set ?_ GE183.out) | exact HB.out)) hb); clear BK183; clear HB; have BK183 := n0_; have HB := n1_; clear n0_ n1_; (try clear hb); (try clear hb2); (try clear hk); (try clear hi)))
          go_meet
          case rel => exact ⟨_, (true), (by first | rfl | (simp; done) | (simp [*]; done) | (simp [Int.tdiv_eq_ediv_of_nonneg]; done) | (simp [Go.RowKit.wrap64]; done) | (simp [*, Go.RowKit.wrap64]; done)), H', ⟨by first | omega | exact Nat.le_refl _⟩, ⟨by (with_reducible repeat (first | refine blk_drewN ?_ _ | refine blk_drew ?_ | refine blk_alloc ?_ _)); exact BK183.out⟩, ⟨by repeat (first | (with_reducible first | exact HB.out | apply below_alloc | apply pw_below_drewN | apply below_drew1 | refine below_set ?_ GE183.out) | exact HB.out)⟩⟩
        · rw [if_neg c14] at H
          have c14b0 : decide (a2 < 0) = false := decide_eq_false c14
          clear c14
          by_cases c17 : a2 > 72057594037927936
          · rw [if_pos c17] at H
            have c17b0 : decide (72057594037927936 < a2) = true := decide_eq_true c17
            clear c17
            have H' := Aside0.mk H
            clear H
            have hcz18_0 : w11.cell? ⟨gb183, 0, none⟩ = some (.int .i64 a0_0) := (blk_cell BK183.out 0).trans rfl
            have hcz18_1 : w11.cell? ⟨gb183, 1, none⟩ = some (.int .i64 a0_1) := (blk_cell BK183.out 1).trans rfl
            have hcz18_2 : w11.cell? ⟨gb183, 2, none⟩ = some (.int .i64 a0_2) := (blk_cell BK183.out 2).trans rfl
            have hcz18_3 : w11.cell? ⟨gb183, 3, none⟩ = some (.int .i64 a0_3) := (blk_cell BK183.out 3).trans rfl
            have hcz18_4 : w11.cell? ⟨gb183, 4, none⟩ = some (.int .i64 a0_4) := (blk_cell BK183.out 4).trans rfl
            have hcz18_5 : w11.cell? ⟨gb183, 5, none⟩ = some (.int .i64 a0_5) := (blk_cell BK183.out 5).trans rfl
            have hcz18_6 : w11.cell? ⟨gb183, 6, none⟩ = some (.int .i64 a0_6) := (blk_cell BK183.out 6).trans rfl
            have hcz18_7 : w11.cell? ⟨gb183, 7, none⟩ = some (.int .i64 a0_7) := (blk_cell BK183.out 7).trans rfl
            have hcz18_8 : w11.cell? ⟨gb183, 8, none⟩ = some (.int .i64 a0_8) := (blk_cell BK183.out 8).trans rfl
            have hcz18_9 : w11.cell? ⟨gb183, 9, none⟩ = some (.int .i64 a0_9) := (blk_cell BK183.out 9).trans rfl
            have hcz18_10 : w11.cell? ⟨gb183, 10, none⟩ = some (.int .i64 a0_10) := (blk_cell BK183.out 10).trans rfl
            have hcz18_11 : w11.cell? ⟨gb183, 11, none⟩ = some (.int .i64 a0_11) := (blk_cell BK183.out 11).trans rfl
            have hfz18_0 := blk_frozen BK183.out 0
            have hfz18_1 := blk_frozen BK183.out 1
            have hfz18_2 := blk_frozen BK183.out 2
            have hfz18_3 := blk_frozen BK183.out 3
            have hfz18_4 := blk_frozen BK183.out 4
            have hfz18_5 := blk_frozen BK183.out 5
            have hfz18_6 := blk_frozen BK183.out 6
            have hfz18_7 := blk_frozen BK183.out 7
            have hfz18_8 := blk_frozen BK183.out 8
            have hfz18_9 := blk_frozen BK183.out 9
            have hfz18_10 := blk_frozen BK183.out 10
            have hfz18_11 := blk_frozen BK183.out 11
            go_wp2_with (first | ((with_reducible refine gate_callee (f := 18) rfl ?_); refine goesL_ (some 19) rfl rfl Try.func18 (by kernel_rfl) rfl #[.agg #[.int .i64 a0_0, .int .i64 a0_1, .int .i64 a0_2, .int .i64 a0_3, .int .i64 a0_4, .int .i64 a0_5, .int .i64 a0_6, .int .i64 a0_7, .int .i64 a0_8, .int .i64 a0_9, .int .i64 a0_10, .int .i64 a0_11]] rfl (by (try simp only [List.map_toArray, List.map_cons, List.map_nil]); first | done | rfl | (simp only [List.length_drop, List.length_take]; rfl)) ?_; (with_reducible refine (limit_Check.calls k a0_0 a0_1 a0_2 a0_3 a0_4 a0_5 a0_6 a0_7 a0_8 a0_9 a0_10 a0_11 t185 _ A12.out).mono ?_); rintro e w19 ⟨rfl, hb⟩; refine ⟨_, rfl, ?_⟩; have n0_ := Aside0.mk (blk_below (g := gb183) (o := .cells #[.int .i64 a0_0, .int .i64 a0_1, .int .i64 a0_2, .int .i64 a0_3, .int .i64 a0_4, .int .i64 a0_5, .int .i64 a0_6, .int .i64 a0_7, .int .i64 a0_8, .int .i64 a0_9, .int .i64 a0_10, .int .i64 a0_11] 23 (0, 0)) (by (with_reducible repeat (first | refine blk_drewN ?_ _ | refine blk_drew ?_ | refine blk_alloc ?_ _)); exact BK183.out) hb); have n1_ := Aside0.mk (below_step (by repeat (first | (with_reducible first | exact HB.out | apply below_alloc | apply pw_below_drewN | apply below_drew1 | refine below_set ?_ GE183.out) | exact HB.out)) hb); clear BK183; clear HB; have BK183 := n0_; have HB := n1_; clear n0_ n1_; (try clear hb); (try clear hb2); (try clear hk); (try clear hi)))
            go_meet
            case rel => exact ⟨_, (true), (by first | rfl | (simp; done) | (simp [*]; done) | (simp [Int.tdiv_eq_ediv_of_nonneg]; done) | (simp [Go.RowKit.wrap64]; done) | (simp [*, Go.RowKit.wrap64]; done)), H', ⟨by first | omega | exact Nat.le_refl _⟩, ⟨by (with_reducible repeat (first | refine blk_drewN ?_ _ | refine blk_drew ?_ | refine blk_alloc ?_ _)); exact BK183.out⟩, ⟨by repeat (first | (with_reducible first | exact HB.out | apply below_alloc | apply pw_below_drewN | apply below_drew1 | refine below_set ?_ GE183.out) | exact HB.out)⟩⟩
          · rw [if_neg c17] at H
            have c17b0 : decide (72057594037927936 < a2) = false := decide_eq_false c17
            clear c17
            by_cases c20 : a1 > 72057594037927936
            · rw [if_pos c20] at H
              have c20b0 : decide (72057594037927936 < a1) = true := decide_eq_true c20
              clear c20
              have H' := Aside0.mk H
              clear H
              have hcz21_0 : w11.cell? ⟨gb183, 0, none⟩ = some (.int .i64 a0_0) := (blk_cell BK183.out 0).trans rfl
              have hcz21_1 : w11.cell? ⟨gb183, 1, none⟩ = some (.int .i64 a0_1) := (blk_cell BK183.out 1).trans rfl
              have hcz21_2 : w11.cell? ⟨gb183, 2, none⟩ = some (.int .i64 a0_2) := (blk_cell BK183.out 2).trans rfl
              have hcz21_3 : w11.cell? ⟨gb183, 3, none⟩ = some (.int .i64 a0_3) := (blk_cell BK183.out 3).trans rfl
              have hcz21_4 : w11.cell? ⟨gb183, 4, none⟩ = some (.int .i64 a0_4) := (blk_cell BK183.out 4).trans rfl
              have hcz21_5 : w11.cell? ⟨gb183, 5, none⟩ = some (.int .i64 a0_5) := (blk_cell BK183.out 5).trans rfl
              have hcz21_6 : w11.cell? ⟨gb183, 6, none⟩ = some (.int .i64 a0_6) := (blk_cell BK183.out 6).trans rfl
              have hcz21_7 : w11.cell? ⟨gb183, 7, none⟩ = some (.int .i64 a0_7) := (blk_cell BK183.out 7).trans rfl
              have hcz21_8 : w11.cell? ⟨gb183, 8, none⟩ = some (.int .i64 a0_8) := (blk_cell BK183.out 8).trans rfl
              have hcz21_9 : w11.cell? ⟨gb183, 9, none⟩ = some (.int .i64 a0_9) := (blk_cell BK183.out 9).trans rfl
              have hcz21_10 : w11.cell? ⟨gb183, 10, none⟩ = some (.int .i64 a0_10) := (blk_cell BK183.out 10).trans rfl
              have hcz21_11 : w11.cell? ⟨gb183, 11, none⟩ = some (.int .i64 a0_11) := (blk_cell BK183.out 11).trans rfl
              have hfz21_0 := blk_frozen BK183.out 0
              have hfz21_1 := blk_frozen BK183.out 1
              have hfz21_2 := blk_frozen BK183.out 2
              have hfz21_3 := blk_frozen BK183.out 3
              have hfz21_4 := blk_frozen BK183.out 4
              have hfz21_5 := blk_frozen BK183.out 5
              have hfz21_6 := blk_frozen BK183.out 6
              have hfz21_7 := blk_frozen BK183.out 7
              have hfz21_8 := blk_frozen BK183.out 8
              have hfz21_9 := blk_frozen BK183.out 9
              have hfz21_10 := blk_frozen BK183.out 10
              have hfz21_11 := blk_frozen BK183.out 11
              go_wp2_with (first | ((with_reducible refine gate_callee (f := 18) rfl ?_); refine goesL_ (some 19) rfl rfl Try.func18 (by kernel_rfl) rfl #[.agg #[.int .i64 a0_0, .int .i64 a0_1, .int .i64 a0_2, .int .i64 a0_3, .int .i64 a0_4, .int .i64 a0_5, .int .i64 a0_6, .int .i64 a0_7, .int .i64 a0_8, .int .i64 a0_9, .int .i64 a0_10, .int .i64 a0_11]] rfl (by (try simp only [List.map_toArray, List.map_cons, List.map_nil]); first | done | rfl | (simp only [List.length_drop, List.length_take]; rfl)) ?_; (with_reducible refine (limit_Check.calls k a0_0 a0_1 a0_2 a0_3 a0_4 a0_5 a0_6 a0_7 a0_8 a0_9 a0_10 a0_11 t185 _ A12.out).mono ?_); rintro e w22 ⟨rfl, hb⟩; refine ⟨_, rfl, ?_⟩; have n0_ := Aside0.mk (blk_below (g := gb183) (o := .cells #[.int .i64 a0_0, .int .i64 a0_1, .int .i64 a0_2, .int .i64 a0_3, .int .i64 a0_4, .int .i64 a0_5, .int .i64 a0_6, .int .i64 a0_7, .int .i64 a0_8, .int .i64 a0_9, .int .i64 a0_10, .int .i64 a0_11] 23 (0, 0)) (by (with_reducible repeat (first | refine blk_drewN ?_ _ | refine blk_drew ?_ | refine blk_alloc ?_ _)); exact BK183.out) hb); have n1_ := Aside0.mk (below_step (by repeat (first | (with_reducible first | exact HB.out | apply below_alloc | apply pw_below_drewN | apply below_drew1 | refine below_set ?_ GE183.out) | exact HB.out)) hb); clear BK183; clear HB; have BK183 := n0_; have HB := n1_; clear n0_ n1_; (try clear hb); (try clear hb2); (try clear hk); (try clear hi)))
              go_meet
              case rel => exact ⟨_, (true), (by first | rfl | (simp; done) | (simp [*]; done) | (simp [Int.tdiv_eq_ediv_of_nonneg]; done) | (simp [Go.RowKit.wrap64]; done) | (simp [*, Go.RowKit.wrap64]; done)), H', ⟨by first | omega | exact Nat.le_refl _⟩, ⟨by (with_reducible repeat (first | refine blk_drewN ?_ _ | refine blk_drew ?_ | refine blk_alloc ?_ _)); exact BK183.out⟩, ⟨by repeat (first | (with_reducible first | exact HB.out | apply below_alloc | apply pw_below_drewN | apply below_drew1 | refine below_set ?_ GE183.out) | exact HB.out)⟩⟩
            · rw [if_neg c20] at H
              have c20b0 : decide (72057594037927936 < a1) = false := decide_eq_false c20
              clear c20
              by_cases c23 : a1 < (-72057594037927936)
              · rw [if_pos c23] at H
                have c23b0 : decide (a1 < (-72057594037927936)) = true := decide_eq_true c23
                clear c23
                have H' := Aside0.mk H
                clear H
                have hcz24_0 : w11.cell? ⟨gb183, 0, none⟩ = some (.int .i64 a0_0) := (blk_cell BK183.out 0).trans rfl
                have hcz24_1 : w11.cell? ⟨gb183, 1, none⟩ = some (.int .i64 a0_1) := (blk_cell BK183.out 1).trans rfl
                have hcz24_2 : w11.cell? ⟨gb183, 2, none⟩ = some (.int .i64 a0_2) := (blk_cell BK183.out 2).trans rfl
                have hcz24_3 : w11.cell? ⟨gb183, 3, none⟩ = some (.int .i64 a0_3) := (blk_cell BK183.out 3).trans rfl
                have hcz24_4 : w11.cell? ⟨gb183, 4, none⟩ = some (.int .i64 a0_4) := (blk_cell BK183.out 4).trans rfl
                have hcz24_5 : w11.cell? ⟨gb183, 5, none⟩ = some (.int .i64 a0_5) := (blk_cell BK183.out 5).trans rfl
                have hcz24_6 : w11.cell? ⟨gb183, 6, none⟩ = some (.int .i64 a0_6) := (blk_cell BK183.out 6).trans rfl
                have hcz24_7 : w11.cell? ⟨gb183, 7, none⟩ = some (.int .i64 a0_7) := (blk_cell BK183.out 7).trans rfl
                have hcz24_8 : w11.cell? ⟨gb183, 8, none⟩ = some (.int .i64 a0_8) := (blk_cell BK183.out 8).trans rfl
                have hcz24_9 : w11.cell? ⟨gb183, 9, none⟩ = some (.int .i64 a0_9) := (blk_cell BK183.out 9).trans rfl
                have hcz24_10 : w11.cell? ⟨gb183, 10, none⟩ = some (.int .i64 a0_10) := (blk_cell BK183.out 10).trans rfl
                have hcz24_11 : w11.cell? ⟨gb183, 11, none⟩ = some (.int .i64 a0_11) := (blk_cell BK183.out 11).trans rfl
                have hfz24_0 := blk_frozen BK183.out 0
                have hfz24_1 := blk_frozen BK183.out 1
                have hfz24_2 := blk_frozen BK183.out 2
                have hfz24_3 := blk_frozen BK183.out 3
                have hfz24_4 := blk_frozen BK183.out 4
                have hfz24_5 := blk_frozen BK183.out 5
                have hfz24_6 := blk_frozen BK183.out 6
                have hfz24_7 := blk_frozen BK183.out 7
                have hfz24_8 := blk_frozen BK183.out 8
                have hfz24_9 := blk_frozen BK183.out 9
                have hfz24_10 := blk_frozen BK183.out 10
                have hfz24_11 := blk_frozen BK183.out 11
                go_wp2_with (first | ((with_reducible refine gate_callee (f := 18) rfl ?_); refine goesL_ (some 19) rfl rfl Try.func18 (by kernel_rfl) rfl #[.agg #[.int .i64 a0_0, .int .i64 a0_1, .int .i64 a0_2, .int .i64 a0_3, .int .i64 a0_4, .int .i64 a0_5, .int .i64 a0_6, .int .i64 a0_7, .int .i64 a0_8, .int .i64 a0_9, .int .i64 a0_10, .int .i64 a0_11]] rfl (by (try simp only [List.map_toArray, List.map_cons, List.map_nil]); first | done | rfl | (simp only [List.length_drop, List.length_take]; rfl)) ?_; (with_reducible refine (limit_Check.calls k a0_0 a0_1 a0_2 a0_3 a0_4 a0_5 a0_6 a0_7 a0_8 a0_9 a0_10 a0_11 t185 _ A12.out).mono ?_); rintro e w25 ⟨rfl, hb⟩; refine ⟨_, rfl, ?_⟩; have n0_ := Aside0.mk (blk_below (g := gb183) (o := .cells #[.int .i64 a0_0, .int .i64 a0_1, .int .i64 a0_2, .int .i64 a0_3, .int .i64 a0_4, .int .i64 a0_5, .int .i64 a0_6, .int .i64 a0_7, .int .i64 a0_8, .int .i64 a0_9, .int .i64 a0_10, .int .i64 a0_11] 23 (0, 0)) (by (with_reducible repeat (first | refine blk_drewN ?_ _ | refine blk_drew ?_ | refine blk_alloc ?_ _)); exact BK183.out) hb); have n1_ := Aside0.mk (below_step (by repeat (first | (with_reducible first | exact HB.out | apply below_alloc | apply pw_below_drewN | apply below_drew1 | refine below_set ?_ GE183.out) | exact HB.out)) hb); clear BK183; clear HB; have BK183 := n0_; have HB := n1_; clear n0_ n1_; (try clear hb); (try clear hb2); (try clear hk); (try clear hi)))
                go_meet
                case rel => exact ⟨_, (true), (by first | rfl | (simp; done) | (simp [*]; done) | (simp [Int.tdiv_eq_ediv_of_nonneg]; done) | (simp [Go.RowKit.wrap64]; done) | (simp [*, Go.RowKit.wrap64]; done)), H', ⟨by first | omega | exact Nat.le_refl _⟩, ⟨by (with_reducible repeat (first | refine blk_drewN ?_ _ | refine blk_drew ?_ | refine blk_alloc ?_ _)); exact BK183.out⟩, ⟨by repeat (first | (with_reducible first | exact HB.out | apply below_alloc | apply pw_below_drewN | apply below_drew1 | refine below_set ?_ GE183.out) | exact HB.out)⟩⟩
              · rw [if_neg c23] at H
                have c23b0 : decide (a1 < (-72057594037927936)) = false := decide_eq_false c23
                clear c23
                by_cases c26 : a3 > a2
                · rw [if_pos c26] at H
                  have c26b0 : decide (a2 < a3) = true := decide_eq_true c26
                  clear c26
                  have H' := Aside0.mk H
                  clear H
                  have hcz27_0 : w11.cell? ⟨gb183, 0, none⟩ = some (.int .i64 a0_0) := (blk_cell BK183.out 0).trans rfl
                  have hcz27_1 : w11.cell? ⟨gb183, 1, none⟩ = some (.int .i64 a0_1) := (blk_cell BK183.out 1).trans rfl
                  have hcz27_2 : w11.cell? ⟨gb183, 2, none⟩ = some (.int .i64 a0_2) := (blk_cell BK183.out 2).trans rfl
                  have hcz27_3 : w11.cell? ⟨gb183, 3, none⟩ = some (.int .i64 a0_3) := (blk_cell BK183.out 3).trans rfl
                  have hcz27_4 : w11.cell? ⟨gb183, 4, none⟩ = some (.int .i64 a0_4) := (blk_cell BK183.out 4).trans rfl
                  have hcz27_5 : w11.cell? ⟨gb183, 5, none⟩ = some (.int .i64 a0_5) := (blk_cell BK183.out 5).trans rfl
                  have hcz27_6 : w11.cell? ⟨gb183, 6, none⟩ = some (.int .i64 a0_6) := (blk_cell BK183.out 6).trans rfl
                  have hcz27_7 : w11.cell? ⟨gb183, 7, none⟩ = some (.int .i64 a0_7) := (blk_cell BK183.out 7).trans rfl
                  have hcz27_8 : w11.cell? ⟨gb183, 8, none⟩ = some (.int .i64 a0_8) := (blk_cell BK183.out 8).trans rfl
                  have hcz27_9 : w11.cell? ⟨gb183, 9, none⟩ = some (.int .i64 a0_9) := (blk_cell BK183.out 9).trans rfl
                  have hcz27_10 : w11.cell? ⟨gb183, 10, none⟩ = some (.int .i64 a0_10) := (blk_cell BK183.out 10).trans rfl
                  have hcz27_11 : w11.cell? ⟨gb183, 11, none⟩ = some (.int .i64 a0_11) := (blk_cell BK183.out 11).trans rfl
                  have hfz27_0 := blk_frozen BK183.out 0
                  have hfz27_1 := blk_frozen BK183.out 1
                  have hfz27_2 := blk_frozen BK183.out 2
                  have hfz27_3 := blk_frozen BK183.out 3
                  have hfz27_4 := blk_frozen BK183.out 4
                  have hfz27_5 := blk_frozen BK183.out 5
                  have hfz27_6 := blk_frozen BK183.out 6
                  have hfz27_7 := blk_frozen BK183.out 7
                  have hfz27_8 := blk_frozen BK183.out 8
                  have hfz27_9 := blk_frozen BK183.out 9
                  have hfz27_10 := blk_frozen BK183.out 10
                  have hfz27_11 := blk_frozen BK183.out 11
                  go_wp2_with (first | ((with_reducible refine gate_callee (f := 18) rfl ?_); refine goesL_ (some 19) rfl rfl Try.func18 (by kernel_rfl) rfl #[.agg #[.int .i64 a0_0, .int .i64 a0_1, .int .i64 a0_2, .int .i64 a0_3, .int .i64 a0_4, .int .i64 a0_5, .int .i64 a0_6, .int .i64 a0_7, .int .i64 a0_8, .int .i64 a0_9, .int .i64 a0_10, .int .i64 a0_11]] rfl (by (try simp only [List.map_toArray, List.map_cons, List.map_nil]); first | done | rfl | (simp only [List.length_drop, List.length_take]; rfl)) ?_; (with_reducible refine (limit_Check.calls k a0_0 a0_1 a0_2 a0_3 a0_4 a0_5 a0_6 a0_7 a0_8 a0_9 a0_10 a0_11 t185 _ A12.out).mono ?_); rintro e w28 ⟨rfl, hb⟩; refine ⟨_, rfl, ?_⟩; have n0_ := Aside0.mk (blk_below (g := gb183) (o := .cells #[.int .i64 a0_0, .int .i64 a0_1, .int .i64 a0_2, .int .i64 a0_3, .int .i64 a0_4, .int .i64 a0_5, .int .i64 a0_6, .int .i64 a0_7, .int .i64 a0_8, .int .i64 a0_9, .int .i64 a0_10, .int .i64 a0_11] 23 (0, 0)) (by (with_reducible repeat (first | refine blk_drewN ?_ _ | refine blk_drew ?_ | refine blk_alloc ?_ _)); exact BK183.out) hb); have n1_ := Aside0.mk (below_step (by repeat (first | (with_reducible first | exact HB.out | apply below_alloc | apply pw_below_drewN | apply below_drew1 | refine below_set ?_ GE183.out) | exact HB.out)) hb); clear BK183; clear HB; have BK183 := n0_; have HB := n1_; clear n0_ n1_; (try clear hb); (try clear hb2); (try clear hk); (try clear hi)))
                  go_meet
                  case rel => exact ⟨_, (true), (by first | rfl | (simp; done) | (simp [*]; done) | (simp [Int.tdiv_eq_ediv_of_nonneg]; done) | (simp [Go.RowKit.wrap64]; done) | (simp [*, Go.RowKit.wrap64]; done)), H', ⟨by first | omega | exact Nat.le_refl _⟩, ⟨by (with_reducible repeat (first | refine blk_drewN ?_ _ | refine blk_drew ?_ | refine blk_alloc ?_ _)); exact BK183.out⟩, ⟨by repeat (first | (with_reducible first | exact HB.out | apply below_alloc | apply pw_below_drewN | apply below_drew1 | refine below_set ?_ GE183.out) | exact HB.out)⟩⟩
                · rw [if_neg c26] at H
                  have c26b0 : decide (a2 < a3) = false := decide_eq_false c26
                  clear c26
                  by_cases c29 : a3 < (wrap64 (-a2))
                  · rw [if_pos c29] at H
                    have c29b0 : decide (a3 < (wrap64 (-a2))) = true := decide_eq_true c29
                    clear c29
                    have H' := Aside0.mk H
                    clear H
                    have hcz30_0 : w11.cell? ⟨gb183, 0, none⟩ = some (.int .i64 a0_0) := (blk_cell BK183.out 0).trans rfl
                    have hcz30_1 : w11.cell? ⟨gb183, 1, none⟩ = some (.int .i64 a0_1) := (blk_cell BK183.out 1).trans rfl
                    have hcz30_2 : w11.cell? ⟨gb183, 2, none⟩ = some (.int .i64 a0_2) := (blk_cell BK183.out 2).trans rfl
                    have hcz30_3 : w11.cell? ⟨gb183, 3, none⟩ = some (.int .i64 a0_3) := (blk_cell BK183.out 3).trans rfl
                    have hcz30_4 : w11.cell? ⟨gb183, 4, none⟩ = some (.int .i64 a0_4) := (blk_cell BK183.out 4).trans rfl
                    have hcz30_5 : w11.cell? ⟨gb183, 5, none⟩ = some (.int .i64 a0_5) := (blk_cell BK183.out 5).trans rfl
                    have hcz30_6 : w11.cell? ⟨gb183, 6, none⟩ = some (.int .i64 a0_6) := (blk_cell BK183.out 6).trans rfl
                    have hcz30_7 : w11.cell? ⟨gb183, 7, none⟩ = some (.int .i64 a0_7) := (blk_cell BK183.out 7).trans rfl
                    have hcz30_8 : w11.cell? ⟨gb183, 8, none⟩ = some (.int .i64 a0_8) := (blk_cell BK183.out 8).trans rfl
                    have hcz30_9 : w11.cell? ⟨gb183, 9, none⟩ = some (.int .i64 a0_9) := (blk_cell BK183.out 9).trans rfl
                    have hcz30_10 : w11.cell? ⟨gb183, 10, none⟩ = some (.int .i64 a0_10) := (blk_cell BK183.out 10).trans rfl
                    have hcz30_11 : w11.cell? ⟨gb183, 11, none⟩ = some (.int .i64 a0_11) := (blk_cell BK183.out 11).trans rfl
                    have hfz30_0 := blk_frozen BK183.out 0
                    have hfz30_1 := blk_frozen BK183.out 1
                    have hfz30_2 := blk_frozen BK183.out 2
                    have hfz30_3 := blk_frozen BK183.out 3
                    have hfz30_4 := blk_frozen BK183.out 4
                    have hfz30_5 := blk_frozen BK183.out 5
                    have hfz30_6 := blk_frozen BK183.out 6
                    have hfz30_7 := blk_frozen BK183.out 7
                    have hfz30_8 := blk_frozen BK183.out 8
                    have hfz30_9 := blk_frozen BK183.out 9
                    have hfz30_10 := blk_frozen BK183.out 10
                    have hfz30_11 := blk_frozen BK183.out 11
                    go_wp2_with (first | ((with_reducible refine gate_callee (f := 18) rfl ?_); refine goesL_ (some 19) rfl rfl Try.func18 (by kernel_rfl) rfl #[.agg #[.int .i64 a0_0, .int .i64 a0_1, .int .i64 a0_2, .int .i64 a0_3, .int .i64 a0_4, .int .i64 a0_5, .int .i64 a0_6, .int .i64 a0_7, .int .i64 a0_8, .int .i64 a0_9, .int .i64 a0_10, .int .i64 a0_11]] rfl (by (try simp only [List.map_toArray, List.map_cons, List.map_nil]); first | done | rfl | (simp only [List.length_drop, List.length_take]; rfl)) ?_; (with_reducible refine (limit_Check.calls k a0_0 a0_1 a0_2 a0_3 a0_4 a0_5 a0_6 a0_7 a0_8 a0_9 a0_10 a0_11 t185 _ A12.out).mono ?_); rintro e w31 ⟨rfl, hb⟩; refine ⟨_, rfl, ?_⟩; have n0_ := Aside0.mk (blk_below (g := gb183) (o := .cells #[.int .i64 a0_0, .int .i64 a0_1, .int .i64 a0_2, .int .i64 a0_3, .int .i64 a0_4, .int .i64 a0_5, .int .i64 a0_6, .int .i64 a0_7, .int .i64 a0_8, .int .i64 a0_9, .int .i64 a0_10, .int .i64 a0_11] 23 (0, 0)) (by (with_reducible repeat (first | refine blk_drewN ?_ _ | refine blk_drew ?_ | refine blk_alloc ?_ _)); exact BK183.out) hb); have n1_ := Aside0.mk (below_step (by repeat (first | (with_reducible first | exact HB.out | apply below_alloc | apply pw_below_drewN | apply below_drew1 | refine below_set ?_ GE183.out) | exact HB.out)) hb); clear BK183; clear HB; have BK183 := n0_; have HB := n1_; clear n0_ n1_; (try clear hb); (try clear hb2); (try clear hk); (try clear hi)))
                    go_meet
                    case rel => exact ⟨_, (true), (by first | rfl | (simp; done) | (simp [*]; done) | (simp [Int.tdiv_eq_ediv_of_nonneg]; done) | (simp [Go.RowKit.wrap64]; done) | (simp [*, Go.RowKit.wrap64]; done)), H', ⟨by first | omega | exact Nat.le_refl _⟩, ⟨by (with_reducible repeat (first | refine blk_drewN ?_ _ | refine blk_drew ?_ | refine blk_alloc ?_ _)); exact BK183.out⟩, ⟨by repeat (first | (with_reducible first | exact HB.out | apply below_alloc | apply pw_below_drewN | apply below_drew1 | refine below_set ?_ GE183.out) | exact HB.out)⟩⟩
                  · rw [if_neg c29] at H
                    have c29b0 : decide (a3 < (wrap64 (-a2))) = false := decide_eq_false c29
                    clear c29
                    by_cases c32 : a4 > a0_4
                    · rw [if_pos c32] at H
                      have c32b0 : decide (a0_4 < a4) = true := decide_eq_true c32
                      clear c32
                      have H' := Aside0.mk H
                      clear H
                      have hcz33_0 : w11.cell? ⟨gb183, 0, none⟩ = some (.int .i64 a0_0) := (blk_cell BK183.out 0).trans rfl
                      have hcz33_1 : w11.cell? ⟨gb183, 1, none⟩ = some (.int .i64 a0_1) := (blk_cell BK183.out 1).trans rfl
                      have hcz33_2 : w11.cell? ⟨gb183, 2, none⟩ = some (.int .i64 a0_2) := (blk_cell BK183.out 2).trans rfl
                      have hcz33_3 : w11.cell? ⟨gb183, 3, none⟩ = some (.int .i64 a0_3) := (blk_cell BK183.out 3).trans rfl
                      have hcz33_4 : w11.cell? ⟨gb183, 4, none⟩ = some (.int .i64 a0_4) := (blk_cell BK183.out 4).trans rfl
                      have hcz33_5 : w11.cell? ⟨gb183, 5, none⟩ = some (.int .i64 a0_5) := (blk_cell BK183.out 5).trans rfl
                      have hcz33_6 : w11.cell? ⟨gb183, 6, none⟩ = some (.int .i64 a0_6) := (blk_cell BK183.out 6).trans rfl
                      have hcz33_7 : w11.cell? ⟨gb183, 7, none⟩ = some (.int .i64 a0_7) := (blk_cell BK183.out 7).trans rfl
                      have hcz33_8 : w11.cell? ⟨gb183, 8, none⟩ = some (.int .i64 a0_8) := (blk_cell BK183.out 8).trans rfl
                      have hcz33_9 : w11.cell? ⟨gb183, 9, none⟩ = some (.int .i64 a0_9) := (blk_cell BK183.out 9).trans rfl
                      have hcz33_10 : w11.cell? ⟨gb183, 10, none⟩ = some (.int .i64 a0_10) := (blk_cell BK183.out 10).trans rfl
                      have hcz33_11 : w11.cell? ⟨gb183, 11, none⟩ = some (.int .i64 a0_11) := (blk_cell BK183.out 11).trans rfl
                      have hfz33_0 := blk_frozen BK183.out 0
                      have hfz33_1 := blk_frozen BK183.out 1
                      have hfz33_2 := blk_frozen BK183.out 2
                      have hfz33_3 := blk_frozen BK183.out 3
                      have hfz33_4 := blk_frozen BK183.out 4
                      have hfz33_5 := blk_frozen BK183.out 5
                      have hfz33_6 := blk_frozen BK183.out 6
                      have hfz33_7 := blk_frozen BK183.out 7
                      have hfz33_8 := blk_frozen BK183.out 8
                      have hfz33_9 := blk_frozen BK183.out 9
                      have hfz33_10 := blk_frozen BK183.out 10
                      have hfz33_11 := blk_frozen BK183.out 11
                      go_wp2_with (first | ((with_reducible refine gate_callee (f := 18) rfl ?_); refine goesL_ (some 19) rfl rfl Try.func18 (by kernel_rfl) rfl #[.agg #[.int .i64 a0_0, .int .i64 a0_1, .int .i64 a0_2, .int .i64 a0_3, .int .i64 a0_4, .int .i64 a0_5, .int .i64 a0_6, .int .i64 a0_7, .int .i64 a0_8, .int .i64 a0_9, .int .i64 a0_10, .int .i64 a0_11]] rfl (by (try simp only [List.map_toArray, List.map_cons, List.map_nil]); first | done | rfl | (simp only [List.length_drop, List.length_take]; rfl)) ?_; (with_reducible refine (limit_Check.calls k a0_0 a0_1 a0_2 a0_3 a0_4 a0_5 a0_6 a0_7 a0_8 a0_9 a0_10 a0_11 t185 _ A12.out).mono ?_); rintro e w34 ⟨rfl, hb⟩; refine ⟨_, rfl, ?_⟩; have n0_ := Aside0.mk (blk_below (g := gb183) (o := .cells #[.int .i64 a0_0, .int .i64 a0_1, .int .i64 a0_2, .int .i64 a0_3, .int .i64 a0_4, .int .i64 a0_5, .int .i64 a0_6, .int .i64 a0_7, .int .i64 a0_8, .int .i64 a0_9, .int .i64 a0_10, .int .i64 a0_11] 23 (0, 0)) (by (with_reducible repeat (first | refine blk_drewN ?_ _ | refine blk_drew ?_ | refine blk_alloc ?_ _)); exact BK183.out) hb); have n1_ := Aside0.mk (below_step (by repeat (first | (with_reducible first | exact HB.out | apply below_alloc | apply pw_below_drewN | apply below_drew1 | refine below_set ?_ GE183.out) | exact HB.out)) hb); clear BK183; clear HB; have BK183 := n0_; have HB := n1_; clear n0_ n1_; (try clear hb); (try clear hb2); (try clear hk); (try clear hi); have hcz35_0 : w34.cell? ⟨gb183, 0, none⟩ = some (.int .i64 a0_0) := (blk_cell BK183.out 0).trans rfl; have hcz35_1 : w34.cell? ⟨gb183, 1, none⟩ = some (.int .i64 a0_1) := (blk_cell BK183.out 1).trans rfl; have hcz35_2 : w34.cell? ⟨gb183, 2, none⟩ = some (.int .i64 a0_2) := (blk_cell BK183.out 2).trans rfl; have hcz35_3 : w34.cell? ⟨gb183, 3, none⟩ = some (.int .i64 a0_3) := (blk_cell BK183.out 3).trans rfl; have hcz35_4 : w34.cell? ⟨gb183, 4, none⟩ = some (.int .i64 a0_4) := (blk_cell BK183.out 4).trans rfl; have hcz35_5 : w34.cell? ⟨gb183, 5, none⟩ = some (.int .i64 a0_5) := (blk_cell BK183.out 5).trans rfl; have hcz35_6 : w34.cell? ⟨gb183, 6, none⟩ = some (.int .i64 a0_6) := (blk_cell BK183.out 6).trans rfl; have hcz35_7 : w34.cell? ⟨gb183, 7, none⟩ = some (.int .i64 a0_7) := (blk_cell BK183.out 7).trans rfl; have hcz35_8 : w34.cell? ⟨gb183, 8, none⟩ = some (.int .i64 a0_8) := (blk_cell BK183.out 8).trans rfl; have hcz35_9 : w34.cell? ⟨gb183, 9, none⟩ = some (.int .i64 a0_9) := (blk_cell BK183.out 9).trans rfl; have hcz35_10 : w34.cell? ⟨gb183, 10, none⟩ = some (.int .i64 a0_10) := (blk_cell BK183.out 10).trans rfl; have hcz35_11 : w34.cell? ⟨gb183, 11, none⟩ = some (.int .i64 a0_11) := (blk_cell BK183.out 11).trans rfl; have hfz35_0 := blk_frozen BK183.out 0; have hfz35_1 := blk_frozen BK183.out 1; have hfz35_2 := blk_frozen BK183.out 2; have hfz35_3 := blk_frozen BK183.out 3; have hfz35_4 := blk_frozen BK183.out 4; have hfz35_5 := blk_frozen BK183.out 5; have hfz35_6 := blk_frozen BK183.out 6; have hfz35_7 := blk_frozen BK183.out 7; have hfz35_8 := blk_frozen BK183.out 8; have hfz35_9 := blk_frozen BK183.out 9; have hfz35_10 := blk_frozen BK183.out 10; have hfz35_11 := blk_frozen BK183.out 11))
                      go_meet
                      case rel => exact ⟨_, (true), (by first | rfl | (simp; done) | (simp [*]; done) | (simp [Int.tdiv_eq_ediv_of_nonneg]; done) | (simp [Go.RowKit.wrap64]; done) | (simp [*, Go.RowKit.wrap64]; done)), H', ⟨by first | omega | exact Nat.le_refl _⟩, ⟨by (with_reducible repeat (first | refine blk_drewN ?_ _ | refine blk_drew ?_ | refine blk_alloc ?_ _)); exact BK183.out⟩, ⟨by repeat (first | (with_reducible first | exact HB.out | apply below_alloc | apply pw_below_drewN | apply below_drew1 | refine below_set ?_ GE183.out) | exact HB.out)⟩⟩
                    · rw [if_neg c32] at H
                      have c32b0 : decide (a0_4 < a4) = false := decide_eq_false c32
                      clear c32
                      by_cases c36 : a4 < (wrap64 (-a0_4))
                      · rw [if_pos c36] at H
                        have c36b0 : decide (a4 < (wrap64 (-a0_4))) = true := decide_eq_true c36
                        clear c36
                        have H' := Aside0.mk H
                        clear H
                        have hcz37_0 : w11.cell? ⟨gb183, 0, none⟩ = some (.int .i64 a0_0) := (blk_cell BK183.out 0).trans rfl
                        have hcz37_1 : w11.cell? ⟨gb183, 1, none⟩ = some (.int .i64 a0_1) := (blk_cell BK183.out 1).trans rfl
                        have hcz37_2 : w11.cell? ⟨gb183, 2, none⟩ = some (.int .i64 a0_2) := (blk_cell BK183.out 2).trans rfl
                        have hcz37_3 : w11.cell? ⟨gb183, 3, none⟩ = some (.int .i64 a0_3) := (blk_cell BK183.out 3).trans rfl
                        have hcz37_4 : w11.cell? ⟨gb183, 4, none⟩ = some (.int .i64 a0_4) := (blk_cell BK183.out 4).trans rfl
                        have hcz37_5 : w11.cell? ⟨gb183, 5, none⟩ = some (.int .i64 a0_5) := (blk_cell BK183.out 5).trans rfl
                        have hcz37_6 : w11.cell? ⟨gb183, 6, none⟩ = some (.int .i64 a0_6) := (blk_cell BK183.out 6).trans rfl
                        have hcz37_7 : w11.cell? ⟨gb183, 7, none⟩ = some (.int .i64 a0_7) := (blk_cell BK183.out 7).trans rfl
                        have hcz37_8 : w11.cell? ⟨gb183, 8, none⟩ = some (.int .i64 a0_8) := (blk_cell BK183.out 8).trans rfl
                        have hcz37_9 : w11.cell? ⟨gb183, 9, none⟩ = some (.int .i64 a0_9) := (blk_cell BK183.out 9).trans rfl
                        have hcz37_10 : w11.cell? ⟨gb183, 10, none⟩ = some (.int .i64 a0_10) := (blk_cell BK183.out 10).trans rfl
                        have hcz37_11 : w11.cell? ⟨gb183, 11, none⟩ = some (.int .i64 a0_11) := (blk_cell BK183.out 11).trans rfl
                        have hfz37_0 := blk_frozen BK183.out 0
                        have hfz37_1 := blk_frozen BK183.out 1
                        have hfz37_2 := blk_frozen BK183.out 2
                        have hfz37_3 := blk_frozen BK183.out 3
                        have hfz37_4 := blk_frozen BK183.out 4
                        have hfz37_5 := blk_frozen BK183.out 5
                        have hfz37_6 := blk_frozen BK183.out 6
                        have hfz37_7 := blk_frozen BK183.out 7
                        have hfz37_8 := blk_frozen BK183.out 8
                        have hfz37_9 := blk_frozen BK183.out 9
                        have hfz37_10 := blk_frozen BK183.out 10
                        have hfz37_11 := blk_frozen BK183.out 11
                        go_wp2_with (first | ((with_reducible refine gate_callee (f := 18) rfl ?_); refine goesL_ (some 19) rfl rfl Try.func18 (by kernel_rfl) rfl #[.agg #[.int .i64 a0_0, .int .i64 a0_1, .int .i64 a0_2, .int .i64 a0_3, .int .i64 a0_4, .int .i64 a0_5, .int .i64 a0_6, .int .i64 a0_7, .int .i64 a0_8, .int .i64 a0_9, .int .i64 a0_10, .int .i64 a0_11]] rfl (by (try simp only [List.map_toArray, List.map_cons, List.map_nil]); first | done | rfl | (simp only [List.length_drop, List.length_take]; rfl)) ?_; (with_reducible refine (limit_Check.calls k a0_0 a0_1 a0_2 a0_3 a0_4 a0_5 a0_6 a0_7 a0_8 a0_9 a0_10 a0_11 t185 _ A12.out).mono ?_); rintro e w38 ⟨rfl, hb⟩; refine ⟨_, rfl, ?_⟩; have n0_ := Aside0.mk (blk_below (g := gb183) (o := .cells #[.int .i64 a0_0, .int .i64 a0_1, .int .i64 a0_2, .int .i64 a0_3, .int .i64 a0_4, .int .i64 a0_5, .int .i64 a0_6, .int .i64 a0_7, .int .i64 a0_8, .int .i64 a0_9, .int .i64 a0_10, .int .i64 a0_11] 23 (0, 0)) (by (with_reducible repeat (first | refine blk_drewN ?_ _ | refine blk_drew ?_ | refine blk_alloc ?_ _)); exact BK183.out) hb); have n1_ := Aside0.mk (below_step (by repeat (first | (with_reducible first | exact HB.out | apply below_alloc | apply pw_below_drewN | apply below_drew1 | refine below_set ?_ GE183.out) | exact HB.out)) hb); clear BK183; clear HB; have BK183 := n0_; have HB := n1_; clear n0_ n1_; (try clear hb); (try clear hb2); (try clear hk); (try clear hi); have hcz39_0 : w38.cell? ⟨gb183, 0, none⟩ = some (.int .i64 a0_0) := (blk_cell BK183.out 0).trans rfl; have hcz39_1 : w38.cell? ⟨gb183, 1, none⟩ = some (.int .i64 a0_1) := (blk_cell BK183.out 1).trans rfl; have hcz39_2 : w38.cell? ⟨gb183, 2, none⟩ = some (.int .i64 a0_2) := (blk_cell BK183.out 2).trans rfl; have hcz39_3 : w38.cell? ⟨gb183, 3, none⟩ = some (.int .i64 a0_3) := (blk_cell BK183.out 3).trans rfl; have hcz39_4 : w38.cell? ⟨gb183, 4, none⟩ = some (.int .i64 a0_4) := (blk_cell BK183.out 4).trans rfl; have hcz39_5 : w38.cell? ⟨gb183, 5, none⟩ = some (.int .i64 a0_5) := (blk_cell BK183.out 5).trans rfl; have hcz39_6 : w38.cell? ⟨gb183, 6, none⟩ = some (.int .i64 a0_6) := (blk_cell BK183.out 6).trans rfl; have hcz39_7 : w38.cell? ⟨gb183, 7, none⟩ = some (.int .i64 a0_7) := (blk_cell BK183.out 7).trans rfl; have hcz39_8 : w38.cell? ⟨gb183, 8, none⟩ = some (.int .i64 a0_8) := (blk_cell BK183.out 8).trans rfl; have hcz39_9 : w38.cell? ⟨gb183, 9, none⟩ = some (.int .i64 a0_9) := (blk_cell BK183.out 9).trans rfl; have hcz39_10 : w38.cell? ⟨gb183, 10, none⟩ = some (.int .i64 a0_10) := (blk_cell BK183.out 10).trans rfl; have hcz39_11 : w38.cell? ⟨gb183, 11, none⟩ = some (.int .i64 a0_11) := (blk_cell BK183.out 11).trans rfl; have hfz39_0 := blk_frozen BK183.out 0; have hfz39_1 := blk_frozen BK183.out 1; have hfz39_2 := blk_frozen BK183.out 2; have hfz39_3 := blk_frozen BK183.out 3; have hfz39_4 := blk_frozen BK183.out 4; have hfz39_5 := blk_frozen BK183.out 5; have hfz39_6 := blk_frozen BK183.out 6; have hfz39_7 := blk_frozen BK183.out 7; have hfz39_8 := blk_frozen BK183.out 8; have hfz39_9 := blk_frozen BK183.out 9; have hfz39_10 := blk_frozen BK183.out 10; have hfz39_11 := blk_frozen BK183.out 11))
                        go_meet
                        case rel => exact ⟨_, (true), (by first | rfl | (simp; done) | (simp [*]; done) | (simp [Int.tdiv_eq_ediv_of_nonneg]; done) | (simp [Go.RowKit.wrap64]; done) | (simp [*, Go.RowKit.wrap64]; done)), H', ⟨by first | omega | exact Nat.le_refl _⟩, ⟨by (with_reducible repeat (first | refine blk_drewN ?_ _ | refine blk_drew ?_ | refine blk_alloc ?_ _)); exact BK183.out⟩, ⟨by repeat (first | (with_reducible first | exact HB.out | apply below_alloc | apply pw_below_drewN | apply below_drew1 | refine below_set ?_ GE183.out) | exact HB.out)⟩⟩
                      · rw [if_neg c36] at H
                        have c36b0 : decide (a4 < (wrap64 (-a0_4))) = false := decide_eq_false c36
                        clear c36
                        by_cases c40 : a5 > a2
                        · rw [if_pos c40] at H
                          have c40b0 : decide (a2 < a5) = true := decide_eq_true c40
                          clear c40
                          have H' := Aside0.mk H
                          clear H
                          have hcz41_0 : w11.cell? ⟨gb183, 0, none⟩ = some (.int .i64 a0_0) := (blk_cell BK183.out 0).trans rfl
                          have hcz41_1 : w11.cell? ⟨gb183, 1, none⟩ = some (.int .i64 a0_1) := (blk_cell BK183.out 1).trans rfl
                          have hcz41_2 : w11.cell? ⟨gb183, 2, none⟩ = some (.int .i64 a0_2) := (blk_cell BK183.out 2).trans rfl
                          have hcz41_3 : w11.cell? ⟨gb183, 3, none⟩ = some (.int .i64 a0_3) := (blk_cell BK183.out 3).trans rfl
                          have hcz41_4 : w11.cell? ⟨gb183, 4, none⟩ = some (.int .i64 a0_4) := (blk_cell BK183.out 4).trans rfl
                          have hcz41_5 : w11.cell? ⟨gb183, 5, none⟩ = some (.int .i64 a0_5) := (blk_cell BK183.out 5).trans rfl
                          have hcz41_6 : w11.cell? ⟨gb183, 6, none⟩ = some (.int .i64 a0_6) := (blk_cell BK183.out 6).trans rfl
                          have hcz41_7 : w11.cell? ⟨gb183, 7, none⟩ = some (.int .i64 a0_7) := (blk_cell BK183.out 7).trans rfl
                          have hcz41_8 : w11.cell? ⟨gb183, 8, none⟩ = some (.int .i64 a0_8) := (blk_cell BK183.out 8).trans rfl
                          have hcz41_9 : w11.cell? ⟨gb183, 9, none⟩ = some (.int .i64 a0_9) := (blk_cell BK183.out 9).trans rfl
                          have hcz41_10 : w11.cell? ⟨gb183, 10, none⟩ = some (.int .i64 a0_10) := (blk_cell BK183.out 10).trans rfl
                          have hcz41_11 : w11.cell? ⟨gb183, 11, none⟩ = some (.int .i64 a0_11) := (blk_cell BK183.out 11).trans rfl
                          have hfz41_0 := blk_frozen BK183.out 0
                          have hfz41_1 := blk_frozen BK183.out 1
                          have hfz41_2 := blk_frozen BK183.out 2
                          have hfz41_3 := blk_frozen BK183.out 3
                          have hfz41_4 := blk_frozen BK183.out 4
                          have hfz41_5 := blk_frozen BK183.out 5
                          have hfz41_6 := blk_frozen BK183.out 6
                          have hfz41_7 := blk_frozen BK183.out 7
                          have hfz41_8 := blk_frozen BK183.out 8
                          have hfz41_9 := blk_frozen BK183.out 9
                          have hfz41_10 := blk_frozen BK183.out 10
                          have hfz41_11 := blk_frozen BK183.out 11
                          go_wp2_with (first | ((with_reducible refine gate_callee (f := 18) rfl ?_); refine goesL_ (some 19) rfl rfl Try.func18 (by kernel_rfl) rfl #[.agg #[.int .i64 a0_0, .int .i64 a0_1, .int .i64 a0_2, .int .i64 a0_3, .int .i64 a0_4, .int .i64 a0_5, .int .i64 a0_6, .int .i64 a0_7, .int .i64 a0_8, .int .i64 a0_9, .int .i64 a0_10, .int .i64 a0_11]] rfl (by (try simp only [List.map_toArray, List.map_cons, List.map_nil]); first | done | rfl | (simp only [List.length_drop, List.length_take]; rfl)) ?_; (with_reducible refine (limit_Check.calls k a0_0 a0_1 a0_2 a0_3 a0_4 a0_5 a0_6 a0_7 a0_8 a0_9 a0_10 a0_11 t185 _ A12.out).mono ?_); rintro e w42 ⟨rfl, hb⟩; refine ⟨_, rfl, ?_⟩; have n0_ := Aside0.mk (blk_below (g := gb183) (o := .cells #[.int .i64 a0_0, .int .i64 a0_1, .int .i64 a0_2, .int .i64 a0_3, .int .i64 a0_4, .int .i64 a0_5, .int .i64 a0_6, .int .i64 a0_7, .int .i64 a0_8, .int .i64 a0_9, .int .i64 a0_10, .int .i64 a0_11] 23 (0, 0)) (by (with_reducible repeat (first | refine blk_drewN ?_ _ | refine blk_drew ?_ | refine blk_alloc ?_ _)); exact BK183.out) hb); have n1_ := Aside0.mk (below_step (by repeat (first | (with_reducible first | exact HB.out | apply below_alloc | apply pw_below_drewN | apply below_drew1 | refine below_set ?_ GE183.out) | exact HB.out)) hb); clear BK183; clear HB; have BK183 := n0_; have HB := n1_; clear n0_ n1_; (try clear hb); (try clear hb2); (try clear hk); (try clear hi); have hcz43_0 : w42.cell? ⟨gb183, 0, none⟩ = some (.int .i64 a0_0) := (blk_cell BK183.out 0).trans rfl; have hcz43_1 : w42.cell? ⟨gb183, 1, none⟩ = some (.int .i64 a0_1) := (blk_cell BK183.out 1).trans rfl; have hcz43_2 : w42.cell? ⟨gb183, 2, none⟩ = some (.int .i64 a0_2) := (blk_cell BK183.out 2).trans rfl; have hcz43_3 : w42.cell? ⟨gb183, 3, none⟩ = some (.int .i64 a0_3) := (blk_cell BK183.out 3).trans rfl; have hcz43_4 : w42.cell? ⟨gb183, 4, none⟩ = some (.int .i64 a0_4) := (blk_cell BK183.out 4).trans rfl; have hcz43_5 : w42.cell? ⟨gb183, 5, none⟩ = some (.int .i64 a0_5) := (blk_cell BK183.out 5).trans rfl; have hcz43_6 : w42.cell? ⟨gb183, 6, none⟩ = some (.int .i64 a0_6) := (blk_cell BK183.out 6).trans rfl; have hcz43_7 : w42.cell? ⟨gb183, 7, none⟩ = some (.int .i64 a0_7) := (blk_cell BK183.out 7).trans rfl; have hcz43_8 : w42.cell? ⟨gb183, 8, none⟩ = some (.int .i64 a0_8) := (blk_cell BK183.out 8).trans rfl; have hcz43_9 : w42.cell? ⟨gb183, 9, none⟩ = some (.int .i64 a0_9) := (blk_cell BK183.out 9).trans rfl; have hcz43_10 : w42.cell? ⟨gb183, 10, none⟩ = some (.int .i64 a0_10) := (blk_cell BK183.out 10).trans rfl; have hcz43_11 : w42.cell? ⟨gb183, 11, none⟩ = some (.int .i64 a0_11) := (blk_cell BK183.out 11).trans rfl; have hfz43_0 := blk_frozen BK183.out 0; have hfz43_1 := blk_frozen BK183.out 1; have hfz43_2 := blk_frozen BK183.out 2; have hfz43_3 := blk_frozen BK183.out 3; have hfz43_4 := blk_frozen BK183.out 4; have hfz43_5 := blk_frozen BK183.out 5; have hfz43_6 := blk_frozen BK183.out 6; have hfz43_7 := blk_frozen BK183.out 7; have hfz43_8 := blk_frozen BK183.out 8; have hfz43_9 := blk_frozen BK183.out 9; have hfz43_10 := blk_frozen BK183.out 10; have hfz43_11 := blk_frozen BK183.out 11))
                          go_meet
                          case rel => exact ⟨_, (true), (by first | rfl | (simp; done) | (simp [*]; done) | (simp [Int.tdiv_eq_ediv_of_nonneg]; done) | (simp [Go.RowKit.wrap64]; done) | (simp [*, Go.RowKit.wrap64]; done)), H', ⟨by first | omega | exact Nat.le_refl _⟩, ⟨by (with_reducible repeat (first | refine blk_drewN ?_ _ | refine blk_drew ?_ | refine blk_alloc ?_ _)); exact BK183.out⟩, ⟨by repeat (first | (with_reducible first | exact HB.out | apply below_alloc | apply pw_below_drewN | apply below_drew1 | refine below_set ?_ GE183.out) | exact HB.out)⟩⟩
                        · rw [if_neg c40] at H
                          have c40b0 : decide (a2 < a5) = false := decide_eq_false c40
                          clear c40
                          have H' := Aside0.mk H
                          clear H
                          have hcz44_0 : w11.cell? ⟨gb183, 0, none⟩ = some (.int .i64 a0_0) := (blk_cell BK183.out 0).trans rfl
                          have hcz44_1 : w11.cell? ⟨gb183, 1, none⟩ = some (.int .i64 a0_1) := (blk_cell BK183.out 1).trans rfl
                          have hcz44_2 : w11.cell? ⟨gb183, 2, none⟩ = some (.int .i64 a0_2) := (blk_cell BK183.out 2).trans rfl
                          have hcz44_3 : w11.cell? ⟨gb183, 3, none⟩ = some (.int .i64 a0_3) := (blk_cell BK183.out 3).trans rfl
                          have hcz44_4 : w11.cell? ⟨gb183, 4, none⟩ = some (.int .i64 a0_4) := (blk_cell BK183.out 4).trans rfl
                          have hcz44_5 : w11.cell? ⟨gb183, 5, none⟩ = some (.int .i64 a0_5) := (blk_cell BK183.out 5).trans rfl
                          have hcz44_6 : w11.cell? ⟨gb183, 6, none⟩ = some (.int .i64 a0_6) := (blk_cell BK183.out 6).trans rfl
                          have hcz44_7 : w11.cell? ⟨gb183, 7, none⟩ = some (.int .i64 a0_7) := (blk_cell BK183.out 7).trans rfl
                          have hcz44_8 : w11.cell? ⟨gb183, 8, none⟩ = some (.int .i64 a0_8) := (blk_cell BK183.out 8).trans rfl
                          have hcz44_9 : w11.cell? ⟨gb183, 9, none⟩ = some (.int .i64 a0_9) := (blk_cell BK183.out 9).trans rfl
                          have hcz44_10 : w11.cell? ⟨gb183, 10, none⟩ = some (.int .i64 a0_10) := (blk_cell BK183.out 10).trans rfl
                          have hcz44_11 : w11.cell? ⟨gb183, 11, none⟩ = some (.int .i64 a0_11) := (blk_cell BK183.out 11).trans rfl
                          have hfz44_0 := blk_frozen BK183.out 0
                          have hfz44_1 := blk_frozen BK183.out 1
                          have hfz44_2 := blk_frozen BK183.out 2
                          have hfz44_3 := blk_frozen BK183.out 3
                          have hfz44_4 := blk_frozen BK183.out 4
                          have hfz44_5 := blk_frozen BK183.out 5
                          have hfz44_6 := blk_frozen BK183.out 6
                          have hfz44_7 := blk_frozen BK183.out 7
                          have hfz44_8 := blk_frozen BK183.out 8
                          have hfz44_9 := blk_frozen BK183.out 9
                          have hfz44_10 := blk_frozen BK183.out 10
                          have hfz44_11 := blk_frozen BK183.out 11
                          go_wp2_with (first | ((with_reducible refine gate_callee (f := 18) rfl ?_); refine goesL_ (some 19) rfl rfl Try.func18 (by kernel_rfl) rfl #[.agg #[.int .i64 a0_0, .int .i64 a0_1, .int .i64 a0_2, .int .i64 a0_3, .int .i64 a0_4, .int .i64 a0_5, .int .i64 a0_6, .int .i64 a0_7, .int .i64 a0_8, .int .i64 a0_9, .int .i64 a0_10, .int .i64 a0_11]] rfl (by (try simp only [List.map_toArray, List.map_cons, List.map_nil]); first | done | rfl | (simp only [List.length_drop, List.length_take]; rfl)) ?_; (with_reducible refine (limit_Check.calls k a0_0 a0_1 a0_2 a0_3 a0_4 a0_5 a0_6 a0_7 a0_8 a0_9 a0_10 a0_11 t185 _ A12.out).mono ?_); rintro e w45 ⟨rfl, hb⟩; refine ⟨_, rfl, ?_⟩; have n0_ := Aside0.mk (blk_below (g := gb183) (o := .cells #[.int .i64 a0_0, .int .i64 a0_1, .int .i64 a0_2, .int .i64 a0_3, .int .i64 a0_4, .int .i64 a0_5, .int .i64 a0_6, .int .i64 a0_7, .int .i64 a0_8, .int .i64 a0_9, .int .i64 a0_10, .int .i64 a0_11] 23 (0, 0)) (by (with_reducible repeat (first | refine blk_drewN ?_ _ | refine blk_drew ?_ | refine blk_alloc ?_ _)); exact BK183.out) hb); have n1_ := Aside0.mk (below_step (by repeat (first | (with_reducible first | exact HB.out | apply below_alloc | apply pw_below_drewN | apply below_drew1 | refine below_set ?_ GE183.out) | exact HB.out)) hb); clear BK183; clear HB; have BK183 := n0_; have HB := n1_; clear n0_ n1_; (try clear hb); (try clear hb2); (try clear hk); (try clear hi); have hcz46_0 : w45.cell? ⟨gb183, 0, none⟩ = some (.int .i64 a0_0) := (blk_cell BK183.out 0).trans rfl; have hcz46_1 : w45.cell? ⟨gb183, 1, none⟩ = some (.int .i64 a0_1) := (blk_cell BK183.out 1).trans rfl; have hcz46_2 : w45.cell? ⟨gb183, 2, none⟩ = some (.int .i64 a0_2) := (blk_cell BK183.out 2).trans rfl; have hcz46_3 : w45.cell? ⟨gb183, 3, none⟩ = some (.int .i64 a0_3) := (blk_cell BK183.out 3).trans rfl; have hcz46_4 : w45.cell? ⟨gb183, 4, none⟩ = some (.int .i64 a0_4) := (blk_cell BK183.out 4).trans rfl; have hcz46_5 : w45.cell? ⟨gb183, 5, none⟩ = some (.int .i64 a0_5) := (blk_cell BK183.out 5).trans rfl; have hcz46_6 : w45.cell? ⟨gb183, 6, none⟩ = some (.int .i64 a0_6) := (blk_cell BK183.out 6).trans rfl; have hcz46_7 : w45.cell? ⟨gb183, 7, none⟩ = some (.int .i64 a0_7) := (blk_cell BK183.out 7).trans rfl; have hcz46_8 : w45.cell? ⟨gb183, 8, none⟩ = some (.int .i64 a0_8) := (blk_cell BK183.out 8).trans rfl; have hcz46_9 : w45.cell? ⟨gb183, 9, none⟩ = some (.int .i64 a0_9) := (blk_cell BK183.out 9).trans rfl; have hcz46_10 : w45.cell? ⟨gb183, 10, none⟩ = some (.int .i64 a0_10) := (blk_cell BK183.out 10).trans rfl; have hcz46_11 : w45.cell? ⟨gb183, 11, none⟩ = some (.int .i64 a0_11) := (blk_cell BK183.out 11).trans rfl; have hfz46_0 := blk_frozen BK183.out 0; have hfz46_1 := blk_frozen BK183.out 1; have hfz46_2 := blk_frozen BK183.out 2; have hfz46_3 := blk_frozen BK183.out 3; have hfz46_4 := blk_frozen BK183.out 4; have hfz46_5 := blk_frozen BK183.out 5; have hfz46_6 := blk_frozen BK183.out 6; have hfz46_7 := blk_frozen BK183.out 7; have hfz46_8 := blk_frozen BK183.out 8; have hfz46_9 := blk_frozen BK183.out 9; have hfz46_10 := blk_frozen BK183.out 10; have hfz46_11 := blk_frozen BK183.out 11))
                          go_meet
                          case rel => exact ⟨_, (decide (a5 < (wrap64 (-a2)))), (by first | rfl | (simp; done) | (simp [*]; done) | (simp [Int.tdiv_eq_ediv_of_nonneg]; done) | (simp [Go.RowKit.wrap64]; done) | (simp [*, Go.RowKit.wrap64]; done)), H', ⟨by first | omega | exact Nat.le_refl _⟩, ⟨by (with_reducible repeat (first | refine blk_drewN ?_ _ | refine blk_drew ?_ | refine blk_alloc ?_ _)); exact BK183.out⟩, ⟨by repeat (first | (with_reducible first | exact HB.out | apply below_alloc | apply pw_below_drewN | apply below_drew1 | refine below_set ?_ GE183.out) | exact HB.out)⟩⟩
      · rw [if_neg c13] at H
        have c13b0 : (t185 == 0) = false := beq_eq_false_iff_ne.mpr c13
        have c13b1 : (t185 != 0) = true := bne_iff_ne.mpr c13
        (first | rw [c13b0] | (simp only [i64_w, i32_w]; rw [c13b0]) | skip)
        have H' := Aside0.mk H
        clear H
        have hcz47_0 : w11.cell? ⟨gb183, 0, none⟩ = some (.int .i64 a0_0) := (blk_cell BK183.out 0).trans rfl
        have hcz47_1 : w11.cell? ⟨gb183, 1, none⟩ = some (.int .i64 a0_1) := (blk_cell BK183.out 1).trans rfl
        have hcz47_2 : w11.cell? ⟨gb183, 2, none⟩ = some (.int .i64 a0_2) := (blk_cell BK183.out 2).trans rfl
        have hcz47_3 : w11.cell? ⟨gb183, 3, none⟩ = some (.int .i64 a0_3) := (blk_cell BK183.out 3).trans rfl
        have hcz47_4 : w11.cell? ⟨gb183, 4, none⟩ = some (.int .i64 a0_4) := (blk_cell BK183.out 4).trans rfl
        have hcz47_5 : w11.cell? ⟨gb183, 5, none⟩ = some (.int .i64 a0_5) := (blk_cell BK183.out 5).trans rfl
        have hcz47_6 : w11.cell? ⟨gb183, 6, none⟩ = some (.int .i64 a0_6) := (blk_cell BK183.out 6).trans rfl
        have hcz47_7 : w11.cell? ⟨gb183, 7, none⟩ = some (.int .i64 a0_7) := (blk_cell BK183.out 7).trans rfl
        have hcz47_8 : w11.cell? ⟨gb183, 8, none⟩ = some (.int .i64 a0_8) := (blk_cell BK183.out 8).trans rfl
        have hcz47_9 : w11.cell? ⟨gb183, 9, none⟩ = some (.int .i64 a0_9) := (blk_cell BK183.out 9).trans rfl
        have hcz47_10 : w11.cell? ⟨gb183, 10, none⟩ = some (.int .i64 a0_10) := (blk_cell BK183.out 10).trans rfl
        have hcz47_11 : w11.cell? ⟨gb183, 11, none⟩ = some (.int .i64 a0_11) := (blk_cell BK183.out 11).trans rfl
        have hfz47_0 := blk_frozen BK183.out 0
        have hfz47_1 := blk_frozen BK183.out 1
        have hfz47_2 := blk_frozen BK183.out 2
        have hfz47_3 := blk_frozen BK183.out 3
        have hfz47_4 := blk_frozen BK183.out 4
        have hfz47_5 := blk_frozen BK183.out 5
        have hfz47_6 := blk_frozen BK183.out 6
        have hfz47_7 := blk_frozen BK183.out 7
        have hfz47_8 := blk_frozen BK183.out 8
        have hfz47_9 := blk_frozen BK183.out 9
        have hfz47_10 := blk_frozen BK183.out 10
        have hfz47_11 := blk_frozen BK183.out 11
        go_wp2_with (first | ((with_reducible refine gate_callee (f := 18) rfl ?_); refine goesL_ (some 19) rfl rfl Try.func18 (by kernel_rfl) rfl #[.agg #[.int .i64 a0_0, .int .i64 a0_1, .int .i64 a0_2, .int .i64 a0_3, .int .i64 a0_4, .int .i64 a0_5, .int .i64 a0_6, .int .i64 a0_7, .int .i64 a0_8, .int .i64 a0_9, .int .i64 a0_10, .int .i64 a0_11]] rfl (by (try simp only [List.map_toArray, List.map_cons, List.map_nil]); first | done | rfl | (simp only [List.length_drop, List.length_take]; rfl)) ?_; (with_reducible refine (limit_Check.calls k a0_0 a0_1 a0_2 a0_3 a0_4 a0_5 a0_6 a0_7 a0_8 a0_9 a0_10 a0_11 t185 _ A12.out).mono ?_); rintro e w48 ⟨rfl, hb⟩; refine ⟨_, rfl, ?_⟩; have n0_ := Aside0.mk (blk_below (g := gb183) (o := .cells #[.int .i64 a0_0, .int .i64 a0_1, .int .i64 a0_2, .int .i64 a0_3, .int .i64 a0_4, .int .i64 a0_5, .int .i64 a0_6, .int .i64 a0_7, .int .i64 a0_8, .int .i64 a0_9, .int .i64 a0_10, .int .i64 a0_11] 23 (0, 0)) (by (with_reducible repeat (first | refine blk_drewN ?_ _ | refine blk_drew ?_ | refine blk_alloc ?_ _)); exact BK183.out) hb); have n1_ := Aside0.mk (below_step (by repeat (first | (with_reducible first | exact HB.out | apply below_alloc | apply pw_below_drewN | apply below_drew1 | refine below_set ?_ GE183.out) | exact HB.out)) hb); clear BK183; clear HB; have BK183 := n0_; have HB := n1_; clear n0_ n1_; (try clear hb); (try clear hb2); (try clear hk); (try clear hi)))
        go_meet
        case rel => exact ⟨_, (true), (by first | rfl | (simp; done) | (simp [*]; done) | (simp [Int.tdiv_eq_ediv_of_nonneg]; done) | (simp [Go.RowKit.wrap64]; done) | (simp [*, Go.RowKit.wrap64]; done)), H', ⟨by first | omega | exact Nat.le_refl _⟩, ⟨by (with_reducible repeat (first | refine blk_drewN ?_ _ | refine blk_drew ?_ | refine blk_alloc ?_ _)); exact BK183.out⟩, ⟨by repeat (first | (with_reducible first | exact HB.out | apply below_alloc | apply pw_below_drewN | apply below_drew1 | refine below_set ?_ GE183.out) | exact HB.out)⟩⟩
    case rest =>
      clear HC9
      try clear c1
      try clear c2
      try clear p2
      try clear c3
      try clear c4
      try clear c5
      try clear p6
      try clear c8
      try clear c12
      try clear c13
      try clear c13b0
      try clear c13b1
      try clear c14
      try clear c14b0
      try clear c17
      try clear c17b0
      try clear c18
      try clear c20
      try clear c20b0
      try clear c23
      try clear c23b0
      try clear c26
      try clear c26b0
      try clear c29
      try clear c29b0
      try clear c32
      try clear c32b0
      try clear c36
      try clear c36b0
      try clear c40
      try clear c40b0
      try clear hcz15_0
      try clear hcz15_1
      try clear hcz15_10
      try clear hcz15_11
      try clear hcz15_2
      try clear hcz15_3
      try clear hcz15_4
      try clear hcz15_5
      try clear hcz15_6
      try clear hcz15_7
      try clear hcz15_8
      try clear hcz15_9
      try clear hcz18_0
      try clear hcz18_1
      try clear hcz18_10
      try clear hcz18_11
      try clear hcz18_2
      try clear hcz18_3
      try clear hcz18_4
      try clear hcz18_5
      try clear hcz18_6
      try clear hcz18_7
      try clear hcz18_8
      try clear hcz18_9
      try clear hcz21_0
      try clear hcz21_1
      try clear hcz21_10
      try clear hcz21_11
      try clear hcz21_2
      try clear hcz21_3
      try clear hcz21_4
      try clear hcz21_5
      try clear hcz21_6
      try clear hcz21_7
      try clear hcz21_8
      try clear hcz21_9
      try clear hcz24_0
      try clear hcz24_1
      try clear hcz24_10
      try clear hcz24_11
      try clear hcz24_2
      try clear hcz24_3
      try clear hcz24_4
      try clear hcz24_5
      try clear hcz24_6
      try clear hcz24_7
      try clear hcz24_8
      try clear hcz24_9
      try clear hcz27_0
      try clear hcz27_1
      try clear hcz27_10
      try clear hcz27_11
      try clear hcz27_2
      try clear hcz27_3
      try clear hcz27_4
      try clear hcz27_5
      try clear hcz27_6
      try clear hcz27_7
      try clear hcz27_8
      try clear hcz27_9
      try clear hcz30_0
      try clear hcz30_1
      try clear hcz30_10
      try clear hcz30_11
      try clear hcz30_2
      try clear hcz30_3
      try clear hcz30_4
      try clear hcz30_5
      try clear hcz30_6
      try clear hcz30_7
      try clear hcz30_8
      try clear hcz30_9
      try clear hcz33_0
      try clear hcz33_1
      try clear hcz33_10
      try clear hcz33_11
      try clear hcz33_2
      try clear hcz33_3
      try clear hcz33_4
      try clear hcz33_5
      try clear hcz33_6
      try clear hcz33_7
      try clear hcz33_8
      try clear hcz33_9
      try clear hcz35_0
      try clear hcz35_1
      try clear hcz35_10
      try clear hcz35_11
      try clear hcz35_2
      try clear hcz35_3
      try clear hcz35_4
      try clear hcz35_5
      try clear hcz35_6
      try clear hcz35_7
      try clear hcz35_8
      try clear hcz35_9
      try clear hcz37_0
      try clear hcz37_1
      try clear hcz37_10
      try clear hcz37_11
      try clear hcz37_2
      try clear hcz37_3
      try clear hcz37_4
      try clear hcz37_5
      try clear hcz37_6
      try clear hcz37_7
      try clear hcz37_8
      try clear hcz37_9
      try clear hcz39_0
      try clear hcz39_1
      try clear hcz39_10
      try clear hcz39_11
      try clear hcz39_2
      try clear hcz39_3
      try clear hcz39_4
      try clear hcz39_5
      try clear hcz39_6
      try clear hcz39_7
      try clear hcz39_8
      try clear hcz39_9
      try clear hcz41_0
      try clear hcz41_1
      try clear hcz41_10
      try clear hcz41_11
      try clear hcz41_2
      try clear hcz41_3
      try clear hcz41_4
      try clear hcz41_5
      try clear hcz41_6
      try clear hcz41_7
      try clear hcz41_8
      try clear hcz41_9
      try clear hcz43_0
      try clear hcz43_1
      try clear hcz43_10
      try clear hcz43_11
      try clear hcz43_2
      try clear hcz43_3
      try clear hcz43_4
      try clear hcz43_5
      try clear hcz43_6
      try clear hcz43_7
      try clear hcz43_8
      try clear hcz43_9
      try clear hcz44_0
      try clear hcz44_1
      try clear hcz44_10
      try clear hcz44_11
      try clear hcz44_2
      try clear hcz44_3
      try clear hcz44_4
      try clear hcz44_5
      try clear hcz44_6
      try clear hcz44_7
      try clear hcz44_8
      try clear hcz44_9
      try clear hcz46_0
      try clear hcz46_1
      try clear hcz46_10
      try clear hcz46_11
      try clear hcz46_2
      try clear hcz46_3
      try clear hcz46_4
      try clear hcz46_5
      try clear hcz46_6
      try clear hcz46_7
      try clear hcz46_8
      try clear hcz46_9
      try clear hcz47_0
      try clear hcz47_1
      try clear hcz47_10
      try clear hcz47_11
      try clear hcz47_2
      try clear hcz47_3
      try clear hcz47_4
      try clear hcz47_5
      try clear hcz47_6
      try clear hcz47_7
      try clear hcz47_8
      try clear hcz47_9
      try clear hfz15_0
      try clear hfz15_1
      try clear hfz15_10
      try clear hfz15_11
      try clear hfz15_2
      try clear hfz15_3
      try clear hfz15_4
      try clear hfz15_5
      try clear hfz15_6
      try clear hfz15_7
      try clear hfz15_8
      try clear hfz15_9
      try clear hfz18_0
      try clear hfz18_1
      try clear hfz18_10
      try clear hfz18_11
      try clear hfz18_2
      try clear hfz18_3
      try clear hfz18_4
      try clear hfz18_5
      try clear hfz18_6
      try clear hfz18_7
      try clear hfz18_8
      try clear hfz18_9
      try clear hfz21_0
      try clear hfz21_1
      try clear hfz21_10
      try clear hfz21_11
      try clear hfz21_2
      try clear hfz21_3
      try clear hfz21_4
      try clear hfz21_5
      try clear hfz21_6
      try clear hfz21_7
      try clear hfz21_8
      try clear hfz21_9
      try clear hfz24_0
      try clear hfz24_1
      try clear hfz24_10
      try clear hfz24_11
      try clear hfz24_2
      try clear hfz24_3
      try clear hfz24_4
      try clear hfz24_5
      try clear hfz24_6
      try clear hfz24_7
      try clear hfz24_8
      try clear hfz24_9
      try clear hfz27_0
      try clear hfz27_1
      try clear hfz27_10
      try clear hfz27_11
      try clear hfz27_2
      try clear hfz27_3
      try clear hfz27_4
      try clear hfz27_5
      try clear hfz27_6
      try clear hfz27_7
      try clear hfz27_8
      try clear hfz27_9
      try clear hfz30_0
      try clear hfz30_1
      try clear hfz30_10
      try clear hfz30_11
      try clear hfz30_2
      try clear hfz30_3
      try clear hfz30_4
      try clear hfz30_5
      try clear hfz30_6
      try clear hfz30_7
      try clear hfz30_8
      try clear hfz30_9
      try clear hfz33_0
      try clear hfz33_1
      try clear hfz33_10
      try clear hfz33_11
      try clear hfz33_2
      try clear hfz33_3
      try clear hfz33_4
      try clear hfz33_5
      try clear hfz33_6
      try clear hfz33_7
      try clear hfz33_8
      try clear hfz33_9
      try clear hfz35_0
      try clear hfz35_1
      try clear hfz35_10
      try clear hfz35_11
      try clear hfz35_2
      try clear hfz35_3
      try clear hfz35_4
      try clear hfz35_5
      try clear hfz35_6
      try clear hfz35_7
      try clear hfz35_8
      try clear hfz35_9
      try clear hfz37_0
      try clear hfz37_1
      try clear hfz37_10
      try clear hfz37_11
      try clear hfz37_2
      try clear hfz37_3
      try clear hfz37_4
      try clear hfz37_5
      try clear hfz37_6
      try clear hfz37_7
      try clear hfz37_8
      try clear hfz37_9
      try clear hfz39_0
      try clear hfz39_1
      try clear hfz39_10
      try clear hfz39_11
      try clear hfz39_2
      try clear hfz39_3
      try clear hfz39_4
      try clear hfz39_5
      try clear hfz39_6
      try clear hfz39_7
      try clear hfz39_8
      try clear hfz39_9
      try clear hfz41_0
      try clear hfz41_1
      try clear hfz41_10
      try clear hfz41_11
      try clear hfz41_2
      try clear hfz41_3
      try clear hfz41_4
      try clear hfz41_5
      try clear hfz41_6
      try clear hfz41_7
      try clear hfz41_8
      try clear hfz41_9
      try clear hfz43_0
      try clear hfz43_1
      try clear hfz43_10
      try clear hfz43_11
      try clear hfz43_2
      try clear hfz43_3
      try clear hfz43_4
      try clear hfz43_5
      try clear hfz43_6
      try clear hfz43_7
      try clear hfz43_8
      try clear hfz43_9
      try clear hfz44_0
      try clear hfz44_1
      try clear hfz44_10
      try clear hfz44_11
      try clear hfz44_2
      try clear hfz44_3
      try clear hfz44_4
      try clear hfz44_5
      try clear hfz44_6
      try clear hfz44_7
      try clear hfz44_8
      try clear hfz44_9
      try clear hfz46_0
      try clear hfz46_1
      try clear hfz46_10
      try clear hfz46_11
      try clear hfz46_2
      try clear hfz46_3
      try clear hfz46_4
      try clear hfz46_5
      try clear hfz46_6
      try clear hfz46_7
      try clear hfz46_8
      try clear hfz46_9
      try clear hfz47_0
      try clear hfz47_1
      try clear hfz47_10
      try clear hfz47_11
      try clear hfz47_2
      try clear hfz47_3
      try clear hfz47_4
      try clear hfz47_5
      try clear hfz47_6
      try clear hfz47_7
      try clear hfz47_8
      try clear hfz47_9
      obtain ⟨kq, x71_8, rfl, HA, HJ8, BK183, HB⟩ := hcut
      cases kq with
      | zero => exact absurd HA.out (by simp [clepsydralaw12_SlewStays.j0])
      | succ kj8 =>
        have H := HA.out
        clear HA
        simp only [clepsydralaw12_SlewStays.j0] at H
        by_cases c49 : x71_8 = true
        · subst c49
          have H1 : (some true) = some r := by rw [if_pos rfl] at H; exact H
          clear H
          have H := H1
          clear H1
          obtain rfl := Option.some.inj H
          go_wp2
          go_ret
          exact ⟨by first | rfl | (simp [errW_none, errW_some] <;> rfl) | (simp [*, errW_none, errW_some] <;> rfl), by repeat (first | (with_reducible first | exact HB.out | apply below_alloc | apply pw_below_drewN | apply below_drew1 | refine below_set ?_ GE183.out) | exact HB.out)⟩
        · replace c49 := Bool.eq_false_iff.mpr c49
          subst c49
          have H1 : ((slew_Clock_Step.f kj8 (wrap64 (a1 + a3)) true a0_0 a0_1 a0_2 a0_3 a0_4 a0_5 a0_6 a0_7 a0_8 a0_9 a0_10 a0_11 (wrap64 (a0_3 + a4)) (wrap64 ((wrap64 (a1 + a0_3)) + a5)) false).bind fun bt187 => ((slew_Clock_Off.f kj8 bt187.1 bt187.2 (wrap64 (a1 + a0_3))).bind fun t190 => (if t190 ≤ a2 then (some bt187.2) else (some false)))) = some r := by rw [if_neg (show ¬ (false = true) by decide)] at H; exact H
          clear H
          have H := H1
          clear H1
          replace H := Option.bind_eq_some_iff.mp H
          obtain ⟨⟨t187, t188⟩, A500, H⟩ := H
          replace H : ((slew_Clock_Off.f kj8 t187 t188 (wrap64 (a1 + a0_3))).bind fun t190 => (if t190 ≤ a2 then (some t188) else (some false))) = some r := H
          have A50 := Aside0.mk A500
          clear A500
          replace H := Option.bind_eq_some_iff.mp H
          obtain ⟨t190, A510, H⟩ := H
          replace H : (if t190 ≤ a2 then (some t188) else (some false)) = some r := H
          have A51 := Aside0.mk A510
          clear A510
          by_cases c52 : t190 ≤ a2
          · rw [if_pos c52] at H
            have c52b0 : decide (t190 ≤ a2) = true := decide_eq_true c52
            clear c52
            obtain rfl := Option.some.inj H
            go_wp2_with (first | ((with_reducible refine gate_dst (N := 13) rfl ?_); refine box_event ?hg (N := 13) ?hd (cs := #[.int .i64 0, .bool false]) (t := 25) ?hr ?_; (case hd => rfl); (case hg => rfl); (case hr => first | (go_simp; done) | (go_simp; rfl)); intro gb186 hg w53 hbox hb; have n0_ := Aside0.mk (blk_below (g := gb183) (o := .cells #[.int .i64 a0_0, .int .i64 a0_1, .int .i64 a0_2, .int .i64 a0_3, .int .i64 a0_4, .int .i64 a0_5, .int .i64 a0_6, .int .i64 a0_7, .int .i64 a0_8, .int .i64 a0_9, .int .i64 a0_10, .int .i64 a0_11] 23 (0, 0)) (by (with_reducible repeat (first | refine blk_drewN ?_ _ | refine blk_drew ?_ | refine blk_alloc ?_ _)); exact BK183.out) hb); have n1_ := Aside0.mk (below_step (by repeat (first | (with_reducible first | exact HB.out | apply below_alloc | apply pw_below_drewN | apply below_drew1 | refine below_set ?_ GE183.out) | exact HB.out)) hb); have n2_ := Aside0.mk (hbox); have n3_ := Aside0.mk ((by rw [hg]; exact (below_size (by repeat (first | (with_reducible first | exact HB.out | apply below_alloc | apply pw_below_drewN | apply below_drew1 | refine below_set ?_ GE183.out) | exact HB.out))) : w.heap.size ≤ gb186)); have n4_ := Aside0.mk ((by rw [hg]; exact (below_size (by repeat (first | (with_reducible first | exact HB.out | apply below_alloc | apply pw_below_drewN | apply below_drew1 | refine below_set ?_ GE183.out) | exact HB.out))) : w.heap.size ≤ gb186)); have n5_ := Aside0.mk ((by rw [hg]; exact Nat.ne_of_lt (blk_lt (g := gb183) (o := .cells #[.int .i64 a0_0, .int .i64 a0_1, .int .i64 a0_2, .int .i64 a0_3, .int .i64 a0_4, .int .i64 a0_5, .int .i64 a0_6, .int .i64 a0_7, .int .i64 a0_8, .int .i64 a0_9, .int .i64 a0_10, .int .i64 a0_11] 23 (0, 0)) (by (with_reducible repeat (first | refine blk_drewN ?_ _ | refine blk_drew ?_ | refine blk_alloc ?_ _)); exact BK183.out)) : gb183 ≠ gb186)); have n6_ := Aside0.mk ((by rw [hg]; exact Nat.ne_of_gt (blk_lt (g := gb183) (o := .cells #[.int .i64 a0_0, .int .i64 a0_1, .int .i64 a0_2, .int .i64 a0_3, .int .i64 a0_4, .int .i64 a0_5, .int .i64 a0_6, .int .i64 a0_7, .int .i64 a0_8, .int .i64 a0_9, .int .i64 a0_10, .int .i64 a0_11] 23 (0, 0)) (by (with_reducible repeat (first | refine blk_drewN ?_ _ | refine blk_drew ?_ | refine blk_alloc ?_ _)); exact BK183.out)) : gb186 ≠ gb183)); clear BK183; clear HB; have BK183 := n0_; have HB := n1_; have BK186 := n2_; have GW186 := n3_; have GE186 := n4_; have NB183_186 := n5_; have NB186_183 := n6_; clear n0_ n1_ n2_ n3_ n4_ n5_ n6_; clear hb hbox hg; have hnb54 := NB186_183.out; have hnc54 := NB183_186.out; have hcz55_0 : w53.cell? ⟨gb186, 0, none⟩ = some (.int .i64 0) := (blk_cell BK186.out 0).trans rfl; have hcz55_1 : w53.cell? ⟨gb186, 1, none⟩ = some (.bool false) := (blk_cell BK186.out 1).trans rfl; have hfz55_0 := blk_frozen BK186.out 0; have hfz55_1 := blk_frozen BK186.out 1; have hcz56_0 : w53.cell? ⟨gb183, 0, none⟩ = some (.int .i64 a0_0) := (blk_cell BK183.out 0).trans rfl; have hcz56_1 : w53.cell? ⟨gb183, 1, none⟩ = some (.int .i64 a0_1) := (blk_cell BK183.out 1).trans rfl; have hcz56_2 : w53.cell? ⟨gb183, 2, none⟩ = some (.int .i64 a0_2) := (blk_cell BK183.out 2).trans rfl; have hcz56_3 : w53.cell? ⟨gb183, 3, none⟩ = some (.int .i64 a0_3) := (blk_cell BK183.out 3).trans rfl; have hcz56_4 : w53.cell? ⟨gb183, 4, none⟩ = some (.int .i64 a0_4) := (blk_cell BK183.out 4).trans rfl; have hcz56_5 : w53.cell? ⟨gb183, 5, none⟩ = some (.int .i64 a0_5) := (blk_cell BK183.out 5).trans rfl; have hcz56_6 : w53.cell? ⟨gb183, 6, none⟩ = some (.int .i64 a0_6) := (blk_cell BK183.out 6).trans rfl; have hcz56_7 : w53.cell? ⟨gb183, 7, none⟩ = some (.int .i64 a0_7) := (blk_cell BK183.out 7).trans rfl; have hcz56_8 : w53.cell? ⟨gb183, 8, none⟩ = some (.int .i64 a0_8) := (blk_cell BK183.out 8).trans rfl; have hcz56_9 : w53.cell? ⟨gb183, 9, none⟩ = some (.int .i64 a0_9) := (blk_cell BK183.out 9).trans rfl; have hcz56_10 : w53.cell? ⟨gb183, 10, none⟩ = some (.int .i64 a0_10) := (blk_cell BK183.out 10).trans rfl; have hcz56_11 : w53.cell? ⟨gb183, 11, none⟩ = some (.int .i64 a0_11) := (blk_cell BK183.out 11).trans rfl; have hfz56_0 := blk_frozen BK183.out 0; have hfz56_1 := blk_frozen BK183.out 1; have hfz56_2 := blk_frozen BK183.out 2; have hfz56_3 := blk_frozen BK183.out 3; have hfz56_4 := blk_frozen BK183.out 4; have hfz56_5 := blk_frozen BK183.out 5; have hfz56_6 := blk_frozen BK183.out 6; have hfz56_7 := blk_frozen BK183.out 7; have hfz56_8 := blk_frozen BK183.out 8; have hfz56_9 := blk_frozen BK183.out 9; have hfz56_10 := blk_frozen BK183.out 10; have hfz56_11 := blk_frozen BK183.out 11) | ((with_reducible refine gate_callee (f := 16) rfl ?_); refine goesL_ (some 89) rfl rfl Try.func16 (by kernel_rfl) rfl #[.agg #[.int .i64 (wrap64 (a1 + a3)), .bool true], .agg #[.int .i64 a0_0, .int .i64 a0_1, .int .i64 a0_2, .int .i64 a0_3, .int .i64 a0_4, .int .i64 a0_5, .int .i64 a0_6, .int .i64 a0_7, .int .i64 a0_8, .int .i64 a0_9, .int .i64 a0_10, .int .i64 a0_11], .int .i64 (wrap64 (a0_3 + a4)), .int .i64 (wrap64 ((wrap64 (a1 + a0_3)) + a5)), .bool false] rfl (by (try simp only [List.map_toArray, List.map_cons, List.map_nil]); first | done | rfl | (simp only [List.length_drop, List.length_take]; rfl)) ?_; (with_reducible refine (slew_Clock_Step.calls kj8 (wrap64 (a1 + a3)) true a0_0 a0_1 a0_2 a0_3 a0_4 a0_5 a0_6 a0_7 a0_8 a0_9 a0_10 a0_11 (wrap64 (a0_3 + a4)) (wrap64 ((wrap64 (a1 + a0_3)) + a5)) false t187 t188 _ A50.out).mono ?_); rintro e w57 ⟨rfl, hb⟩; refine ⟨_, rfl, ?_⟩; have n0_ := Aside0.mk (blk_below (g := gb183) (o := .cells #[.int .i64 a0_0, .int .i64 a0_1, .int .i64 a0_2, .int .i64 a0_3, .int .i64 a0_4, .int .i64 a0_5, .int .i64 a0_6, .int .i64 a0_7, .int .i64 a0_8, .int .i64 a0_9, .int .i64 a0_10, .int .i64 a0_11] 23 (0, 0)) (by (with_reducible repeat (first | refine blk_drewN ?_ _ | refine blk_drew ?_ | refine blk_alloc ?_ _)); refine blk_far ?_ NB183_186.out _; (with_reducible repeat (first | refine blk_drewN ?_ _ | refine blk_drew ?_ | refine blk_alloc ?_ _)); refine blk_far ?_ NB183_186.out _; (with_reducible repeat (first | refine blk_drewN ?_ _ | refine blk_drew ?_ | refine blk_alloc ?_ _)); exact BK183.out) hb); have n1_ := Aside0.mk (blk_below (g := gb186) (o := .cells #[.int .i64 (wrap64 (a1 + a3)), .bool true] 25 (0, 0)) (by (with_reducible repeat (first | refine blk_drewN ?_ _ | refine blk_drew ?_ | refine blk_alloc ?_ _)); refine blk_put (cs := #[.int .i64 (wrap64 (a1 + a3)), .bool false]) ?_ 1 _ rfl; (with_reducible repeat (first | refine blk_drewN ?_ _ | refine blk_drew ?_ | refine blk_alloc ?_ _)); refine blk_put (cs := #[.int .i64 0, .bool false]) ?_ 0 _ rfl; (with_reducible repeat (first | refine blk_drewN ?_ _ | refine blk_drew ?_ | refine blk_alloc ?_ _)); exact BK186.out) hb); have n2_ := Aside0.mk (below_step (by repeat (first | (with_reducible first | exact HB.out | apply below_alloc | apply pw_below_drewN | apply below_drew1 | refine below_set ?_ GE183.out | refine below_set ?_ GE186.out) | exact HB.out)) hb); clear BK183; clear BK186; clear HB; have BK183 := n0_; have BK186 := n1_; have HB := n2_; clear n0_ n1_ n2_; (try clear hb); (try clear hb2); (try clear hk); (try clear hi)) | ((with_reducible refine gate_dst (N := 15) rfl ?_); refine box_event ?hg (N := 15) ?hd (cs := #[.int .i64 0, .bool false]) (t := 25) ?hr ?_; (case hd => rfl); (case hg => rfl); (case hr => first | (go_simp; done) | (go_simp; rfl)); intro gb189 hg w58 hbox hb; have n0_ := Aside0.mk (blk_below (g := gb183) (o := .cells #[.int .i64 a0_0, .int .i64 a0_1, .int .i64 a0_2, .int .i64 a0_3, .int .i64 a0_4, .int .i64 a0_5, .int .i64 a0_6, .int .i64 a0_7, .int .i64 a0_8, .int .i64 a0_9, .int .i64 a0_10, .int .i64 a0_11] 23 (0, 0)) (by (with_reducible repeat (first | refine blk_drewN ?_ _ | refine blk_drew ?_ | refine blk_alloc ?_ _)); exact BK183.out) hb); have n1_ := Aside0.mk (blk_below (g := gb186) (o := .cells #[.int .i64 (wrap64 (a1 + a3)), .bool true] 25 (0, 0)) (by (with_reducible repeat (first | refine blk_drewN ?_ _ | refine blk_drew ?_ | refine blk_alloc ?_ _)); exact BK186.out) hb); have n2_ := Aside0.mk (below_step (by repeat (first | (with_reducible first | exact HB.out | apply below_alloc | apply pw_below_drewN | apply below_drew1 | refine below_set ?_ GE183.out | refine below_set ?_ GE186.out) | exact HB.out)) hb); have n3_ := Aside0.mk (hbox); have n4_ := Aside0.mk ((by rw [hg]; exact (below_size (by repeat (first | (with_reducible first | exact HB.out | apply below_alloc | apply pw_below_drewN | apply below_drew1 | refine below_set ?_ GE183.out | refine below_set ?_ GE186.out) | exact HB.out))) : w.heap.size ≤ gb189)); have n5_ := Aside0.mk ((by rw [hg]; exact (below_size (by repeat (first | (with_reducible first | exact HB.out | apply below_alloc | apply pw_below_drewN | apply below_drew1 | refine below_set ?_ GE183.out | refine below_set ?_ GE186.out) | exact HB.out))) : w.heap.size ≤ gb189)); have n6_ := Aside0.mk ((by rw [hg]; exact Nat.ne_of_lt (blk_lt (g := gb183) (o := .cells #[.int .i64 a0_0, .int .i64 a0_1, .int .i64 a0_2, .int .i64 a0_3, .int .i64 a0_4, .int .i64 a0_5, .int .i64 a0_6, .int .i64 a0_7, .int .i64 a0_8, .int .i64 a0_9, .int .i64 a0_10, .int .i64 a0_11] 23 (0, 0)) (by (with_reducible repeat (first | refine blk_drewN ?_ _ | refine blk_drew ?_ | refine blk_alloc ?_ _)); exact BK183.out)) : gb183 ≠ gb189)); have n7_ := Aside0.mk ((by rw [hg]; exact Nat.ne_of_gt (blk_lt (g := gb183) (o := .cells #[.int .i64 a0_0, .int .i64 a0_1, .int .i64 a0_2, .int .i64 a0_3, .int .i64 a0_4, .int .i64 a0_5, .int .i64 a0_6, .int .i64 a0_7, .int .i64 a0_8, .int .i64 a0_9, .int .i64 a0_10, .int .i64 a0_11] 23 (0, 0)) (by (with_reducible repeat (first | refine blk_drewN ?_ _ | refine blk_drew ?_ | refine blk_alloc ?_ _)); exact BK183.out)) : gb189 ≠ gb183)); have n8_ := Aside0.mk ((by rw [hg]; exact Nat.ne_of_lt (blk_lt (g := gb186) (o := .cells #[.int .i64 (wrap64 (a1 + a3)), .bool true] 25 (0, 0)) (by (with_reducible repeat (first | refine blk_drewN ?_ _ | refine blk_drew ?_ | refine blk_alloc ?_ _)); exact BK186.out)) : gb186 ≠ gb189)); have n9_ := Aside0.mk ((by rw [hg]; exact Nat.ne_of_gt (blk_lt (g := gb186) (o := .cells #[.int .i64 (wrap64 (a1 + a3)), .bool true] 25 (0, 0)) (by (with_reducible repeat (first | refine blk_drewN ?_ _ | refine blk_drew ?_ | refine blk_alloc ?_ _)); exact BK186.out)) : gb189 ≠ gb186)); clear BK183; clear BK186; clear HB; have BK183 := n0_; have BK186 := n1_; have HB := n2_; have BK189 := n3_; have GW189 := n4_; have GE189 := n5_; have NB183_189 := n6_; have NB189_183 := n7_; have NB186_189 := n8_; have NB189_186 := n9_; clear n0_ n1_ n2_ n3_ n4_ n5_ n6_ n7_ n8_ n9_; clear hb hbox hg; have hnb59 := NB189_183.out; have hnc59 := NB183_189.out; have hnb60 := NB189_186.out; have hnc60 := NB186_189.out; have hcz61_0 : w58.cell? ⟨gb189, 0, none⟩ = some (.int .i64 0) := (blk_cell BK189.out 0).trans rfl; have hcz61_1 : w58.cell? ⟨gb189, 1, none⟩ = some (.bool false) := (blk_cell BK189.out 1).trans rfl; have hfz61_0 := blk_frozen BK189.out 0; have hfz61_1 := blk_frozen BK189.out 1) | ((with_reducible refine gate_callee (f := 17) rfl ?_); refine goesL_ (some 92) rfl rfl Try.func17 (by kernel_rfl) rfl #[.agg #[.int .i64 t187, .bool t188], .int .i64 (wrap64 (a1 + a0_3))] rfl (by (try simp only [List.map_toArray, List.map_cons, List.map_nil]); first | done | rfl | (simp only [List.length_drop, List.length_take]; rfl)) ?_; (with_reducible refine (slew_Clock_Off.calls kj8 t187 t188 (wrap64 (a1 + a0_3)) t190 _ A51.out).mono ?_); rintro e w62 ⟨rfl, hb⟩; refine ⟨_, rfl, ?_⟩; have n0_ := Aside0.mk (blk_below (g := gb183) (o := .cells #[.int .i64 a0_0, .int .i64 a0_1, .int .i64 a0_2, .int .i64 a0_3, .int .i64 a0_4, .int .i64 a0_5, .int .i64 a0_6, .int .i64 a0_7, .int .i64 a0_8, .int .i64 a0_9, .int .i64 a0_10, .int .i64 a0_11] 23 (0, 0)) (by (with_reducible repeat (first | refine blk_drewN ?_ _ | refine blk_drew ?_ | refine blk_alloc ?_ _)); refine blk_far ?_ NB183_189.out _; (with_reducible repeat (first | refine blk_drewN ?_ _ | refine blk_drew ?_ | refine blk_alloc ?_ _)); refine blk_far ?_ NB183_189.out _; (with_reducible repeat (first | refine blk_drewN ?_ _ | refine blk_drew ?_ | refine blk_alloc ?_ _)); exact BK183.out) hb); have n1_ := Aside0.mk (blk_below (g := gb186) (o := .cells #[.int .i64 (wrap64 (a1 + a3)), .bool true] 25 (0, 0)) (by (with_reducible repeat (first | refine blk_drewN ?_ _ | refine blk_drew ?_ | refine blk_alloc ?_ _)); refine blk_far ?_ NB186_189.out _; (with_reducible repeat (first | refine blk_drewN ?_ _ | refine blk_drew ?_ | refine blk_alloc ?_ _)); refine blk_far ?_ NB186_189.out _; (with_reducible repeat (first | refine blk_drewN ?_ _ | refine blk_drew ?_ | refine blk_alloc ?_ _)); exact BK186.out) hb); have n2_ := Aside0.mk (blk_below (g := gb189) (o := .cells #[.int .i64 t187, .bool t188] 25 (0, 0)) (by (with_reducible repeat (first | refine blk_drewN ?_ _ | refine blk_drew ?_ | refine blk_alloc ?_ _)); refine blk_put (cs := #[.int .i64 t187, .bool false]) ?_ 1 _ rfl; (with_reducible repeat (first | refine blk_drewN ?_ _ | refine blk_drew ?_ | refine blk_alloc ?_ _)); refine blk_put (cs := #[.int .i64 0, .bool false]) ?_ 0 _ rfl; (with_reducible repeat (first | refine blk_drewN ?_ _ | refine blk_drew ?_ | refine blk_alloc ?_ _)); exact BK189.out) hb); have n3_ := Aside0.mk (below_step (by repeat (first | (with_reducible first | exact HB.out | apply below_alloc | apply pw_below_drewN | apply below_drew1 | refine below_set ?_ GE183.out | refine below_set ?_ GE186.out | refine below_set ?_ GE189.out) | exact HB.out)) hb); clear BK183; clear BK186; clear BK189; clear HB; have BK183 := n0_; have BK186 := n1_; have BK189 := n2_; have HB := n3_; clear n0_ n1_ n2_ n3_; (try clear hb); (try clear hb2); (try clear hk); (try clear hi); have hcz63_0 : w62.cell? ⟨gb189, 0, none⟩ = some (.int .i64 t187) := (blk_cell BK189.out 0).trans rfl; have hcz63_1 : w62.cell? ⟨gb189, 1, none⟩ = some (.bool t188) := (blk_cell BK189.out 1).trans rfl; have hfz63_0 := blk_frozen BK189.out 0; have hfz63_1 := blk_frozen BK189.out 1))
            go_ret
            exact ⟨by first | rfl | (simp [errW_none, errW_some] <;> rfl) | (simp [*, errW_none, errW_some] <;> rfl), by repeat (first | (with_reducible first | exact HB.out | apply below_alloc | apply pw_below_drewN | apply below_drew1 | refine below_set ?_ GE183.out | refine below_set ?_ GE186.out | refine below_set ?_ GE189.out) | exact HB.out)⟩
          · rw [if_neg c52] at H
            have c52b0 : decide (t190 ≤ a2) = false := decide_eq_false c52
            clear c52
            exact absurd ((Option.some.inj H).trans hT.out) (by decide)
  · replace c8 := Bool.eq_false_iff.mpr c8
    subst c8
    have H1 : (some false) = some r := by rw [if_neg (show ¬ (false = true) by decide)] at H; exact H
    clear H
    have H := H1
    clear H1
    exact absurd ((Option.some.inj H).trans hT.out) (by decide)

end Go.Proofs.Ytopnmlambbimpaa.Q
