/- The calls of these Go functions answer what the Lean functions beside them answer; written by a program (wip/pr2.py, out of the print of the loaded program); under no condition but those that stand in the theorems. -/
import Derived.Test.YtigpigfoahlfjaaQx0
import Derived.Test.YtigpigfoahlfjaaQx6
import Derived.Test.YtigpigfoahlfjaaQx7
import Derived.Test.YtigpigfoahlfjaaQx8
import Derived.Test.YtigpigfoahlfjaaQx18
namespace Go.Proofs.Ytigpigfoahlfjaa.Q
open Go.RowKit Go.Proofs.YtigpigfoahlfjaaW.PrintWords Go.Proofs.YtigpigfoahlfjaaW.PrintLast Go.Proofs.YtigpigfoahlfjaaW.PrintMore
attribute [local go_sem] max2_int min2_int max_two min_two max_three min_three max_four min_four   -- for this text's walks alone
set_option linter.unusedVariables false
set_option linter.unusedSimpArgs false

/-! ### clepsydralaw11_CarryBrings: function 4 -/
def clepsydralaw11_CarryBrings.j0 : Nat → Int → Int → Int → Bool → Int → Int → Int → Int → Int → Int → Int → Int → Int → Int → Int → Int → Int → Int → Option (Bool)
  | 0, _, _, _, _, _, _, _, _, _, _, _, _, _, _, _, _, _, _ => none
  | k + 1, x2, x3, x4, x67, x292000, x292001, x292002, x292003, x292004, x292005, x292006, x292007, x292008, x292009, x292010, x292011, x293000, x293001 => if x67 = true then (some true) else ((carry_Way.f k x292000 x292001 x292002 x292003 x292004 x292005 x292006 x292007 x292008 x292009 x292010 x292011 x293000 x293001 (wrap64 ((wrap64 (x292003 - x3)) + x4))).bind fun bt295 => ((carry_Ages.f k x292000 x292001 x292002 x292003 x292004 x292005 x292006 x292007 x292008 x292009 x292010 x292011).bind fun bt298 => (if bt295.1 ≤ (wrap64 (x2 + x292003)) then (if (wrap64 (x2 + x292003)) ≤ bt295.2 then (if bt298.1 ≤ (wrap64 ((wrap64 (x292003 - x3)) + x4)) then (some (decide ((wrap64 ((wrap64 (x292003 - x3)) + x4)) ≤ bt298.2))) else (some false)) else (some false)) else (some false))))
def clepsydralaw11_CarryBrings.f (k : Nat) (a0_0 : Int) (a0_1 : Int) (a0_2 : Int) (a0_3 : Int) (a0_4 : Int) (a0_5 : Int) (a0_6 : Int) (a0_7 : Int) (a0_8 : Int) (a0_9 : Int) (a0_10 : Int) (a0_11 : Int) (a1_0 : Int) (a1_1 : Int) (a2 : Int) (a3 : Int) (a4 : Int) : Option (Bool) := (clepsydralaw11_alive.f k).bind fun t293 => (if t293 = true then ((limit_Check.f k a0_0 a0_1 a0_2 a0_3 a0_4 a0_5 a0_6 a0_7 a0_8 a0_9 a0_10 a0_11).bind fun t294 => (if t294 = 0 then (if a2 > 1152921504606846976 then (clepsydralaw11_CarryBrings.j0 k a2 a3 a4 true a0_0 a0_1 a0_2 a0_3 a0_4 a0_5 a0_6 a0_7 a0_8 a0_9 a0_10 a0_11 a1_0 a1_1) else (if a2 < (-1152921504606846976) then (clepsydralaw11_CarryBrings.j0 k a2 a3 a4 true a0_0 a0_1 a0_2 a0_3 a0_4 a0_5 a0_6 a0_7 a0_8 a0_9 a0_10 a0_11 a1_0 a1_1) else (if a2 < a1_0 then (clepsydralaw11_CarryBrings.j0 k a2 a3 a4 true a0_0 a0_1 a0_2 a0_3 a0_4 a0_5 a0_6 a0_7 a0_8 a0_9 a0_10 a0_11 a1_0 a1_1) else (if a2 > a1_1 then (clepsydralaw11_CarryBrings.j0 k a2 a3 a4 true a0_0 a0_1 a0_2 a0_3 a0_4 a0_5 a0_6 a0_7 a0_8 a0_9 a0_10 a0_11 a1_0 a1_1) else (if a4 > a0_4 then (clepsydralaw11_CarryBrings.j0 k a2 a3 a4 true a0_0 a0_1 a0_2 a0_3 a0_4 a0_5 a0_6 a0_7 a0_8 a0_9 a0_10 a0_11 a1_0 a1_1) else (if a4 < (wrap64 (-a0_4)) then (clepsydralaw11_CarryBrings.j0 k a2 a3 a4 true a0_0 a0_1 a0_2 a0_3 a0_4 a0_5 a0_6 a0_7 a0_8 a0_9 a0_10 a0_11 a1_0 a1_1) else (if a3 > a0_5 then (clepsydralaw11_CarryBrings.j0 k a2 a3 a4 true a0_0 a0_1 a0_2 a0_3 a0_4 a0_5 a0_6 a0_7 a0_8 a0_9 a0_10 a0_11 a1_0 a1_1) else (clepsydralaw11_CarryBrings.j0 k a2 a3 a4 (decide (a3 < (wrap64 (a0_5 - a0_6)))) a0_0 a0_1 a0_2 a0_3 a0_4 a0_5 a0_6 a0_7 a0_8 a0_9 a0_10 a0_11 a1_0 a1_1)))))))) else (clepsydralaw11_CarryBrings.j0 k a2 a3 a4 true a0_0 a0_1 a0_2 a0_3 a0_4 a0_5 a0_6 a0_7 a0_8 a0_9 a0_10 a0_11 a1_0 a1_1))) else (some false))
theorem clepsydralaw11_CarryBrings.mono_l : ∀ k, (∀ y0 y1 y2 y3 y4 y5 y6 y7 y8 y9 y10 y11 y12 y13 y14 y15 y16 y17, LeO (clepsydralaw11_CarryBrings.j0 k y0 y1 y2 y3 y4 y5 y6 y7 y8 y9 y10 y11 y12 y13 y14 y15 y16 y17) (clepsydralaw11_CarryBrings.j0 (k + 1) y0 y1 y2 y3 y4 y5 y6 y7 y8 y9 y10 y11 y12 y13 y14 y15 y16 y17))
  | 0 => fun _ _ _ _ _ _ _ _ _ _ _ _ _ _ _ _ _ _ r h => by simp [clepsydralaw11_CarryBrings.j0] at h
  | k + 1 => by
    have ih0 := clepsydralaw11_CarryBrings.mono_l k
    · intro y0 y1 y2 y3 y4 y5 y6 y7 y8 y9 y10 y11 y12 y13 y14 y15 y16 y17
      unfold clepsydralaw11_CarryBrings.j0
      repeat' first
      | (with_reducible exact ih0 _ _ _ _ _ _ _ _ _ _ _ _ _ _ _ _ _ _)
      | (with_reducible exact carry_Ages.mono _ _ _ _ _ _ _ _ _ _ _ _ _)
      | (with_reducible exact carry_Way.mono _ _ _ _ _ _ _ _ _ _ _ _ _ _ _ _)
      | (with_reducible exact clepsydralaw11_alive.mono _)
      | (with_reducible exact limit_Check.mono _ _ _ _ _ _ _ _ _ _ _ _ _)
      | (with_reducible exact LeO.refl _)
      | (with_reducible exact LeO.none _)
      | (with_reducible refine LeO.ite ?_ ?_)
      | (with_reducible refine LeO.bind ?_ (fun _ => ?_))
      | exact ih0 _ _ _ _ _ _ _ _ _ _ _ _ _ _ _ _ _ _
      | exact carry_Ages.mono _ _ _ _ _ _ _ _ _ _ _ _ _
      | exact carry_Way.mono _ _ _ _ _ _ _ _ _ _ _ _ _ _ _ _
      | exact clepsydralaw11_alive.mono _
      | exact limit_Check.mono _ _ _ _ _ _ _ _ _ _ _ _ _
      | exact LeO.none _
      | refine LeO.ite ?_ ?_
      | refine LeO.bind ?_ (fun _ => ?_)
theorem clepsydralaw11_CarryBrings.mono : ∀ a0 a1 a2 a3 a4 a5 a6 a7 a8 a9 a10 a11 a12 a13 a14 a15 a16 k, LeO (clepsydralaw11_CarryBrings.f k a0 a1 a2 a3 a4 a5 a6 a7 a8 a9 a10 a11 a12 a13 a14 a15 a16) (clepsydralaw11_CarryBrings.f (k + 1) a0 a1 a2 a3 a4 a5 a6 a7 a8 a9 a10 a11 a12 a13 a14 a15 a16) := by
  intro a0 a1 a2 a3 a4 a5 a6 a7 a8 a9 a10 a11 a12 a13 a14 a15 a16 k
  have ih0 := clepsydralaw11_CarryBrings.mono_l k
  unfold clepsydralaw11_CarryBrings.f
  repeat' first
      | (with_reducible exact ih0 _ _ _ _ _ _ _ _ _ _ _ _ _ _ _ _ _ _)
      | (with_reducible exact carry_Ages.mono _ _ _ _ _ _ _ _ _ _ _ _ _)
      | (with_reducible exact carry_Way.mono _ _ _ _ _ _ _ _ _ _ _ _ _ _ _ _)
      | (with_reducible exact clepsydralaw11_alive.mono _)
      | (with_reducible exact limit_Check.mono _ _ _ _ _ _ _ _ _ _ _ _ _)
      | (with_reducible exact LeO.refl _)
      | (with_reducible exact LeO.none _)
      | (with_reducible refine LeO.ite ?_ ?_)
      | (with_reducible refine LeO.bind ?_ (fun _ => ?_))
      | exact ih0 _ _ _ _ _ _ _ _ _ _ _ _ _ _ _ _ _ _
      | exact carry_Ages.mono _ _ _ _ _ _ _ _ _ _ _ _ _
      | exact carry_Way.mono _ _ _ _ _ _ _ _ _ _ _ _ _ _ _ _
      | exact clepsydralaw11_alive.mono _
      | exact limit_Check.mono _ _ _ _ _ _ _ _ _ _ _ _ _
      | exact LeO.none _
      | refine LeO.ite ?_ ?_
      | refine LeO.bind ?_ (fun _ => ?_)
set_option maxHeartbeats 8000000 in
set_option maxRecDepth 100000 in
theorem clepsydralaw11_CarryBrings.calls (k : Nat) (a0_0 : Int) (a0_1 : Int) (a0_2 : Int) (a0_3 : Int) (a0_4 : Int) (a0_5 : Int) (a0_6 : Int) (a0_7 : Int) (a0_8 : Int) (a0_9 : Int) (a0_10 : Int) (a0_11 : Int) (a1_0 : Int) (a1_1 : Int) (a2 : Int) (a3 : Int) (a4 : Int) (r : Bool) (w : World) (hT : Aside0 (r = true)) (h : clepsydralaw11_CarryBrings.f k a0_0 a0_1 a0_2 a0_3 a0_4 a0_5 a0_6 a0_7 a0_8 a0_9 a0_10 a0_11 a1_0 a1_1 a2 a3 a4 = some r) :
    Calls Try.prog 4 #[.agg #[.int .i64 a0_0, .int .i64 a0_1, .int .i64 a0_2, .int .i64 a0_3, .int .i64 a0_4, .int .i64 a0_5, .int .i64 a0_6, .int .i64 a0_7, .int .i64 a0_8, .int .i64 a0_9, .int .i64 a0_10, .int .i64 a0_11], .agg #[.int .i64 a1_0, .int .i64 a1_1], .int .i64 a2, .int .i64 a3, .int .i64 a4] w fun e w' => e = .returned (.bool r) ∧ Below w.heap.size w w' := by
  have hu23 := Try.underlying23
  have hu25 := Try.underlying25
  have HB := Aside0.mk (Below.refl w.heap.size w)
  have H : ((clepsydralaw11_alive.f k).bind fun t293 => (if t293 = true then ((limit_Check.f k a0_0 a0_1 a0_2 a0_3 a0_4 a0_5 a0_6 a0_7 a0_8 a0_9 a0_10 a0_11).bind fun t294 => (if t294 = 0 then (if a2 > 1152921504606846976 then (clepsydralaw11_CarryBrings.j0 k a2 a3 a4 true a0_0 a0_1 a0_2 a0_3 a0_4 a0_5 a0_6 a0_7 a0_8 a0_9 a0_10 a0_11 a1_0 a1_1) else (if a2 < (-1152921504606846976) then (clepsydralaw11_CarryBrings.j0 k a2 a3 a4 true a0_0 a0_1 a0_2 a0_3 a0_4 a0_5 a0_6 a0_7 a0_8 a0_9 a0_10 a0_11 a1_0 a1_1) else (if a2 < a1_0 then (clepsydralaw11_CarryBrings.j0 k a2 a3 a4 true a0_0 a0_1 a0_2 a0_3 a0_4 a0_5 a0_6 a0_7 a0_8 a0_9 a0_10 a0_11 a1_0 a1_1) else (if a2 > a1_1 then (clepsydralaw11_CarryBrings.j0 k a2 a3 a4 true a0_0 a0_1 a0_2 a0_3 a0_4 a0_5 a0_6 a0_7 a0_8 a0_9 a0_10 a0_11 a1_0 a1_1) else (if a4 > a0_4 then (clepsydralaw11_CarryBrings.j0 k a2 a3 a4 true a0_0 a0_1 a0_2 a0_3 a0_4 a0_5 a0_6 a0_7 a0_8 a0_9 a0_10 a0_11 a1_0 a1_1) else (if a4 < (wrap64 (-a0_4)) then (clepsydralaw11_CarryBrings.j0 k a2 a3 a4 true a0_0 a0_1 a0_2 a0_3 a0_4 a0_5 a0_6 a0_7 a0_8 a0_9 a0_10 a0_11 a1_0 a1_1) else (if a3 > a0_5 then (clepsydralaw11_CarryBrings.j0 k a2 a3 a4 true a0_0 a0_1 a0_2 a0_3 a0_4 a0_5 a0_6 a0_7 a0_8 a0_9 a0_10 a0_11 a1_0 a1_1) else (clepsydralaw11_CarryBrings.j0 k a2 a3 a4 (decide (a3 < (wrap64 (a0_5 - a0_6)))) a0_0 a0_1 a0_2 a0_3 a0_4 a0_5 a0_6 a0_7 a0_8 a0_9 a0_10 a0_11 a1_0 a1_1)))))))) else (clepsydralaw11_CarryBrings.j0 k a2 a3 a4 true a0_0 a0_1 a0_2 a0_3 a0_4 a0_5 a0_6 a0_7 a0_8 a0_9 a0_10 a0_11 a1_0 a1_1))) else (some false))) = some r := h
  clear h
  replace H := Option.bind_eq_some_iff.mp H
  obtain ⟨t293, A60, H⟩ := H
  replace H : (if t293 = true then ((limit_Check.f k a0_0 a0_1 a0_2 a0_3 a0_4 a0_5 a0_6 a0_7 a0_8 a0_9 a0_10 a0_11).bind fun t294 => (if t294 = 0 then (if a2 > 1152921504606846976 then (clepsydralaw11_CarryBrings.j0 k a2 a3 a4 true a0_0 a0_1 a0_2 a0_3 a0_4 a0_5 a0_6 a0_7 a0_8 a0_9 a0_10 a0_11 a1_0 a1_1) else (if a2 < (-1152921504606846976) then (clepsydralaw11_CarryBrings.j0 k a2 a3 a4 true a0_0 a0_1 a0_2 a0_3 a0_4 a0_5 a0_6 a0_7 a0_8 a0_9 a0_10 a0_11 a1_0 a1_1) else (if a2 < a1_0 then (clepsydralaw11_CarryBrings.j0 k a2 a3 a4 true a0_0 a0_1 a0_2 a0_3 a0_4 a0_5 a0_6 a0_7 a0_8 a0_9 a0_10 a0_11 a1_0 a1_1) else (if a2 > a1_1 then (clepsydralaw11_CarryBrings.j0 k a2 a3 a4 true a0_0 a0_1 a0_2 a0_3 a0_4 a0_5 a0_6 a0_7 a0_8 a0_9 a0_10 a0_11 a1_0 a1_1) else (if a4 > a0_4 then (clepsydralaw11_CarryBrings.j0 k a2 a3 a4 true a0_0 a0_1 a0_2 a0_3 a0_4 a0_5 a0_6 a0_7 a0_8 a0_9 a0_10 a0_11 a1_0 a1_1) else (if a4 < (wrap64 (-a0_4)) then (clepsydralaw11_CarryBrings.j0 k a2 a3 a4 true a0_0 a0_1 a0_2 a0_3 a0_4 a0_5 a0_6 a0_7 a0_8 a0_9 a0_10 a0_11 a1_0 a1_1) else (if a3 > a0_5 then (clepsydralaw11_CarryBrings.j0 k a2 a3 a4 true a0_0 a0_1 a0_2 a0_3 a0_4 a0_5 a0_6 a0_7 a0_8 a0_9 a0_10 a0_11 a1_0 a1_1) else (clepsydralaw11_CarryBrings.j0 k a2 a3 a4 (decide (a3 < (wrap64 (a0_5 - a0_6)))) a0_0 a0_1 a0_2 a0_3 a0_4 a0_5 a0_6 a0_7 a0_8 a0_9 a0_10 a0_11 a1_0 a1_1)))))))) else (clepsydralaw11_CarryBrings.j0 k a2 a3 a4 true a0_0 a0_1 a0_2 a0_3 a0_4 a0_5 a0_6 a0_7 a0_8 a0_9 a0_10 a0_11 a1_0 a1_1))) else (some false)) = some r := H
  have A6 := Aside0.mk A60
  clear A60
  by_cases c7 : t293 = true
  · subst c7
    have H1 : ((limit_Check.f k a0_0 a0_1 a0_2 a0_3 a0_4 a0_5 a0_6 a0_7 a0_8 a0_9 a0_10 a0_11).bind fun t294 => (if t294 = 0 then (if a2 > 1152921504606846976 then (clepsydralaw11_CarryBrings.j0 k a2 a3 a4 true a0_0 a0_1 a0_2 a0_3 a0_4 a0_5 a0_6 a0_7 a0_8 a0_9 a0_10 a0_11 a1_0 a1_1) else (if a2 < (-1152921504606846976) then (clepsydralaw11_CarryBrings.j0 k a2 a3 a4 true a0_0 a0_1 a0_2 a0_3 a0_4 a0_5 a0_6 a0_7 a0_8 a0_9 a0_10 a0_11 a1_0 a1_1) else (if a2 < a1_0 then (clepsydralaw11_CarryBrings.j0 k a2 a3 a4 true a0_0 a0_1 a0_2 a0_3 a0_4 a0_5 a0_6 a0_7 a0_8 a0_9 a0_10 a0_11 a1_0 a1_1) else (if a2 > a1_1 then (clepsydralaw11_CarryBrings.j0 k a2 a3 a4 true a0_0 a0_1 a0_2 a0_3 a0_4 a0_5 a0_6 a0_7 a0_8 a0_9 a0_10 a0_11 a1_0 a1_1) else (if a4 > a0_4 then (clepsydralaw11_CarryBrings.j0 k a2 a3 a4 true a0_0 a0_1 a0_2 a0_3 a0_4 a0_5 a0_6 a0_7 a0_8 a0_9 a0_10 a0_11 a1_0 a1_1) else (if a4 < (wrap64 (-a0_4)) then (clepsydralaw11_CarryBrings.j0 k a2 a3 a4 true a0_0 a0_1 a0_2 a0_3 a0_4 a0_5 a0_6 a0_7 a0_8 a0_9 a0_10 a0_11 a1_0 a1_1) else (if a3 > a0_5 then (clepsydralaw11_CarryBrings.j0 k a2 a3 a4 true a0_0 a0_1 a0_2 a0_3 a0_4 a0_5 a0_6 a0_7 a0_8 a0_9 a0_10 a0_11 a1_0 a1_1) else (clepsydralaw11_CarryBrings.j0 k a2 a3 a4 (decide (a3 < (wrap64 (a0_5 - a0_6)))) a0_0 a0_1 a0_2 a0_3 a0_4 a0_5 a0_6 a0_7 a0_8 a0_9 a0_10 a0_11 a1_0 a1_1)))))))) else (clepsydralaw11_CarryBrings.j0 k a2 a3 a4 true a0_0 a0_1 a0_2 a0_3 a0_4 a0_5 a0_6 a0_7 a0_8 a0_9 a0_10 a0_11 a1_0 a1_1))) = some r := by rw [if_pos rfl] at H; exact H
    clear H
    have H := H1
    clear H1
    have HC8 := Aside0.mk H
    clear H
    go_enter Try.func4, Try.ntmps4
    go_upto_region 3 with (first | ((with_reducible refine gate_dst (N := 5) rfl ?_); refine box_event ?hg (N := 5) ?hd (cs := #[.int .i64 a0_0, .int .i64 a0_1, .int .i64 a0_2, .int .i64 a0_3, .int .i64 a0_4, .int .i64 a0_5, .int .i64 a0_6, .int .i64 a0_7, .int .i64 a0_8, .int .i64 a0_9, .int .i64 a0_10, .int .i64 a0_11]) (t := 23) ?hr ?_; (case hd => rfl); (case hg => rfl); (case hr => first | (go_simp; done) | (go_simp; rfl)); intro gb291 hg w9 hbox hb; have n0_ := Aside0.mk (below_step (by repeat (first | (with_reducible first | exact HB.out | apply below_alloc | apply pw_below_drewN | apply below_drew1) | exact HB.out)) hb); have n1_ := Aside0.mk (hbox); have n2_ := Aside0.mk ((by rw [hg]; exact (below_size (by repeat (first | (with_reducible first | exact HB.out | apply below_alloc | apply pw_below_drewN | apply below_drew1) | exact HB.out))) : w.heap.size ≤ gb291)); have n3_ := Aside0.mk ((by rw [hg]; exact (below_size (by repeat (first | (with_reducible first | exact HB.out | apply below_alloc | apply pw_below_drewN | apply below_drew1) | exact HB.out))) : w.heap.size ≤ gb291)); clear HB; have HB := n0_; have BK291 := n1_; have GW291 := n2_; have GE291 := n3_; clear n0_ n1_ n2_ n3_; clear hb hbox hg) | ((with_reducible refine gate_dst (N := 6) rfl ?_); refine box_event ?hg (N := 6) ?hd (cs := #[.int .i64 a1_0, .int .i64 a1_1]) (t := 25) ?hr ?_; (case hd => rfl); (case hg => rfl); (case hr => first | (go_simp; done) | (go_simp; rfl)); intro gb292 hg w10 hbox hb; have n0_ := Aside0.mk (blk_below (g := gb291) (o := .cells #[.int .i64 a0_0, .int .i64 a0_1, .int .i64 a0_2, .int .i64 a0_3, .int .i64 a0_4, .int .i64 a0_5, .int .i64 a0_6, .int .i64 a0_7, .int .i64 a0_8, .int .i64 a0_9, .int .i64 a0_10, .int .i64 a0_11] 23 (0, 0)) (by (with_reducible repeat (first | refine blk_drewN ?_ _ | refine blk_drew ?_ | refine blk_alloc ?_ _)); exact BK291.out) hb); have n1_ := Aside0.mk (below_step (by repeat (first | (with_reducible first | exact HB.out | apply below_alloc | apply pw_below_drewN | apply below_drew1 | refine below_set ?_ GE291.out) | exact HB.out)) hb); have n2_ := Aside0.mk (hbox); have n3_ := Aside0.mk ((by rw [hg]; exact (below_size (by repeat (first | (with_reducible first | exact HB.out | apply below_alloc | apply pw_below_drewN | apply below_drew1 | refine below_set ?_ GE291.out) | exact HB.out))) : w.heap.size ≤ gb292)); have n4_ := Aside0.mk ((by rw [hg]; exact (below_size (by repeat (first | (with_reducible first | exact HB.out | apply below_alloc | apply pw_below_drewN | apply below_drew1 | refine below_set ?_ GE291.out) | exact HB.out))) : w.heap.size ≤ gb292)); have n5_ := Aside0.mk ((by rw [hg]; exact Nat.ne_of_lt (blk_lt (g := gb291) (o := .cells #[.int .i64 a0_0, .int .i64 a0_1, .int .i64 a0_2, .int .i64 a0_3, .int .i64 a0_4, .int .i64 a0_5, .int .i64 a0_6, .int .i64 a0_7, .int .i64 a0_8, .int .i64 a0_9, .int .i64 a0_10, .int .i64 a0_11] 23 (0, 0)) (by (with_reducible repeat (first | refine blk_drewN ?_ _ | refine blk_drew ?_ | refine blk_alloc ?_ _)); exact BK291.out)) : gb291 ≠ gb292)); have n6_ := Aside0.mk ((by rw [hg]; exact Nat.ne_of_gt (blk_lt (g := gb291) (o := .cells #[.int .i64 a0_0, .int .i64 a0_1, .int .i64 a0_2, .int .i64 a0_3, .int .i64 a0_4, .int .i64 a0_5, .int .i64 a0_6, .int .i64 a0_7, .int .i64 a0_8, .int .i64 a0_9, .int .i64 a0_10, .int .i64 a0_11] 23 (0, 0)) (by (with_reducible repeat (first | refine blk_drewN ?_ _ | refine blk_drew ?_ | refine blk_alloc ?_ _)); exact BK291.out)) : gb292 ≠ gb291)); clear BK291; clear HB; have BK291 := n0_; have HB := n1_; have BK292 := n2_; have GW292 := n3_; have GE292 := n4_; have NB291_292 := n5_; have NB292_291 := n6_; clear n0_ n1_ n2_ n3_ n4_ n5_ n6_; clear hb hbox hg) | ((with_reducible refine gate_callee (f := 15) rfl ?_); refine goesL_ (some 15) rfl rfl Try.func15 (by kernel_rfl) rfl #[] rfl (by (try simp only [List.map_toArray, List.map_cons, List.map_nil]); first | done | rfl | (simp only [List.length_drop, List.length_take]; rfl)) ?_; (with_reducible refine (clepsydralaw11_alive.calls k  true _ A6.out).mono ?_); rintro e w11 ⟨rfl, hb⟩; refine ⟨_, rfl, ?_⟩; have n0_ := Aside0.mk (blk_below (g := gb291) (o := .cells #[.int .i64 a0_0, .int .i64 a0_1, .int .i64 a0_2, .int .i64 a0_3, .int .i64 a0_4, .int .i64 a0_5, .int .i64 a0_6, .int .i64 a0_7, .int .i64 a0_8, .int .i64 a0_9, .int .i64 a0_10, .int .i64 a0_11] 23 (0, 0)) (by (with_reducible repeat (first | refine blk_drewN ?_ _ | refine blk_drew ?_ | refine blk_alloc ?_ _)); exact BK291.out) hb); have n1_ := Aside0.mk (blk_below (g := gb292) (o := .cells #[.int .i64 a1_0, .int .i64 a1_1] 25 (0, 0)) (by (with_reducible repeat (first | refine blk_drewN ?_ _ | refine blk_drew ?_ | refine blk_alloc ?_ _)); exact BK292.out) hb); have n2_ := Aside0.mk (below_step (by repeat (first | (with_reducible first | exact HB.out | apply below_alloc | apply pw_below_drewN | apply below_drew1 | refine below_set ?_ GE291.out | refine below_set ?_ GE292.out) | exact HB.out)) hb); clear BK291; clear BK292; clear HB; have BK291 := n0_; have BK292 := n1_; have HB := n2_; clear n0_ n1_ n2_; (try clear hb); (try clear hb2); (try clear hk); (try clear hi)))
    (try simp only [Act.put, List.setIfInBounds_toArray, List.set_cons_zero, List.set_cons_succ])
    go_cut [67] (fun v67 wc => ∃ (kq : Nat) (x67_7 : Bool), v67 = .bool x67_7 ∧ Aside0 (clepsydralaw11_CarryBrings.j0 kq a2 a3 a4 x67_7 a0_0 a0_1 a0_2 a0_3 a0_4 a0_5 a0_6 a0_7 a0_8 a0_9 a0_10 a0_11 a1_0 a1_1 = some r) ∧ Aside0 (kq ≤ k) ∧ Aside0 (wc.heap[gb291]? = some (.cells #[.int .i64 a0_0, .int .i64 a0_1, .int .i64 a0_2, .int .i64 a0_3, .int .i64 a0_4, .int .i64 a0_5, .int .i64 a0_6, .int .i64 a0_7, .int .i64 a0_8, .int .i64 a0_9, .int .i64 a0_10, .int .i64 a0_11] 23 (0, 0))) ∧ Aside0 (wc.heap[gb292]? = some (.cells #[.int .i64 a1_0, .int .i64 a1_1] 25 (0, 0))) ∧ Aside0 (Below w.heap.size w wc))
    case first =>
      have H := HC8.out
      clear HC8
      replace H := Option.bind_eq_some_iff.mp H
      obtain ⟨t294, A120, H⟩ := H
      replace H : (if t294 = 0 then (if a2 > 1152921504606846976 then (clepsydralaw11_CarryBrings.j0 k a2 a3 a4 true a0_0 a0_1 a0_2 a0_3 a0_4 a0_5 a0_6 a0_7 a0_8 a0_9 a0_10 a0_11 a1_0 a1_1) else (if a2 < (-1152921504606846976) then (clepsydralaw11_CarryBrings.j0 k a2 a3 a4 true a0_0 a0_1 a0_2 a0_3 a0_4 a0_5 a0_6 a0_7 a0_8 a0_9 a0_10 a0_11 a1_0 a1_1) else (if a2 < a1_0 then (clepsydralaw11_CarryBrings.j0 k a2 a3 a4 true a0_0 a0_1 a0_2 a0_3 a0_4 a0_5 a0_6 a0_7 a0_8 a0_9 a0_10 a0_11 a1_0 a1_1) else (if a2 > a1_1 then (clepsydralaw11_CarryBrings.j0 k a2 a3 a4 true a0_0 a0_1 a0_2 a0_3 a0_4 a0_5 a0_6 a0_7 a0_8 a0_9 a0_10 a0_11 a1_0 a1_1) else (if a4 > a0_4 then (clepsydralaw11_CarryBrings.j0 k a2 a3 a4 true a0_0 a0_1 a0_2 a0_3 a0_4 a0_5 a0_6 a0_7 a0_8 a0_9 a0_10 a0_11 a1_0 a1_1) else (if a4 < (wrap64 (-a0_4)) then (clepsydralaw11_CarryBrings.j0 k a2 a3 a4 true a0_0 a0_1 a0_2 a0_3 a0_4 a0_5 a0_6 a0_7 a0_8 a0_9 a0_10 a0_11 a1_0 a1_1) else (if a3 > a0_5 then (clepsydralaw11_CarryBrings.j0 k a2 a3 a4 true a0_0 a0_1 a0_2 a0_3 a0_4 a0_5 a0_6 a0_7 a0_8 a0_9 a0_10 a0_11 a1_0 a1_1) else (clepsydralaw11_CarryBrings.j0 k a2 a3 a4 (decide (a3 < (wrap64 (a0_5 - a0_6)))) a0_0 a0_1 a0_2 a0_3 a0_4 a0_5 a0_6 a0_7 a0_8 a0_9 a0_10 a0_11 a1_0 a1_1)))))))) else (clepsydralaw11_CarryBrings.j0 k a2 a3 a4 true a0_0 a0_1 a0_2 a0_3 a0_4 a0_5 a0_6 a0_7 a0_8 a0_9 a0_10 a0_11 a1_0 a1_1)) = some r := H
      have A12 := Aside0.mk A120
      clear A120
      by_cases c13 : t294 = 0
      · rw [if_pos c13] at H
        have c13b0 : (t294 == 0) = true := beq_iff_eq.mpr c13
        have c13b1 : (t294 != 0) = false := bne_eq_false_iff_eq.mpr c13
        clear c13
        (first | rw [c13b0] | (simp only [i64_w, i32_w]; rw [c13b0]) | skip)
        by_cases c14 : a2 > 1152921504606846976
        · rw [if_pos c14] at H
          have c14b0 : decide (1152921504606846976 < a2) = true := decide_eq_true c14
          clear c14
          have H' := Aside0.mk H
          clear H
          have hnb15 := NB291_292.out
          have hnc15 := NB292_291.out
          have hcz16_0 : w11.cell? ⟨gb291, 0, none⟩ = some (.int .i64 a0_0) := (blk_cell BK291.out 0).trans rfl
          have hcz16_1 : w11.cell? ⟨gb291, 1, none⟩ = some (.int .i64 a0_1) := (blk_cell BK291.out 1).trans rfl
          have hcz16_2 : w11.cell? ⟨gb291, 2, none⟩ = some (.int .i64 a0_2) := (blk_cell BK291.out 2).trans rfl
          have hcz16_3 : w11.cell? ⟨gb291, 3, none⟩ = some (.int .i64 a0_3) := (blk_cell BK291.out 3).trans rfl
          have hcz16_4 : w11.cell? ⟨gb291, 4, none⟩ = some (.int .i64 a0_4) := (blk_cell BK291.out 4).trans rfl
          have hcz16_5 : w11.cell? ⟨gb291, 5, none⟩ = some (.int .i64 a0_5) := (blk_cell BK291.out 5).trans rfl
          have hcz16_6 : w11.cell? ⟨gb291, 6, none⟩ = some (.int .i64 a0_6) := (blk_cell BK291.out 6).trans rfl
          have hcz16_7 : w11.cell? ⟨gb291, 7, none⟩ = some (.int .i64 a0_7) := (blk_cell BK291.out 7).trans rfl
          have hcz16_8 : w11.cell? ⟨gb291, 8, none⟩ = some (.int .i64 a0_8) := (blk_cell BK291.out 8).trans rfl
          have hcz16_9 : w11.cell? ⟨gb291, 9, none⟩ = some (.int .i64 a0_9) := (blk_cell BK291.out 9).trans rfl
          have hcz16_10 : w11.cell? ⟨gb291, 10, none⟩ = some (.int .i64 a0_10) := (blk_cell BK291.out 10).trans rfl
          have hcz16_11 : w11.cell? ⟨gb291, 11, none⟩ = some (.int .i64 a0_11) := (blk_cell BK291.out 11).trans rfl
          have hfz16_0 := blk_frozen BK291.out 0
          have hfz16_1 := blk_frozen BK291.out 1
          have hfz16_2 := blk_frozen BK291.out 2
          have hfz16_3 := blk_frozen BK291.out 3
          have hfz16_4 := blk_frozen BK291.out 4
          have hfz16_5 := blk_frozen BK291.out 5
          have hfz16_6 := blk_frozen BK291.out 6
          have hfz16_7 := blk_frozen BK291.out 7
          have hfz16_8 := blk_frozen BK291.out 8
          have hfz16_9 := blk_frozen BK291.out 9
          have hfz16_10 := blk_frozen BK291.out 10
          have hfz16_11 := blk_frozen BK291.out 11
          go_wp2_with (first | ((with_reducible refine gate_callee (f := 24) rfl ?_); refine goesL_ (some 18) rfl rfl Try.func24 (by kernel_rfl) rfl #[.agg #[.int .i64 a0_0, .int .i64 a0_1, .int .i64 a0_2, .int .i64 a0_3, .int .i64 a0_4, .int .i64 a0_5, .int .i64 a0_6, .int .i64 a0_7, .int .i64 a0_8, .int .i64 a0_9, .int .i64 a0_10, .int .i64 a0_11]] rfl (by (try simp only [List.map_toArray, List.map_cons, List.map_nil]); first | done | rfl | (simp only [List.length_drop, List.length_take]; rfl)) ?_; (with_reducible refine (limit_Check.calls k a0_0 a0_1 a0_2 a0_3 a0_4 a0_5 a0_6 a0_7 a0_8 a0_9 a0_10 a0_11 t294 _ A12.out).mono ?_); rintro e w17 ⟨rfl, hb⟩; refine ⟨_, rfl, ?_⟩; have n0_ := Aside0.mk (blk_below (g := gb291) (o := .cells #[.int .i64 a0_0, .int .i64 a0_1, .int .i64 a0_2, .int .i64 a0_3, .int .i64 a0_4, .int .i64 a0_5, .int .i64 a0_6, .int .i64 a0_7, .int .i64 a0_8, .int .i64 a0_9, .int .i64 a0_10, .int .i64 a0_11] 23 (0, 0)) (by (with_reducible repeat (first | refine blk_drewN ?_ _ | refine blk_drew ?_ | refine blk_alloc ?_ _)); exact BK291.out) hb); have n1_ := Aside0.mk (blk_below (g := gb292) (o := .cells #[.int .i64 a1_0, .int .i64 a1_1] 25 (0, 0)) (by (with_reducible repeat (first | refine blk_drewN ?_ _ | refine blk_drew ?_ | refine blk_alloc ?_ _)); exact BK292.out) hb); have n2_ := Aside0.mk (below_step (by repeat (first | (with_reducible first | exact HB.out | apply below_alloc | apply pw_below_drewN | apply below_drew1 | refine below_set ?_ GE291.out | refine below_set ?_ GE292.out) | exact HB.out)) hb); clear BK291; clear BK292; clear HB; have BK291 := n0_; have BK292 := n1_; have HB := n2_; clear n0_ n1_ n2_; (try clear hb); (try clear hb2); (try clear hk); (try clear hi)))
          go_meet
          case rel => exact ⟨_, (true), (by first | rfl | (simp; done) | (simp [*]; done) | (simp [Int.tdiv_eq_ediv_of_nonneg]; done) | (simp [Go.RowKit.wrap64]; done) | (simp [*, Go.RowKit.wrap64]; done)), H', ⟨by first | omega | exact Nat.le_refl _⟩, ⟨by (with_reducible repeat (first | refine blk_drewN ?_ _ | refine blk_drew ?_ | refine blk_alloc ?_ _)); exact BK291.out⟩, ⟨by (with_reducible repeat (first | refine blk_drewN ?_ _ | refine blk_drew ?_ | refine blk_alloc ?_ _)); exact BK292.out⟩, ⟨by repeat (first | (with_reducible first | exact HB.out | apply below_alloc | apply pw_below_drewN | apply below_drew1 | refine below_set ?_ GE291.out | refine below_set ?_ GE292.out) | exact HB.out)⟩⟩
        · rw [if_neg c14] at H
          have c14b0 : decide (1152921504606846976 < a2) = false := decide_eq_false c14
          clear c14
          by_cases c18 : a2 < (-1152921504606846976)
          · rw [if_pos c18] at H
            have c18b0 : decide (a2 < (-1152921504606846976)) = true := decide_eq_true c18
            clear c18
            have H' := Aside0.mk H
            clear H
            have hnb19 := NB291_292.out
            have hnc19 := NB292_291.out
            have hcz20_0 : w11.cell? ⟨gb291, 0, none⟩ = some (.int .i64 a0_0) := (blk_cell BK291.out 0).trans rfl
            have hcz20_1 : w11.cell? ⟨gb291, 1, none⟩ = some (.int .i64 a0_1) := (blk_cell BK291.out 1).trans rfl
            have hcz20_2 : w11.cell? ⟨gb291, 2, none⟩ = some (.int .i64 a0_2) := (blk_cell BK291.out 2).trans rfl
            have hcz20_3 : w11.cell? ⟨gb291, 3, none⟩ = some (.int .i64 a0_3) := (blk_cell BK291.out 3).trans rfl
            have hcz20_4 : w11.cell? ⟨gb291, 4, none⟩ = some (.int .i64 a0_4) := (blk_cell BK291.out 4).trans rfl
            have hcz20_5 : w11.cell? ⟨gb291, 5, none⟩ = some (.int .i64 a0_5) := (blk_cell BK291.out 5).trans rfl
            have hcz20_6 : w11.cell? ⟨gb291, 6, none⟩ = some (.int .i64 a0_6) := (blk_cell BK291.out 6).trans rfl
            have hcz20_7 : w11.cell? ⟨gb291, 7, none⟩ = some (.int .i64 a0_7) := (blk_cell BK291.out 7).trans rfl
            have hcz20_8 : w11.cell? ⟨gb291, 8, none⟩ = some (.int .i64 a0_8) := (blk_cell BK291.out 8).trans rfl
            have hcz20_9 : w11.cell? ⟨gb291, 9, none⟩ = some (.int .i64 a0_9) := (blk_cell BK291.out 9).trans rfl
            have hcz20_10 : w11.cell? ⟨gb291, 10, none⟩ = some (.int .i64 a0_10) := (blk_cell BK291.out 10).trans rfl
            have hcz20_11 : w11.cell? ⟨gb291, 11, none⟩ = some (.int .i64 a0_11) := (blk_cell BK291.out 11).trans rfl
            have hfz20_0 := blk_frozen BK291.out 0
            have hfz20_1 := blk_frozen BK291.out 1
            have hfz20_2 := blk_frozen BK291.out 2
            have hfz20_3 := blk_frozen BK291.out 3
            have hfz20_4 := blk_frozen BK291.out 4
            have hfz20_5 := blk_frozen BK291.out 5
            have hfz20_6 := blk_frozen BK291.out 6
            have hfz20_7 := blk_frozen BK291.out 7
            have hfz20_8 := blk_frozen BK291.out 8
            have hfz20_9 := blk_frozen BK291.out 9
            have hfz20_10 := blk_frozen BK291.out 10
            have hfz20_11 := blk_frozen BK291.out 11
            go_wp2_with (first | ((with_reducible refine gate_callee (f := 24) rfl ?_); refine goesL_ (some 18) rfl rfl Try.func24 (by kernel_rfl) rfl #[.agg #[.int .i64 a0_0, .int .i64 a0_1, .int .i64 a0_2, .int .i64 a0_3, .int .i64 a0_4, .int .i64 a0_5, .int .i64 a0_6, .int .i64 a0_7, .int .i64 a0_8, .int .i64 a0_9, .int .i64 a0_10, .int .i64 a0_11]] rfl (by (try simp only [List.map_toArray, List.map_cons, List.map_nil]); first | done | rfl | (simp only [List.length_drop, List.length_take]; rfl)) ?_; (with_reducible refine (limit_Check.calls k a0_0 a0_1 a0_2 a0_3 a0_4 a0_5 a0_6 a0_7 a0_8 a0_9 a0_10 a0_11 t294 _ A12.out).mono ?_); rintro e w21 ⟨rfl, hb⟩; refine ⟨_, rfl, ?_⟩; have n0_ := Aside0.mk (blk_below (g := gb291) (o := .cells #[.int .i64 a0_0, .int .i64 a0_1, .int .i64 a0_2, .int .i64 a0_3, .int .i64 a0_4, .int .i64 a0_5, .int .i64 a0_6, .int .i64 a0_7, .int .i64 a0_8, .int .i64 a0_9, .int .i64 a0_10, .int .i64 a0_11] 23 (0, 0)) (by (with_reducible repeat (first | refine blk_drewN ?_ _ | refine blk_drew ?_ | refine blk_alloc ?_ _)); exact BK291.out) hb); have n1_ := Aside0.mk (blk_below (g := gb292) (o := .cells #[.int .i64 a1_0, .int .i64 a1_1] 25 (0, 0)) (by (with_reducible repeat (first | refine blk_drewN ?_ _ | refine blk_drew ?_ | refine blk_alloc ?_ _)); exact BK292.out) hb); have n2_ := Aside0.mk (below_step (by repeat (first | (with_reducible first | exact HB.out | apply below_alloc | apply pw_below_drewN | apply below_drew1 | refine below_set ?_ GE291.out | refine below_set ?_ GE292.out) | exact HB.out)) hb); clear BK291; clear BK292; clear HB; have BK291 := n0_; have BK292 := n1_; have HB := n2_; clear n0_ n1_ n2_; (try clear hb); (try clear hb2); (try clear hk); (try clear hi)))
            go_meet
            case rel => exact ⟨_, (true), (by first | rfl | (simp; done) | (simp [*]; done) | (simp [Int.tdiv_eq_ediv_of_nonneg]; done) | (simp [Go.RowKit.wrap64]; done) | (simp [*, Go.RowKit.wrap64]; done)), H', ⟨by first | omega | exact Nat.le_refl _⟩, ⟨by (with_reducible repeat (first | refine blk_drewN ?_ _ | refine blk_drew ?_ | refine blk_alloc ?_ _)); exact BK291.out⟩, ⟨by (with_reducible repeat (first | refine blk_drewN ?_ _ | refine blk_drew ?_ | refine blk_alloc ?_ _)); exact BK292.out⟩, ⟨by repeat (first | (with_reducible first | exact HB.out | apply below_alloc | apply pw_below_drewN | apply below_drew1 | refine below_set ?_ GE291.out | refine below_set ?_ GE292.out) | exact HB.out)⟩⟩
          · rw [if_neg c18] at H
            have c18b0 : decide (a2 < (-1152921504606846976)) = false := decide_eq_false c18
            clear c18
            by_cases c22 : a2 < a1_0
            · rw [if_pos c22] at H
              have c22b0 : decide (a2 < a1_0) = true := decide_eq_true c22
              clear c22
              have H' := Aside0.mk H
              clear H
              have hnb23 := NB291_292.out
              have hnc23 := NB292_291.out
              have hcz24_0 : w11.cell? ⟨gb291, 0, none⟩ = some (.int .i64 a0_0) := (blk_cell BK291.out 0).trans rfl
              have hcz24_1 : w11.cell? ⟨gb291, 1, none⟩ = some (.int .i64 a0_1) := (blk_cell BK291.out 1).trans rfl
              have hcz24_2 : w11.cell? ⟨gb291, 2, none⟩ = some (.int .i64 a0_2) := (blk_cell BK291.out 2).trans rfl
              have hcz24_3 : w11.cell? ⟨gb291, 3, none⟩ = some (.int .i64 a0_3) := (blk_cell BK291.out 3).trans rfl
              have hcz24_4 : w11.cell? ⟨gb291, 4, none⟩ = some (.int .i64 a0_4) := (blk_cell BK291.out 4).trans rfl
              have hcz24_5 : w11.cell? ⟨gb291, 5, none⟩ = some (.int .i64 a0_5) := (blk_cell BK291.out 5).trans rfl
              have hcz24_6 : w11.cell? ⟨gb291, 6, none⟩ = some (.int .i64 a0_6) := (blk_cell BK291.out 6).trans rfl
              have hcz24_7 : w11.cell? ⟨gb291, 7, none⟩ = some (.int .i64 a0_7) := (blk_cell BK291.out 7).trans rfl
              have hcz24_8 : w11.cell? ⟨gb291, 8, none⟩ = some (.int .i64 a0_8) := (blk_cell BK291.out 8).trans rfl
              have hcz24_9 : w11.cell? ⟨gb291, 9, none⟩ = some (.int .i64 a0_9) := (blk_cell BK291.out 9).trans rfl
              have hcz24_10 : w11.cell? ⟨gb291, 10, none⟩ = some (.int .i64 a0_10) := (blk_cell BK291.out 10).trans rfl
              have hcz24_11 : w11.cell? ⟨gb291, 11, none⟩ = some (.int .i64 a0_11) := (blk_cell BK291.out 11).trans rfl
              have hfz24_0 := blk_frozen BK291.out 0
              have hfz24_1 := blk_frozen BK291.out 1
              have hfz24_2 := blk_frozen BK291.out 2
              have hfz24_3 := blk_frozen BK291.out 3
              have hfz24_4 := blk_frozen BK291.out 4
              have hfz24_5 := blk_frozen BK291.out 5
              have hfz24_6 := blk_frozen BK291.out 6
              have hfz24_7 := blk_frozen BK291.out 7
              have hfz24_8 := blk_frozen BK291.out 8
              have hfz24_9 := blk_frozen BK291.out 9
              have hfz24_10 := blk_frozen BK291.out 10
              have hfz24_11 := blk_frozen BK291.out 11
              go_wp2_with (first | ((with_reducible refine gate_callee (f := 24) rfl ?_); refine goesL_ (some 18) rfl rfl Try.func24 (by kernel_rfl) rfl #[.agg #[.int .i64 a0_0, .int .i64 a0_1, .int .i64 a0_2, .int .i64 a0_3, .int .i64 a0_4, .int .i64 a0_5, .int .i64 a0_6, .int .i64 a0_7, .int .i64 a0_8, .int .i64 a0_9, .int .i64 a0_10, .int .i64 a0_11]] rfl (by (try simp only [List.map_toArray, List.map_cons, List.map_nil]); first | done | rfl | (simp only [List.length_drop, List.length_take]; rfl)) ?_; (with_reducible refine (limit_Check.calls k a0_0 a0_1 a0_2 a0_3 a0_4 a0_5 a0_6 a0_7 a0_8 a0_9 a0_10 a0_11 t294 _ A12.out).mono ?_); rintro e w25 ⟨rfl, hb⟩; refine ⟨_, rfl, ?_⟩; have n0_ := Aside0.mk (blk_below (g := gb291) (o := .cells #[.int .i64 a0_0, .int .i64 a0_1, .int .i64 a0_2, .int .i64 a0_3, .int .i64 a0_4, .int .i64 a0_5, .int .i64 a0_6, .int .i64 a0_7, .int .i64 a0_8, .int .i64 a0_9, .int .i64 a0_10, .int .i64 a0_11] 23 (0, 0)) (by (with_reducible repeat (first | refine blk_drewN ?_ _ | refine blk_drew ?_ | refine blk_alloc ?_ _)); exact BK291.out) hb); have n1_ := Aside0.mk (blk_below (g := gb292) (o := .cells #[.int .i64 a1_0, .int .i64 a1_1] 25 (0, 0)) (by (with_reducible repeat (first | refine blk_drewN ?_ _ | refine blk_drew ?_ | refine blk_alloc ?_ _)); exact BK292.out) hb); have n2_ := Aside0.mk (below_step (by repeat (first | (with_reducible first | exact HB.out | apply below_alloc | apply pw_below_drewN | apply below_drew1 | refine below_set ?_ GE291.out | refine below_set ?_ GE292.out) | exact HB.out)) hb); clear BK291; clear BK292; clear HB; have BK291 := n0_; have BK292 := n1_; have HB := n2_; clear n0_ n1_ n2_; (try clear hb); (try clear hb2); (try clear hk); (try clear hi); have hcz26_0 : w25.cell? ⟨gb292, 0, none⟩ = some (.int .i64 a1_0) := (blk_cell BK292.out 0).trans rfl; have hcz26_1 : w25.cell? ⟨gb292, 1, none⟩ = some (.int .i64 a1_1) := (blk_cell BK292.out 1).trans rfl; have hfz26_0 := blk_frozen BK292.out 0; have hfz26_1 := blk_frozen BK292.out 1))
              go_meet
              case rel => exact ⟨_, (true), (by first | rfl | (simp; done) | (simp [*]; done) | (simp [Int.tdiv_eq_ediv_of_nonneg]; done) | (simp [Go.RowKit.wrap64]; done) | (simp [*, Go.RowKit.wrap64]; done)), H', ⟨by first | omega | exact Nat.le_refl _⟩, ⟨by (with_reducible repeat (first | refine blk_drewN ?_ _ | refine blk_drew ?_ | refine blk_alloc ?_ _)); exact BK291.out⟩, ⟨by (with_reducible repeat (first | refine blk_drewN ?_ _ | refine blk_drew ?_ | refine blk_alloc ?_ _)); exact BK292.out⟩, ⟨by repeat (first | (with_reducible first | exact HB.out | apply below_alloc | apply pw_below_drewN | apply below_drew1 | refine below_set ?_ GE291.out | refine below_set ?_ GE292.out) | exact HB.out)⟩⟩
            · rw [if_neg c22] at H
              have c22b0 : decide (a2 < a1_0) = false := decide_eq_false c22
              clear c22
              by_cases c27 : a2 > a1_1
              · rw [if_pos c27] at H
                have c27b0 : decide (a1_1 < a2) = true := decide_eq_true c27
                clear c27
                have H' := Aside0.mk H
                clear H
                have hnb28 := NB291_292.out
                have hnc28 := NB292_291.out
                have hcz29_0 : w11.cell? ⟨gb291, 0, none⟩ = some (.int .i64 a0_0) := (blk_cell BK291.out 0).trans rfl
                have hcz29_1 : w11.cell? ⟨gb291, 1, none⟩ = some (.int .i64 a0_1) := (blk_cell BK291.out 1).trans rfl
                have hcz29_2 : w11.cell? ⟨gb291, 2, none⟩ = some (.int .i64 a0_2) := (blk_cell BK291.out 2).trans rfl
                have hcz29_3 : w11.cell? ⟨gb291, 3, none⟩ = some (.int .i64 a0_3) := (blk_cell BK291.out 3).trans rfl
                have hcz29_4 : w11.cell? ⟨gb291, 4, none⟩ = some (.int .i64 a0_4) := (blk_cell BK291.out 4).trans rfl
                have hcz29_5 : w11.cell? ⟨gb291, 5, none⟩ = some (.int .i64 a0_5) := (blk_cell BK291.out 5).trans rfl
                have hcz29_6 : w11.cell? ⟨gb291, 6, none⟩ = some (.int .i64 a0_6) := (blk_cell BK291.out 6).trans rfl
                have hcz29_7 : w11.cell? ⟨gb291, 7, none⟩ = some (.int .i64 a0_7) := (blk_cell BK291.out 7).trans rfl
                have hcz29_8 : w11.cell? ⟨gb291, 8, none⟩ = some (.int .i64 a0_8) := (blk_cell BK291.out 8).trans rfl
                have hcz29_9 : w11.cell? ⟨gb291, 9, none⟩ = some (.int .i64 a0_9) := (blk_cell BK291.out 9).trans rfl
                have hcz29_10 : w11.cell? ⟨gb291, 10, none⟩ = some (.int .i64 a0_10) := (blk_cell BK291.out 10).trans rfl
                have hcz29_11 : w11.cell? ⟨gb291, 11, none⟩ = some (.int .i64 a0_11) := (blk_cell BK291.out 11).trans rfl
                have hfz29_0 := blk_frozen BK291.out 0
                have hfz29_1 := blk_frozen BK291.out 1
                have hfz29_2 := blk_frozen BK291.out 2
                have hfz29_3 := blk_frozen BK291.out 3
                have hfz29_4 := blk_frozen BK291.out 4
                have hfz29_5 := blk_frozen BK291.out 5
                have hfz29_6 := blk_frozen BK291.out 6
                have hfz29_7 := blk_frozen BK291.out 7
                have hfz29_8 := blk_frozen BK291.out 8
                have hfz29_9 := blk_frozen BK291.out 9
                have hfz29_10 := blk_frozen BK291.out 10
                have hfz29_11 := blk_frozen BK291.out 11
                go_wp2_with (first | ((with_reducible refine gate_callee (f := 24) rfl ?_); refine goesL_ (some 18) rfl rfl Try.func24 (by kernel_rfl) rfl #[.agg #[.int .i64 a0_0, .int .i64 a0_1, .int .i64 a0_2, .int .i64 a0_3, .int .i64 a0_4, .int .i64 a0_5, .int .i64 a0_6, .int .i64 a0_7, .int .i64 a0_8, .int .i64 a0_9, .int .i64 a0_10, .int .i64 a0_11]] rfl (by (try simp only [List.map_toArray, List.map_cons, List.map_nil]); first | done | rfl | (simp only [List.length_drop, List.length_take]; rfl)) ?_; (with_reducible refine (limit_Check.calls k a0_0 a0_1 a0_2 a0_3 a0_4 a0_5 a0_6 a0_7 a0_8 a0_9 a0_10 a0_11 t294 _ A12.out).mono ?_); rintro e w30 ⟨rfl, hb⟩; refine ⟨_, rfl, ?_⟩; have n0_ := Aside0.mk (blk_below (g := gb291) (o := .cells #[.int .i64 a0_0, .int .i64 a0_1, .int .i64 a0_2, .int .i64 a0_3, .int .i64 a0_4, .int .i64 a0_5, .int .i64 a0_6, .int .i64 a0_7, .int .i64 a0_8, .int .i64 a0_9, .int .i64 a0_10, .int .i64 a0_11] 23 (0, 0)) (by (with_reducible repeat (first | refine blk_drewN ?_ _ | refine blk_drew ?_ | refine blk_alloc ?_ _)); exact BK291.out) hb); have n1_ := Aside0.mk (blk_below (g := gb292) (o := .cells #[.int .i64 a1_0, .int .i64 a1_1] 25 (0, 0)) (by (with_reducible repeat (first | refine blk_drewN ?_ _ | refine blk_drew ?_ | refine blk_alloc ?_ _)); exact BK292.out) hb); have n2_ := Aside0.mk (below_step (by repeat (first | (with_reducible first | exact HB.out | apply below_alloc | apply pw_below_drewN | apply below_drew1 | refine below_set ?_ GE291.out | refine below_set ?_ GE292.out) | exact HB.out)) hb); clear BK291; clear BK292; clear HB; have BK291 := n0_; have BK292 := n1_; have HB := n2_; clear n0_ n1_ n2_; (try clear hb); (try clear hb2); (try clear hk); (try clear hi); have hcz31_0 : w30.cell? ⟨gb292, 0, none⟩ = some (.int .i64 a1_0) := (blk_cell BK292.out 0).trans rfl; have hcz31_1 : w30.cell? ⟨gb292, 1, none⟩ = some (.int .i64 a1_1) := (blk_cell BK292.out 1).trans rfl; have hfz31_0 := blk_frozen BK292.out 0; have hfz31_1 := blk_frozen BK292.out 1))
                go_meet
                case rel => exact ⟨_, (true), (by first | rfl | (simp; done) | (simp [*]; done) | (simp [Int.tdiv_eq_ediv_of_nonneg]; done) | (simp [Go.RowKit.wrap64]; done) | (simp [*, Go.RowKit.wrap64]; done)), H', ⟨by first | omega | exact Nat.le_refl _⟩, ⟨by (with_reducible repeat (first | refine blk_drewN ?_ _ | refine blk_drew ?_ | refine blk_alloc ?_ _)); exact BK291.out⟩, ⟨by (with_reducible repeat (first | refine blk_drewN ?_ _ | refine blk_drew ?_ | refine blk_alloc ?_ _)); exact BK292.out⟩, ⟨by repeat (first | (with_reducible first | exact HB.out | apply below_alloc | apply pw_below_drewN | apply below_drew1 | refine below_set ?_ GE291.out | refine below_set ?_ GE292.out) | exact HB.out)⟩⟩
              · rw [if_neg c27] at H
                have c27b0 : decide (a1_1 < a2) = false := decide_eq_false c27
                clear c27
                by_cases c32 : a4 > a0_4
                · rw [if_pos c32] at H
                  have c32b0 : decide (a0_4 < a4) = true := decide_eq_true c32
                  clear c32
                  have H' := Aside0.mk H
                  clear H
                  have hnb33 := NB291_292.out
                  have hnc33 := NB292_291.out
                  have hcz34_0 : w11.cell? ⟨gb291, 0, none⟩ = some (.int .i64 a0_0) := (blk_cell BK291.out 0).trans rfl
                  have hcz34_1 : w11.cell? ⟨gb291, 1, none⟩ = some (.int .i64 a0_1) := (blk_cell BK291.out 1).trans rfl
                  have hcz34_2 : w11.cell? ⟨gb291, 2, none⟩ = some (.int .i64 a0_2) := (blk_cell BK291.out 2).trans rfl
                  have hcz34_3 : w11.cell? ⟨gb291, 3, none⟩ = some (.int .i64 a0_3) := (blk_cell BK291.out 3).trans rfl
                  have hcz34_4 : w11.cell? ⟨gb291, 4, none⟩ = some (.int .i64 a0_4) := (blk_cell BK291.out 4).trans rfl
                  have hcz34_5 : w11.cell? ⟨gb291, 5, none⟩ = some (.int .i64 a0_5) := (blk_cell BK291.out 5).trans rfl
                  have hcz34_6 : w11.cell? ⟨gb291, 6, none⟩ = some (.int .i64 a0_6) := (blk_cell BK291.out 6).trans rfl
                  have hcz34_7 : w11.cell? ⟨gb291, 7, none⟩ = some (.int .i64 a0_7) := (blk_cell BK291.out 7).trans rfl
                  have hcz34_8 : w11.cell? ⟨gb291, 8, none⟩ = some (.int .i64 a0_8) := (blk_cell BK291.out 8).trans rfl
                  have hcz34_9 : w11.cell? ⟨gb291, 9, none⟩ = some (.int .i64 a0_9) := (blk_cell BK291.out 9).trans rfl
                  have hcz34_10 : w11.cell? ⟨gb291, 10, none⟩ = some (.int .i64 a0_10) := (blk_cell BK291.out 10).trans rfl
                  have hcz34_11 : w11.cell? ⟨gb291, 11, none⟩ = some (.int .i64 a0_11) := (blk_cell BK291.out 11).trans rfl
                  have hfz34_0 := blk_frozen BK291.out 0
                  have hfz34_1 := blk_frozen BK291.out 1
                  have hfz34_2 := blk_frozen BK291.out 2
                  have hfz34_3 := blk_frozen BK291.out 3
                  have hfz34_4 := blk_frozen BK291.out 4
                  have hfz34_5 := blk_frozen BK291.out 5
                  have hfz34_6 := blk_frozen BK291.out 6
                  have hfz34_7 := blk_frozen BK291.out 7
                  have hfz34_8 := blk_frozen BK291.out 8
                  have hfz34_9 := blk_frozen BK291.out 9
                  have hfz34_10 := blk_frozen BK291.out 10
                  have hfz34_11 := blk_frozen BK291.out 11
                  go_wp2_with (first | ((with_reducible refine gate_callee (f := 24) rfl ?_); refine goesL_ (some 18) rfl rfl Try.func24 (by kernel_rfl) rfl #[.agg #[.int .i64 a0_0, .int .i64 a0_1, .int .i64 a0_2, .int .i64 a0_3, .int .i64 a0_4, .int .i64 a0_5, .int .i64 a0_6, .int .i64 a0_7, .int .i64 a0_8, .int .i64 a0_9, .int .i64 a0_10, .int .i64 a0_11]] rfl (by (try simp only [List.map_toArray, List.map_cons, List.map_nil]); first | done | rfl | (simp only [List.length_drop, List.length_take]; rfl)) ?_; (with_reducible refine (limit_Check.calls k a0_0 a0_1 a0_2 a0_3 a0_4 a0_5 a0_6 a0_7 a0_8 a0_9 a0_10 a0_11 t294 _ A12.out).mono ?_); rintro e w35 ⟨rfl, hb⟩; refine ⟨_, rfl, ?_⟩; have n0_ := Aside0.mk (blk_below (g := gb291) (o := .cells #[.int .i64 a0_0, .int .i64 a0_1, .int .i64 a0_2, .int .i64 a0_3, .int .i64 a0_4, .int .i64 a0_5, .int .i64 a0_6, .int .i64 a0_7, .int .i64 a0_8, .int .i64 a0_9, .int .i64 a0_10, .int .i64 a0_11] 23 (0, 0)) (by (with_reducible repeat (first | refine blk_drewN ?_ _ | refine blk_drew ?_ | refine blk_alloc ?_ _)); exact BK291.out) hb); have n1_ := Aside0.mk (blk_below (g := gb292) (o := .cells #[.int .i64 a1_0, .int .i64 a1_1] 25 (0, 0)) (by (with_reducible repeat (first | refine blk_drewN ?_ _ | refine blk_drew ?_ | refine blk_alloc ?_ _)); exact BK292.out) hb); have n2_ := Aside0.mk (below_step (by repeat (first | (with_reducible first | exact HB.out | apply below_alloc | apply pw_below_drewN | apply below_drew1 | refine below_set ?_ GE291.out | refine below_set ?_ GE292.out) | exact HB.out)) hb); clear BK291; clear BK292; clear HB; have BK291 := n0_; have BK292 := n1_; have HB := n2_; clear n0_ n1_ n2_; (try clear hb); (try clear hb2); (try clear hk); (try clear hi); have hcz36_0 : w35.cell? ⟨gb292, 0, none⟩ = some (.int .i64 a1_0) := (blk_cell BK292.out 0).trans rfl; have hcz36_1 : w35.cell? ⟨gb292, 1, none⟩ = some (.int .i64 a1_1) := (blk_cell BK292.out 1).trans rfl; have hfz36_0 := blk_frozen BK292.out 0; have hfz36_1 := blk_frozen BK292.out 1; have hcz37_0 : w35.cell? ⟨gb291, 0, none⟩ = some (.int .i64 a0_0) := (blk_cell BK291.out 0).trans rfl; have hcz37_1 : w35.cell? ⟨gb291, 1, none⟩ = some (.int .i64 a0_1) := (blk_cell BK291.out 1).trans rfl; have hcz37_2 : w35.cell? ⟨gb291, 2, none⟩ = some (.int .i64 a0_2) := (blk_cell BK291.out 2).trans rfl; have hcz37_3 : w35.cell? ⟨gb291, 3, none⟩ = some (.int .i64 a0_3) := (blk_cell BK291.out 3).trans rfl; have hcz37_4 : w35.cell? ⟨gb291, 4, none⟩ = some (.int .i64 a0_4) := (blk_cell BK291.out 4).trans rfl; have hcz37_5 : w35.cell? ⟨gb291, 5, none⟩ = some (.int .i64 a0_5) := (blk_cell BK291.out 5).trans rfl; have hcz37_6 : w35.cell? ⟨gb291, 6, none⟩ = some (.int .i64 a0_6) := (blk_cell BK291.out 6).trans rfl; have hcz37_7 : w35.cell? ⟨gb291, 7, none⟩ = some (.int .i64 a0_7) := (blk_cell BK291.out 7).trans rfl; have hcz37_8 : w35.cell? ⟨gb291, 8, none⟩ = some (.int .i64 a0_8) := (blk_cell BK291.out 8).trans rfl; have hcz37_9 : w35.cell? ⟨gb291, 9, none⟩ = some (.int .i64 a0_9) := (blk_cell BK291.out 9).trans rfl; have hcz37_10 : w35.cell? ⟨gb291, 10, none⟩ = some (.int .i64 a0_10) := (blk_cell BK291.out 10).trans rfl; have hcz37_11 : w35.cell? ⟨gb291, 11, none⟩ = some (.int .i64 a0_11) := (blk_cell BK291.out 11).trans rfl; have hfz37_0 := blk_frozen BK291.out 0; have hfz37_1 := blk_frozen BK291.out 1; have hfz37_2 := blk_frozen BK291.out 2; have hfz37_3 := blk_frozen BK291.out 3; have hfz37_4 := blk_frozen BK291.out 4; have hfz37_5 := blk_frozen BK291.out 5; have hfz37_6 := blk_frozen BK291.out 6; have hfz37_7 := blk_frozen BK291.out 7; have hfz37_8 := blk_frozen BK291.out 8; have hfz37_9 := blk_frozen BK291.out 9; have hfz37_10 := blk_frozen BK291.out 10; have hfz37_11 := blk_frozen BK291.out 11))
                  go_meet
                  case rel => exact ⟨_, (true), (by first | rfl | (simp; done) | (simp [*]; done) | (simp [Int.tdiv_eq_ediv_of_nonneg]; done) | (simp [Go.RowKit.wrap64]; done) | (simp [*, Go.RowKit.wrap64]; done)), H', ⟨by first | omega | exact Nat.le_refl _⟩, ⟨by (with_reducible repeat (first | refine blk_drewN ?_ _ | refine blk_drew ?_ | refine blk_alloc ?_ _)); exact BK291.out⟩, ⟨by (with_reducible repeat (first | refine blk_drewN ?_ _ | refine blk_drew ?_ | refine blk_alloc ?_ _)); exact BK292.out⟩, ⟨by repeat (first | (with_reducible first | exact HB.out | apply below_alloc | apply pw_below_drewN | apply below_drew1 | refine below_set ?_ GE291.out | refine below_set ?_ GE292.out) | exact HB.out)⟩⟩
                · rw [if_neg c32] at H
                  have c32b0 : decide (a0_4 < a4) = false := decide_eq_false c32
                  clear c32
                  by_cases c38 : a4 < (wrap64 (-a0_4))
                  · rw [if_pos c38] at H
                    have c38b0 : decide (a4 < (wrap64 (-a0_4))) = true := decide_eq_true c38
                    clear c38
                    have H' := Aside0.mk H
                    clear H
                    have hnb39 := NB291_292.out
                    have hnc39 := NB292_291.out
                    have hcz40_0 : w11.cell? ⟨gb291, 0, none⟩ = some (.int .i64 a0_0) := (blk_cell BK291.out 0).trans rfl
                    have hcz40_1 : w11.cell? ⟨gb291, 1, none⟩ = some (.int .i64 a0_1) := (blk_cell BK291.out 1).trans rfl
                    have hcz40_2 : w11.cell? ⟨gb291, 2, none⟩ = some (.int .i64 a0_2) := (blk_cell BK291.out 2).trans rfl
                    have hcz40_3 : w11.cell? ⟨gb291, 3, none⟩ = some (.int .i64 a0_3) := (blk_cell BK291.out 3).trans rfl
                    have hcz40_4 : w11.cell? ⟨gb291, 4, none⟩ = some (.int .i64 a0_4) := (blk_cell BK291.out 4).trans rfl
                    have hcz40_5 : w11.cell? ⟨gb291, 5, none⟩ = some (.int .i64 a0_5) := (blk_cell BK291.out 5).trans rfl
                    have hcz40_6 : w11.cell? ⟨gb291, 6, none⟩ = some (.int .i64 a0_6) := (blk_cell BK291.out 6).trans rfl
                    have hcz40_7 : w11.cell? ⟨gb291, 7, none⟩ = some (.int .i64 a0_7) := (blk_cell BK291.out 7).trans rfl
                    have hcz40_8 : w11.cell? ⟨gb291, 8, none⟩ = some (.int .i64 a0_8) := (blk_cell BK291.out 8).trans rfl
                    have hcz40_9 : w11.cell? ⟨gb291, 9, none⟩ = some (.int .i64 a0_9) := (blk_cell BK291.out 9).trans rfl
                    have hcz40_10 : w11.cell? ⟨gb291, 10, none⟩ = some (.int .i64 a0_10) := (blk_cell BK291.out 10).trans rfl
                    have hcz40_11 : w11.cell? ⟨gb291, 11, none⟩ = some (.int .i64 a0_11) := (blk_cell BK291.out 11).trans rfl
                    have hfz40_0 := blk_frozen BK291.out 0
                    have hfz40_1 := blk_frozen BK291.out 1
                    have hfz40_2 := blk_frozen BK291.out 2
                    have hfz40_3 := blk_frozen BK291.out 3
                    have hfz40_4 := blk_frozen BK291.out 4
                    have hfz40_5 := blk_frozen BK291.out 5
                    have hfz40_6 := blk_frozen BK291.out 6
                    have hfz40_7 := blk_frozen BK291.out 7
                    have hfz40_8 := blk_frozen BK291.out 8
                    have hfz40_9 := blk_frozen BK291.out 9
                    have hfz40_10 := blk_frozen BK291.out 10
                    have hfz40_11 := blk_frozen BK291.out 11
                    go_wp2_with (first | ((with_reducible refine gate_callee (f := 24) rfl ?_); refine goesL_ (some 18) rfl rfl Try.func24 (by kernel_rfl) rfl #[.agg #[.int .i64 a0_0, .int .i64 a0_1, .int .i64 a0_2, .int .i64 a0_3, .int .i64 a0_4, .int .i64 a0_5, .int .i64 a0_6, .int .i64 a0_7, .int .i64 a0_8, .int .i64 a0_9, .int .i64 a0_10, .int .i64 a0_11]] rfl (by (try simp only [List.map_toArray, List.map_cons, List.map_nil]); first | done | rfl | (simp only [List.length_drop, List.length_take]; rfl)) ?_; (with_reducible refine (limit_Check.calls k a0_0 a0_1 a0_2 a0_3 a0_4 a0_5 a0_6 a0_7 a0_8 a0_9 a0_10 a0_11 t294 _ A12.out).mono ?_); rintro e w41 ⟨rfl, hb⟩; refine ⟨_, rfl, ?_⟩; have n0_ := Aside0.mk (blk_below (g := gb291) (o := .cells #[.int .i64 a0_0, .int .i64 a0_1, .int .i64 a0_2, .int .i64 a0_3, .int .i64 a0_4, .int .i64 a0_5, .int .i64 a0_6, .int .i64 a0_7, .int .i64 a0_8, .int .i64 a0_9, .int .i64 a0_10, .int .i64 a0_11] 23 (0, 0)) (by (with_reducible repeat (first | refine blk_drewN ?_ _ | refine blk_drew ?_ | refine blk_alloc ?_ _)); exact BK291.out) hb); have n1_ := Aside0.mk (blk_below (g := gb292) (o := .cells #[.int .i64 a1_0, .int .i64 a1_1] 25 (0, 0)) (by (with_reducible repeat (first | refine blk_drewN ?_ _ | refine blk_drew ?_ | refine blk_alloc ?_ _)); exact BK292.out) hb); have n2_ := Aside0.mk (below_step (by repeat (first | (with_reducible first | exact HB.out | apply below_alloc | apply pw_below_drewN | apply below_drew1 | refine below_set ?_ GE291.out | refine below_set ?_ GE292.out) | exact HB.out)) hb); clear BK291; clear BK292; clear HB; have BK291 := n0_; have BK292 := n1_; have HB := n2_; clear n0_ n1_ n2_; (try clear hb); (try clear hb2); (try clear hk); (try clear hi); have hcz42_0 : w41.cell? ⟨gb292, 0, none⟩ = some (.int .i64 a1_0) := (blk_cell BK292.out 0).trans rfl; have hcz42_1 : w41.cell? ⟨gb292, 1, none⟩ = some (.int .i64 a1_1) := (blk_cell BK292.out 1).trans rfl; have hfz42_0 := blk_frozen BK292.out 0; have hfz42_1 := blk_frozen BK292.out 1; have hcz43_0 : w41.cell? ⟨gb291, 0, none⟩ = some (.int .i64 a0_0) := (blk_cell BK291.out 0).trans rfl; have hcz43_1 : w41.cell? ⟨gb291, 1, none⟩ = some (.int .i64 a0_1) := (blk_cell BK291.out 1).trans rfl; have hcz43_2 : w41.cell? ⟨gb291, 2, none⟩ = some (.int .i64 a0_2) := (blk_cell BK291.out 2).trans rfl; have hcz43_3 : w41.cell? ⟨gb291, 3, none⟩ = some (.int .i64 a0_3) := (blk_cell BK291.out 3).trans rfl; have hcz43_4 : w41.cell? ⟨gb291, 4, none⟩ = some (.int .i64 a0_4) := (blk_cell BK291.out 4).trans rfl; have hcz43_5 : w41.cell? ⟨gb291, 5, none⟩ = some (.int .i64 a0_5) := (blk_cell BK291.out 5).trans rfl; have hcz43_6 : w41.cell? ⟨gb291, 6, none⟩ = some (.int .i64 a0_6) := (blk_cell BK291.out 6).trans rfl; have hcz43_7 : w41.cell? ⟨gb291, 7, none⟩ = some (.int .i64 a0_7) := (blk_cell BK291.out 7).trans rfl; have hcz43_8 : w41.cell? ⟨gb291, 8, none⟩ = some (.int .i64 a0_8) := (blk_cell BK291.out 8).trans rfl; have hcz43_9 : w41.cell? ⟨gb291, 9, none⟩ = some (.int .i64 a0_9) := (blk_cell BK291.out 9).trans rfl; have hcz43_10 : w41.cell? ⟨gb291, 10, none⟩ = some (.int .i64 a0_10) := (blk_cell BK291.out 10).trans rfl; have hcz43_11 : w41.cell? ⟨gb291, 11, none⟩ = some (.int .i64 a0_11) := (blk_cell BK291.out 11).trans rfl; have hfz43_0 := blk_frozen BK291.out 0; have hfz43_1 := blk_frozen BK291.out 1; have hfz43_2 := blk_frozen BK291.out 2; have hfz43_3 := blk_frozen BK291.out 3; have hfz43_4 := blk_frozen BK291.out 4; have hfz43_5 := blk_frozen BK291.out 5; have hfz43_6 := blk_frozen BK291.out 6; have hfz43_7 := blk_frozen BK291.out 7; have hfz43_8 := blk_frozen BK291.out 8; have hfz43_9 := blk_frozen BK291.out 9; have hfz43_10 := blk_frozen BK291.out 10; have hfz43_11 := blk_frozen BK291.out 11))
                    go_meet
                    case rel => exact ⟨_, (true), (by first | rfl | (simp; done) | (simp [*]; done) | (simp [Int.tdiv_eq_ediv_of_nonneg]; done) | (simp [Go.RowKit.wrap64]; done) | (simp [*, Go.RowKit.wrap64]; done)), H', ⟨by first | omega | exact Nat.le_refl _⟩, ⟨by (with_reducible repeat (first | refine blk_drewN ?_ _ | refine blk_drew ?_ | refine blk_alloc ?_ _)); exact BK291.out⟩, ⟨by (with_reducible repeat (first | refine blk_drewN ?_ _ | refine blk_drew ?_ | refine blk_alloc ?_ _)); exact BK292.out⟩, ⟨by repeat (first | (with_reducible first | exact HB.out | apply below_alloc | apply pw_below_drewN | apply below_drew1 | refine below_set ?_ GE291.out | refine below_set ?_ GE292.out) | exact HB.out)⟩⟩
                  · rw [if_neg c38] at H
                    have c38b0 : decide (a4 < (wrap64 (-a0_4))) = false := decide_eq_false c38
                    clear c38
                    by_cases c44 : a3 > a0_5
                    · rw [if_pos c44] at H
                      have c44b0 : decide (a0_5 < a3) = true := decide_eq_true c44
                      clear c44
                      have H' := Aside0.mk H
                      clear H
                      have hnb45 := NB291_292.out
                      have hnc45 := NB292_291.out
                      have hcz46_0 : w11.cell? ⟨gb291, 0, none⟩ = some (.int .i64 a0_0) := (blk_cell BK291.out 0).trans rfl
                      have hcz46_1 : w11.cell? ⟨gb291, 1, none⟩ = some (.int .i64 a0_1) := (blk_cell BK291.out 1).trans rfl
                      have hcz46_2 : w11.cell? ⟨gb291, 2, none⟩ = some (.int .i64 a0_2) := (blk_cell BK291.out 2).trans rfl
                      have hcz46_3 : w11.cell? ⟨gb291, 3, none⟩ = some (.int .i64 a0_3) := (blk_cell BK291.out 3).trans rfl
                      have hcz46_4 : w11.cell? ⟨gb291, 4, none⟩ = some (.int .i64 a0_4) := (blk_cell BK291.out 4).trans rfl
                      have hcz46_5 : w11.cell? ⟨gb291, 5, none⟩ = some (.int .i64 a0_5) := (blk_cell BK291.out 5).trans rfl
                      have hcz46_6 : w11.cell? ⟨gb291, 6, none⟩ = some (.int .i64 a0_6) := (blk_cell BK291.out 6).trans rfl
                      have hcz46_7 : w11.cell? ⟨gb291, 7, none⟩ = some (.int .i64 a0_7) := (blk_cell BK291.out 7).trans rfl
                      have hcz46_8 : w11.cell? ⟨gb291, 8, none⟩ = some (.int .i64 a0_8) := (blk_cell BK291.out 8).trans rfl
                      have hcz46_9 : w11.cell? ⟨gb291, 9, none⟩ = some (.int .i64 a0_9) := (blk_cell BK291.out 9).trans rfl
                      have hcz46_10 : w11.cell? ⟨gb291, 10, none⟩ = some (.int .i64 a0_10) := (blk_cell BK291.out 10).trans rfl
                      have hcz46_11 : w11.cell? ⟨gb291, 11, none⟩ = some (.int .i64 a0_11) := (blk_cell BK291.out 11).trans rfl
                      have hfz46_0 := blk_frozen BK291.out 0
                      have hfz46_1 := blk_frozen BK291.out 1
                      have hfz46_2 := blk_frozen BK291.out 2
                      have hfz46_3 := blk_frozen BK291.out 3
                      have hfz46_4 := blk_frozen BK291.out 4
                      have hfz46_5 := blk_frozen BK291.out 5
                      have hfz46_6 := blk_frozen BK291.out 6
                      have hfz46_7 := blk_frozen BK291.out 7
                      have hfz46_8 := blk_frozen BK291.out 8
                      have hfz46_9 := blk_frozen BK291.out 9
                      have hfz46_10 := blk_frozen BK291.out 10
                      have hfz46_11 := blk_frozen BK291.out 11
                      go_wp2_with (first | ((with_reducible refine gate_callee (f := 24) rfl ?_); refine goesL_ (some 18) rfl rfl Try.func24 (by kernel_rfl) rfl #[.agg #[.int .i64 a0_0, .int .i64 a0_1, .int .i64 a0_2, .int .i64 a0_3, .int .i64 a0_4, .int .i64 a0_5, .int .i64 a0_6, .int .i64 a0_7, .int .i64 a0_8, .int .i64 a0_9, .int .i64 a0_10, .int .i64 a0_11]] rfl (by (try simp only [List.map_toArray, List.map_cons, List.map_nil]); first | done | rfl | (simp only [List.length_drop, List.length_take]; rfl)) ?_; (with_reducible refine (limit_Check.calls k a0_0 a0_1 a0_2 a0_3 a0_4 a0_5 a0_6 a0_7 a0_8 a0_9 a0_10 a0_11 t294 _ A12.out).mono ?_); rintro e w47 ⟨rfl, hb⟩; refine ⟨_, rfl, ?_⟩; have n0_ := Aside0.mk (blk_below (g := gb291) (o := .cells #[.int .i64 a0_0, .int .i64 a0_1, .int .i64 a0_2, .int .i64 a0_3, .int .i64 a0_4, .int .i64 a0_5, .int .i64 a0_6, .int .i64 a0_7, .int .i64 a0_8, .int .i64 a0_9, .int .i64 a0_10, .int .i64 a0_11] 23 (0, 0)) (by (with_reducible repeat (first | refine blk_drewN ?_ _ | refine blk_drew ?_ | refine blk_alloc ?_ _)); exact BK291.out) hb); have n1_ := Aside0.mk (blk_below (g := gb292) (o := .cells #[.int .i64 a1_0, .int .i64 a1_1] 25 (0, 0)) (by (with_reducible repeat (first | refine blk_drewN ?_ _ | refine blk_drew ?_ | refine blk_alloc ?_ _)); exact BK292.out) hb); have n2_ := Aside0.mk (below_step (by repeat (first | (with_reducible first | exact HB.out | apply below_alloc | apply pw_below_drewN | apply below_drew1 | refine below_set ?_ GE291.out | refine below_set ?_ GE292.out) | exact HB.out)) hb); clear BK291; clear BK292; clear HB; have BK291 := n0_; have BK292 := n1_; have HB := n2_; clear n0_ n1_ n2_; (try clear hb); (try clear hb2); (try clear hk); (try clear hi); have hcz48_0 : w47.cell? ⟨gb292, 0, none⟩ = some (.int .i64 a1_0) := (blk_cell BK292.out 0).trans rfl; have hcz48_1 : w47.cell? ⟨gb292, 1, none⟩ = some (.int .i64 a1_1) := (blk_cell BK292.out 1).trans rfl; have hfz48_0 := blk_frozen BK292.out 0; have hfz48_1 := blk_frozen BK292.out 1; have hcz49_0 : w47.cell? ⟨gb291, 0, none⟩ = some (.int .i64 a0_0) := (blk_cell BK291.out 0).trans rfl; have hcz49_1 : w47.cell? ⟨gb291, 1, none⟩ = some (.int .i64 a0_1) := (blk_cell BK291.out 1).trans rfl; have hcz49_2 : w47.cell? ⟨gb291, 2, none⟩ = some (.int .i64 a0_2) := (blk_cell BK291.out 2).trans rfl; have hcz49_3 : w47.cell? ⟨gb291, 3, none⟩ = some (.int .i64 a0_3) := (blk_cell BK291.out 3).trans rfl; have hcz49_4 : w47.cell? ⟨gb291, 4, none⟩ = some (.int .i64 a0_4) := (blk_cell BK291.out 4).trans rfl; have hcz49_5 : w47.cell? ⟨gb291, 5, none⟩ = some (.int .i64 a0_5) := (blk_cell BK291.out 5).trans rfl; have hcz49_6 : w47.cell? ⟨gb291, 6, none⟩ = some (.int .i64 a0_6) := (blk_cell BK291.out 6).trans rfl; have hcz49_7 : w47.cell? ⟨gb291, 7, none⟩ = some (.int .i64 a0_7) := (blk_cell BK291.out 7).trans rfl; have hcz49_8 : w47.cell? ⟨gb291, 8, none⟩ = some (.int .i64 a0_8) := (blk_cell BK291.out 8).trans rfl; have hcz49_9 : w47.cell? ⟨gb291, 9, none⟩ = some (.int .i64 a0_9) := (blk_cell BK291.out 9).trans rfl; have hcz49_10 : w47.cell? ⟨gb291, 10, none⟩ = some (.int .i64 a0_10) := (blk_cell BK291.out 10).trans rfl; have hcz49_11 : w47.cell? ⟨gb291, 11, none⟩ = some (.int .i64 a0_11) := (blk_cell BK291.out 11).trans rfl; have hfz49_0 := blk_frozen BK291.out 0; have hfz49_1 := blk_frozen BK291.out 1; have hfz49_2 := blk_frozen BK291.out 2; have hfz49_3 := blk_frozen BK291.out 3; have hfz49_4 := blk_frozen BK291.out 4; have hfz49_5 := blk_frozen BK291.out 5; have hfz49_6 := blk_frozen BK291.out 6; have hfz49_7 := blk_frozen BK291.out 7; have hfz49_8 := blk_frozen BK291.out 8; have hfz49_9 := blk_frozen BK291.out 9; have hfz49_10 := blk_frozen BK291.out 10; have hfz49_11 := blk_frozen BK291.out 11))
                      go_meet
                      case rel => exact ⟨_, (true), (by first | rfl | (simp; done) | (simp [*]; done) | (simp [Int.tdiv_eq_ediv_of_nonneg]; done) | (simp [Go.RowKit.wrap64]; done) | (simp [*, Go.RowKit.wrap64]; done)), H', ⟨by first | omega | exact Nat.le_refl _⟩, ⟨by (with_reducible repeat (first | refine blk_drewN ?_ _ | refine blk_drew ?_ | refine blk_alloc ?_ _)); exact BK291.out⟩, ⟨by (with_reducible repeat (first | refine blk_drewN ?_ _ | refine blk_drew ?_ | refine blk_alloc ?_ _)); exact BK292.out⟩, ⟨by repeat (first | (with_reducible first | exact HB.out | apply below_alloc | apply pw_below_drewN | apply below_drew1 | refine below_set ?_ GE291.out | refine below_set ?_ GE292.out) | exact HB.out)⟩⟩
                    · rw [if_neg c44] at H
                      have c44b0 : decide (a0_5 < a3) = false := decide_eq_false c44
                      clear c44
                      have H' := Aside0.mk H
                      clear H
                      have hnb50 := NB291_292.out
                      have hnc50 := NB292_291.out
                      have hcz51_0 : w11.cell? ⟨gb291, 0, none⟩ = some (.int .i64 a0_0) := (blk_cell BK291.out 0).trans rfl
                      have hcz51_1 : w11.cell? ⟨gb291, 1, none⟩ = some (.int .i64 a0_1) := (blk_cell BK291.out 1).trans rfl
                      have hcz51_2 : w11.cell? ⟨gb291, 2, none⟩ = some (.int .i64 a0_2) := (blk_cell BK291.out 2).trans rfl
                      have hcz51_3 : w11.cell? ⟨gb291, 3, none⟩ = some (.int .i64 a0_3) := (blk_cell BK291.out 3).trans rfl
                      have hcz51_4 : w11.cell? ⟨gb291, 4, none⟩ = some (.int .i64 a0_4) := (blk_cell BK291.out 4).trans rfl
                      have hcz51_5 : w11.cell? ⟨gb291, 5, none⟩ = some (.int .i64 a0_5) := (blk_cell BK291.out 5).trans rfl
                      have hcz51_6 : w11.cell? ⟨gb291, 6, none⟩ = some (.int .i64 a0_6) := (blk_cell BK291.out 6).trans rfl
                      have hcz51_7 : w11.cell? ⟨gb291, 7, none⟩ = some (.int .i64 a0_7) := (blk_cell BK291.out 7).trans rfl
                      have hcz51_8 : w11.cell? ⟨gb291, 8, none⟩ = some (.int .i64 a0_8) := (blk_cell BK291.out 8).trans rfl
                      have hcz51_9 : w11.cell? ⟨gb291, 9, none⟩ = some (.int .i64 a0_9) := (blk_cell BK291.out 9).trans rfl
                      have hcz51_10 : w11.cell? ⟨gb291, 10, none⟩ = some (.int .i64 a0_10) := (blk_cell BK291.out 10).trans rfl
                      have hcz51_11 : w11.cell? ⟨gb291, 11, none⟩ = some (.int .i64 a0_11) := (blk_cell BK291.out 11).trans rfl
                      have hfz51_0 := blk_frozen BK291.out 0
                      have hfz51_1 := blk_frozen BK291.out 1
                      have hfz51_2 := blk_frozen BK291.out 2
                      have hfz51_3 := blk_frozen BK291.out 3
                      have hfz51_4 := blk_frozen BK291.out 4
                      have hfz51_5 := blk_frozen BK291.out 5
                      have hfz51_6 := blk_frozen BK291.out 6
                      have hfz51_7 := blk_frozen BK291.out 7
                      have hfz51_8 := blk_frozen BK291.out 8
                      have hfz51_9 := blk_frozen BK291.out 9
                      have hfz51_10 := blk_frozen BK291.out 10
                      have hfz51_11 := blk_frozen BK291.out 11
                      go_wp2_with (first | ((with_reducible refine gate_callee (f := 24) rfl ?_); refine goesL_ (some 18) rfl rfl Try.func24 (by kernel_rfl) rfl #[.agg #[.int .i64 a0_0, .int .i64 a0_1, .int .i64 a0_2, .int .i64 a0_3, .int .i64 a0_4, .int .i64 a0_5, .int .i64 a0_6, .int .i64 a0_7, .int .i64 a0_8, .int .i64 a0_9, .int .i64 a0_10, .int .i64 a0_11]] rfl (by (try simp only [List.map_toArray, List.map_cons, List.map_nil]); first | done | rfl | (simp only [List.length_drop, List.length_take]; rfl)) ?_; (with_reducible refine (limit_Check.calls k a0_0 a0_1 a0_2 a0_3 a0_4 a0_5 a0_6 a0_7 a0_8 a0_9 a0_10 a0_11 t294 _ A12.out).mono ?_); rintro e w52 ⟨rfl, hb⟩; refine ⟨_, rfl, ?_⟩; have n0_ := Aside0.mk (blk_below (g := gb291) (o := .cells #[.int .i64 a0_0, .int .i64 a0_1, .int .i64 a0_2, .int .i64 a0_3, .int .i64 a0_4, .int .i64 a0_5, .int .i64 a0_6, .int .i64 a0_7, .int .i64 a0_8, .int .i64 a0_9, .int .i64 a0_10, .int .i64 a0_11] 23 (0, 0)) (by (with_reducible repeat (first | refine blk_drewN ?_ _ | refine blk_drew ?_ | refine blk_alloc ?_ _)); exact BK291.out) hb); have n1_ := Aside0.mk (blk_below (g := gb292) (o := .cells #[.int .i64 a1_0, .int .i64 a1_1] 25 (0, 0)) (by (with_reducible repeat (first | refine blk_drewN ?_ _ | refine blk_drew ?_ | refine blk_alloc ?_ _)); exact BK292.out) hb); have n2_ := Aside0.mk (below_step (by repeat (first | (with_reducible first | exact HB.out | apply below_alloc | apply pw_below_drewN | apply below_drew1 | refine below_set ?_ GE291.out | refine below_set ?_ GE292.out) | exact HB.out)) hb); clear BK291; clear BK292; clear HB; have BK291 := n0_; have BK292 := n1_; have HB := n2_; clear n0_ n1_ n2_; (try clear hb); (try clear hb2); (try clear hk); (try clear hi); have hcz53_0 : w52.cell? ⟨gb292, 0, none⟩ = some (.int .i64 a1_0) := (blk_cell BK292.out 0).trans rfl; have hcz53_1 : w52.cell? ⟨gb292, 1, none⟩ = some (.int .i64 a1_1) := (blk_cell BK292.out 1).trans rfl; have hfz53_0 := blk_frozen BK292.out 0; have hfz53_1 := blk_frozen BK292.out 1; have hcz54_0 : w52.cell? ⟨gb291, 0, none⟩ = some (.int .i64 a0_0) := (blk_cell BK291.out 0).trans rfl; have hcz54_1 : w52.cell? ⟨gb291, 1, none⟩ = some (.int .i64 a0_1) := (blk_cell BK291.out 1).trans rfl; have hcz54_2 : w52.cell? ⟨gb291, 2, none⟩ = some (.int .i64 a0_2) := (blk_cell BK291.out 2).trans rfl; have hcz54_3 : w52.cell? ⟨gb291, 3, none⟩ = some (.int .i64 a0_3) := (blk_cell BK291.out 3).trans rfl; have hcz54_4 : w52.cell? ⟨gb291, 4, none⟩ = some (.int .i64 a0_4) := (blk_cell BK291.out 4).trans rfl; have hcz54_5 : w52.cell? ⟨gb291, 5, none⟩ = some (.int .i64 a0_5) := (blk_cell BK291.out 5).trans rfl; have hcz54_6 : w52.cell? ⟨gb291, 6, none⟩ = some (.int .i64 a0_6) := (blk_cell BK291.out 6).trans rfl; have hcz54_7 : w52.cell? ⟨gb291, 7, none⟩ = some (.int .i64 a0_7) := (blk_cell BK291.out 7).trans rfl; have hcz54_8 : w52.cell? ⟨gb291, 8, none⟩ = some (.int .i64 a0_8) := (blk_cell BK291.out 8).trans rfl; have hcz54_9 : w52.cell? ⟨gb291, 9, none⟩ = some (.int .i64 a0_9) := (blk_cell BK291.out 9).trans rfl; have hcz54_10 : w52.cell? ⟨gb291, 10, none⟩ = some (.int .i64 a0_10) := (blk_cell BK291.out 10).trans rfl; have hcz54_11 : w52.cell? ⟨gb291, 11, none⟩ = some (.int .i64 a0_11) := (blk_cell BK291.out 11).trans rfl; have hfz54_0 := blk_frozen BK291.out 0; have hfz54_1 := blk_frozen BK291.out 1; have hfz54_2 := blk_frozen BK291.out 2; have hfz54_3 := blk_frozen BK291.out 3; have hfz54_4 := blk_frozen BK291.out 4; have hfz54_5 := blk_frozen BK291.out 5; have hfz54_6 := blk_frozen BK291.out 6; have hfz54_7 := blk_frozen BK291.out 7; have hfz54_8 := blk_frozen BK291.out 8; have hfz54_9 := blk_frozen BK291.out 9; have hfz54_10 := blk_frozen BK291.out 10; have hfz54_11 := blk_frozen BK291.out 11))
                      go_meet
                      case rel => exact ⟨_, (decide (a3 < (wrap64 (a0_5 - a0_6)))), (by first | rfl | (simp; done) | (simp [*]; done) | (simp [Int.tdiv_eq_ediv_of_nonneg]; done) | (simp [Go.RowKit.wrap64]; done) | (simp [*, Go.RowKit.wrap64]; done)), H', ⟨by first | omega | exact Nat.le_refl _⟩, ⟨by (with_reducible repeat (first | refine blk_drewN ?_ _ | refine blk_drew ?_ | refine blk_alloc ?_ _)); exact BK291.out⟩, ⟨by (with_reducible repeat (first | refine blk_drewN ?_ _ | refine blk_drew ?_ | refine blk_alloc ?_ _)); exact BK292.out⟩, ⟨by repeat (first | (with_reducible first | exact HB.out | apply below_alloc | apply pw_below_drewN | apply below_drew1 | refine below_set ?_ GE291.out | refine below_set ?_ GE292.out) | exact HB.out)⟩⟩
      · rw [if_neg c13] at H
        have c13b0 : (t294 == 0) = false := beq_eq_false_iff_ne.mpr c13
        have c13b1 : (t294 != 0) = true := bne_iff_ne.mpr c13
        (first | rw [c13b0] | (simp only [i64_w, i32_w]; rw [c13b0]) | skip)
        have H' := Aside0.mk H
        clear H
        have hnb55 := NB291_292.out
        have hnc55 := NB292_291.out
        have hcz56_0 : w11.cell? ⟨gb291, 0, none⟩ = some (.int .i64 a0_0) := (blk_cell BK291.out 0).trans rfl
        have hcz56_1 : w11.cell? ⟨gb291, 1, none⟩ = some (.int .i64 a0_1) := (blk_cell BK291.out 1).trans rfl
        have hcz56_2 : w11.cell? ⟨gb291, 2, none⟩ = some (.int .i64 a0_2) := (blk_cell BK291.out 2).trans rfl
        have hcz56_3 : w11.cell? ⟨gb291, 3, none⟩ = some (.int .i64 a0_3) := (blk_cell BK291.out 3).trans rfl
        have hcz56_4 : w11.cell? ⟨gb291, 4, none⟩ = some (.int .i64 a0_4) := (blk_cell BK291.out 4).trans rfl
        have hcz56_5 : w11.cell? ⟨gb291, 5, none⟩ = some (.int .i64 a0_5) := (blk_cell BK291.out 5).trans rfl
        have hcz56_6 : w11.cell? ⟨gb291, 6, none⟩ = some (.int .i64 a0_6) := (blk_cell BK291.out 6).trans rfl
        have hcz56_7 : w11.cell? ⟨gb291, 7, none⟩ = some (.int .i64 a0_7) := (blk_cell BK291.out 7).trans rfl
        have hcz56_8 : w11.cell? ⟨gb291, 8, none⟩ = some (.int .i64 a0_8) := (blk_cell BK291.out 8).trans rfl
        have hcz56_9 : w11.cell? ⟨gb291, 9, none⟩ = some (.int .i64 a0_9) := (blk_cell BK291.out 9).trans rfl
        have hcz56_10 : w11.cell? ⟨gb291, 10, none⟩ = some (.int .i64 a0_10) := (blk_cell BK291.out 10).trans rfl
        have hcz56_11 : w11.cell? ⟨gb291, 11, none⟩ = some (.int .i64 a0_11) := (blk_cell BK291.out 11).trans rfl
        have hfz56_0 := blk_frozen BK291.out 0
        have hfz56_1 := blk_frozen BK291.out 1
        have hfz56_2 := blk_frozen BK291.out 2
        have hfz56_3 := blk_frozen BK291.out 3
        have hfz56_4 := blk_frozen BK291.out 4
        have hfz56_5 := blk_frozen BK291.out 5
        have hfz56_6 := blk_frozen BK291.out 6
        have hfz56_7 := blk_frozen BK291.out 7
        have hfz56_8 := blk_frozen BK291.out 8
        have hfz56_9 := blk_frozen BK291.out 9
        have hfz56_10 := blk_frozen BK291.out 10
        have hfz56_11 := blk_frozen BK291.out 11
        go_wp2_with (first | ((with_reducible refine gate_callee (f := 24) rfl ?_); refine goesL_ (some 18) rfl rfl Try.func24 (by kernel_rfl) rfl #[.agg #[.int .i64 a0_0, .int .i64 a0_1, .int .i64 a0_2, .int .i64 a0_3, .int .i64 a0_4, .int .i64 a0_5, .int .i64 a0_6, .int .i64 a0_7, .int .i64 a0_8, .int .i64 a0_9, .int .i64 a0_10, .int .i64 a0_11]] rfl (by (try simp only [List.map_toArray, List.map_cons, List.map_nil]); first | done | rfl | (simp only [List.length_drop, List.length_take]; rfl)) ?_; (with_reducible refine (limit_Check.calls k a0_0 a0_1 a0_2 a0_3 a0_4 a0_5 a0_6 a0_7 a0_8 a0_9 a0_10 a0_11 t294 _ A12.out).mono ?_); rintro e w57 ⟨rfl, hb⟩; refine ⟨_, rfl, ?_⟩; have n0_ := Aside0.mk (blk_below (g := gb291) (o := .cells #[.int .i64 a0_0, .int .i64 a0_1, .int .i64 a0_2, .int .i64 a0_3, .int .i64 a0_4, .int .i64 a0_5, .int .i64 a0_6, .int .i64 a0_7, .int .i64 a0_8, .int .i64 a0_9, .int .i64 a0_10, .int .i64 a0_11] 23 (0, 0)) (by (with_reducible repeat (first | refine blk_drewN ?_ _ | refine blk_drew ?_ | refine blk_alloc ?_ _)); exact BK291.out) hb); have n1_ := Aside0.mk (blk_below (g := gb292) (o := .cells #[.int .i64 a1_0, .int .i64 a1_1] 25 (0, 0)) (by (with_reducible repeat (first | refine blk_drewN ?_ _ | refine blk_drew ?_ | refine blk_alloc ?_ _)); exact BK292.out) hb); have n2_ := Aside0.mk (below_step (by repeat (first | (with_reducible first | exact HB.out | apply below_alloc | apply pw_below_drewN | apply below_drew1 | refine below_set ?_ GE291.out | refine below_set ?_ GE292.out) | exact HB.out)) hb); clear BK291; clear BK292; clear HB; have BK291 := n0_; have BK292 := n1_; have HB := n2_; clear n0_ n1_ n2_; (try clear hb); (try clear hb2); (try clear hk); (try clear hi)))
        go_meet
        case rel => exact ⟨_, (true), (by first | rfl | (simp; done) | (simp [*]; done) | (simp [Int.tdiv_eq_ediv_of_nonneg]; done) | (simp [Go.RowKit.wrap64]; done) | (simp [*, Go.RowKit.wrap64]; done)), H', ⟨by first | omega | exact Nat.le_refl _⟩, ⟨by (with_reducible repeat (first | refine blk_drewN ?_ _ | refine blk_drew ?_ | refine blk_alloc ?_ _)); exact BK291.out⟩, ⟨by (with_reducible repeat (first | refine blk_drewN ?_ _ | refine blk_drew ?_ | refine blk_alloc ?_ _)); exact BK292.out⟩, ⟨by repeat (first | (with_reducible first | exact HB.out | apply below_alloc | apply pw_below_drewN | apply below_drew1 | refine below_set ?_ GE291.out | refine below_set ?_ GE292.out) | exact HB.out)⟩⟩
    case rest =>
      clear HC8
      try clear c1
      try clear c2
      try clear p2
      try clear c3
      try clear c4
      try clear c5
      try clear p6
      try clear c7
      try clear c13
      try clear c13b0
      try clear c13b1
      try clear c14
      try clear c14b0
      try clear c15
      try clear c18
      try clear c18b0
      try clear c19
      try clear c22
      try clear c22b0
      try clear c23
      try clear c24
      try clear c27
      try clear c27b0
      try clear c28
      try clear c32
      try clear c32b0
      try clear c33
      try clear c38
      try clear c38b0
      try clear c39
      try clear c44
      try clear c44b0
      try clear c45
      try clear c50
      try clear c55
      try clear hcz16_0
      try clear hcz16_1
      try clear hcz16_10
      try clear hcz16_11
      try clear hcz16_2
      try clear hcz16_3
      try clear hcz16_4
      try clear hcz16_5
      try clear hcz16_6
      try clear hcz16_7
      try clear hcz16_8
      try clear hcz16_9
      try clear hcz20_0
      try clear hcz20_1
      try clear hcz20_10
      try clear hcz20_11
      try clear hcz20_2
      try clear hcz20_3
      try clear hcz20_4
      try clear hcz20_5
      try clear hcz20_6
      try clear hcz20_7
      try clear hcz20_8
      try clear hcz20_9
      try clear hcz24_0
      try clear hcz24_1
      try clear hcz24_10
      try clear hcz24_11
      try clear hcz24_2
      try clear hcz24_3
      try clear hcz24_4
      try clear hcz24_5
      try clear hcz24_6
      try clear hcz24_7
      try clear hcz24_8
      try clear hcz24_9
      try clear hcz26_0
      try clear hcz26_1
      try clear hcz29_0
      try clear hcz29_1
      try clear hcz29_10
      try clear hcz29_11
      try clear hcz29_2
      try clear hcz29_3
      try clear hcz29_4
      try clear hcz29_5
      try clear hcz29_6
      try clear hcz29_7
      try clear hcz29_8
      try clear hcz29_9
      try clear hcz31_0
      try clear hcz31_1
      try clear hcz34_0
      try clear hcz34_1
      try clear hcz34_10
      try clear hcz34_11
      try clear hcz34_2
      try clear hcz34_3
      try clear hcz34_4
      try clear hcz34_5
      try clear hcz34_6
      try clear hcz34_7
      try clear hcz34_8
      try clear hcz34_9
      try clear hcz36_0
      try clear hcz36_1
      try clear hcz37_0
      try clear hcz37_1
      try clear hcz37_10
      try clear hcz37_11
      try clear hcz37_2
      try clear hcz37_3
      try clear hcz37_4
      try clear hcz37_5
      try clear hcz37_6
      try clear hcz37_7
      try clear hcz37_8
      try clear hcz37_9
      try clear hcz40_0
      try clear hcz40_1
      try clear hcz40_10
      try clear hcz40_11
      try clear hcz40_2
      try clear hcz40_3
      try clear hcz40_4
      try clear hcz40_5
      try clear hcz40_6
      try clear hcz40_7
      try clear hcz40_8
      try clear hcz40_9
      try clear hcz42_0
      try clear hcz42_1
      try clear hcz43_0
      try clear hcz43_1
      try clear hcz43_10
      try clear hcz43_11
      try clear hcz43_2
      try clear hcz43_3
      try clear hcz43_4
      try clear hcz43_5
      try clear hcz43_6
      try clear hcz43_7
      try clear hcz43_8
      try clear hcz43_9
      try clear hcz46_0
      try clear hcz46_1
      try clear hcz46_10
      try clear hcz46_11
      try clear hcz46_2
      try clear hcz46_3
      try clear hcz46_4
      try clear hcz46_5
      try clear hcz46_6
      try clear hcz46_7
      try clear hcz46_8
      try clear hcz46_9
      try clear hcz48_0
      try clear hcz48_1
      try clear hcz49_0
      try clear hcz49_1
      try clear hcz49_10
      try clear hcz49_11
      try clear hcz49_2
      try clear hcz49_3
      try clear hcz49_4
      try clear hcz49_5
      try clear hcz49_6
      try clear hcz49_7
      try clear hcz49_8
      try clear hcz49_9
      try clear hcz51_0
      try clear hcz51_1
      try clear hcz51_10
      try clear hcz51_11
      try clear hcz51_2
      try clear hcz51_3
      try clear hcz51_4
      try clear hcz51_5
      try clear hcz51_6
      try clear hcz51_7
      try clear hcz51_8
      try clear hcz51_9
      try clear hcz53_0
      try clear hcz53_1
      try clear hcz54_0
      try clear hcz54_1
      try clear hcz54_10
      try clear hcz54_11
      try clear hcz54_2
      try clear hcz54_3
      try clear hcz54_4
      try clear hcz54_5
      try clear hcz54_6
      try clear hcz54_7
      try clear hcz54_8
      try clear hcz54_9
      try clear hcz56_0
      try clear hcz56_1
      try clear hcz56_10
      try clear hcz56_11
      try clear hcz56_2
      try clear hcz56_3
      try clear hcz56_4
      try clear hcz56_5
      try clear hcz56_6
      try clear hcz56_7
      try clear hcz56_8
      try clear hcz56_9
      try clear hfz16_0
      try clear hfz16_1
      try clear hfz16_10
      try clear hfz16_11
      try clear hfz16_2
      try clear hfz16_3
      try clear hfz16_4
      try clear hfz16_5
      try clear hfz16_6
      try clear hfz16_7
      try clear hfz16_8
      try clear hfz16_9
      try clear hfz20_0
      try clear hfz20_1
      try clear hfz20_10
      try clear hfz20_11
      try clear hfz20_2
      try clear hfz20_3
      try clear hfz20_4
      try clear hfz20_5
      try clear hfz20_6
      try clear hfz20_7
      try clear hfz20_8
      try clear hfz20_9
      try clear hfz24_0
      try clear hfz24_1
      try clear hfz24_10
      try clear hfz24_11
      try clear hfz24_2
      try clear hfz24_3
      try clear hfz24_4
      try clear hfz24_5
      try clear hfz24_6
      try clear hfz24_7
      try clear hfz24_8
      try clear hfz24_9
      try clear hfz26_0
      try clear hfz26_1
      try clear hfz29_0
      try clear hfz29_1
      try clear hfz29_10
      try clear hfz29_11
      try clear hfz29_2
      try clear hfz29_3
      try clear hfz29_4
      try clear hfz29_5
      try clear hfz29_6
      try clear hfz29_7
      try clear hfz29_8
      try clear hfz29_9
      try clear hfz31_0
      try clear hfz31_1
      try clear hfz34_0
      try clear hfz34_1
      try clear hfz34_10
      try clear hfz34_11
      try clear hfz34_2
      try clear hfz34_3
      try clear hfz34_4
      try clear hfz34_5
      try clear hfz34_6
      try clear hfz34_7
      try clear hfz34_8
      try clear hfz34_9
      try clear hfz36_0
      try clear hfz36_1
      try clear hfz37_0
      try clear hfz37_1
      try clear hfz37_10
      try clear hfz37_11
      try clear hfz37_2
      try clear hfz37_3
      try clear hfz37_4
      try clear hfz37_5
      try clear hfz37_6
      try clear hfz37_7
      try clear hfz37_8
      try clear hfz37_9
      try clear hfz40_0
      try clear hfz40_1
      try clear hfz40_10
      try clear hfz40_11
      try clear hfz40_2
      try clear hfz40_3
      try clear hfz40_4
      try clear hfz40_5
      try clear hfz40_6
      try clear hfz40_7
      try clear hfz40_8
      try clear hfz40_9
      try clear hfz42_0
      try clear hfz42_1
      try clear hfz43_0
      try clear hfz43_1
      try clear hfz43_10
      try clear hfz43_11
      try clear hfz43_2
      try clear hfz43_3
      try clear hfz43_4
      try clear hfz43_5
      try clear hfz43_6
      try clear hfz43_7
      try clear hfz43_8
      try clear hfz43_9
      try clear hfz46_0
      try clear hfz46_1
      try clear hfz46_10
      try clear hfz46_11
      try clear hfz46_2
      try clear hfz46_3
      try clear hfz46_4
      try clear hfz46_5
      try clear hfz46_6
      try clear hfz46_7
      try clear hfz46_8
      try clear hfz46_9
      try clear hfz48_0
      try clear hfz48_1
      try clear hfz49_0
      try clear hfz49_1
      try clear hfz49_10
      try clear hfz49_11
      try clear hfz49_2
      try clear hfz49_3
      try clear hfz49_4
      try clear hfz49_5
      try clear hfz49_6
      try clear hfz49_7
      try clear hfz49_8
      try clear hfz49_9
      try clear hfz51_0
      try clear hfz51_1
      try clear hfz51_10
      try clear hfz51_11
      try clear hfz51_2
      try clear hfz51_3
      try clear hfz51_4
      try clear hfz51_5
      try clear hfz51_6
      try clear hfz51_7
      try clear hfz51_8
      try clear hfz51_9
      try clear hfz53_0
      try clear hfz53_1
      try clear hfz54_0
      try clear hfz54_1
      try clear hfz54_10
      try clear hfz54_11
      try clear hfz54_2
      try clear hfz54_3
      try clear hfz54_4
      try clear hfz54_5
      try clear hfz54_6
      try clear hfz54_7
      try clear hfz54_8
      try clear hfz54_9
      try clear hfz56_0
      try clear hfz56_1
      try clear hfz56_10
      try clear hfz56_11
      try clear hfz56_2
      try clear hfz56_3
      try clear hfz56_4
      try clear hfz56_5
      try clear hfz56_6
      try clear hfz56_7
      try clear hfz56_8
      try clear hfz56_9
      obtain ⟨kq, x67_7, rfl, HA, HJ7, BK291, BK292, HB⟩ := hcut
      cases kq with
      | zero => exact absurd HA.out (by simp [clepsydralaw11_CarryBrings.j0])
      | succ kj7 =>
        have H := HA.out
        clear HA
        simp only [clepsydralaw11_CarryBrings.j0] at H
        by_cases c58 : x67_7 = true
        · subst c58
          have H1 : (some true) = some r := by rw [if_pos rfl] at H; exact H
          clear H
          have H := H1
          clear H1
          obtain rfl := Option.some.inj H
          go_wp2
          go_ret
          exact ⟨by first | rfl | (simp [errW_none, errW_some] <;> rfl) | (simp [*, errW_none, errW_some] <;> rfl), by repeat (first | (with_reducible first | exact HB.out | apply below_alloc | apply pw_below_drewN | apply below_drew1 | refine below_set ?_ GE291.out | refine below_set ?_ GE292.out) | exact HB.out)⟩
        · replace c58 := Bool.eq_false_iff.mpr c58
          subst c58
          have H1 : ((carry_Way.f kj7 a0_0 a0_1 a0_2 a0_3 a0_4 a0_5 a0_6 a0_7 a0_8 a0_9 a0_10 a0_11 a1_0 a1_1 (wrap64 ((wrap64 (a0_3 - a3)) + a4))).bind fun bt295 => ((carry_Ages.f kj7 a0_0 a0_1 a0_2 a0_3 a0_4 a0_5 a0_6 a0_7 a0_8 a0_9 a0_10 a0_11).bind fun bt298 => (if bt295.1 ≤ (wrap64 (a2 + a0_3)) then (if (wrap64 (a2 + a0_3)) ≤ bt295.2 then (if bt298.1 ≤ (wrap64 ((wrap64 (a0_3 - a3)) + a4)) then (some (decide ((wrap64 ((wrap64 (a0_3 - a3)) + a4)) ≤ bt298.2))) else (some false)) else (some false)) else (some false)))) = some r := by rw [if_neg (show ¬ (false = true) by decide)] at H; exact H
          clear H
          have H := H1
          clear H1
          replace H := Option.bind_eq_some_iff.mp H
          obtain ⟨⟨t295, t296⟩, A590, H⟩ := H
          replace H : ((carry_Ages.f kj7 a0_0 a0_1 a0_2 a0_3 a0_4 a0_5 a0_6 a0_7 a0_8 a0_9 a0_10 a0_11).bind fun bt298 => (if t295 ≤ (wrap64 (a2 + a0_3)) then (if (wrap64 (a2 + a0_3)) ≤ t296 then (if bt298.1 ≤ (wrap64 ((wrap64 (a0_3 - a3)) + a4)) then (some (decide ((wrap64 ((wrap64 (a0_3 - a3)) + a4)) ≤ bt298.2))) else (some false)) else (some false)) else (some false))) = some r := H
          have A59 := Aside0.mk A590
          clear A590
          replace H := Option.bind_eq_some_iff.mp H
          obtain ⟨⟨t298, t299⟩, A600, H⟩ := H
          replace H : (if t295 ≤ (wrap64 (a2 + a0_3)) then (if (wrap64 (a2 + a0_3)) ≤ t296 then (if t298 ≤ (wrap64 ((wrap64 (a0_3 - a3)) + a4)) then (some (decide ((wrap64 ((wrap64 (a0_3 - a3)) + a4)) ≤ t299))) else (some false)) else (some false)) else (some false)) = some r := H
          have A60 := Aside0.mk A600
          clear A600
          by_cases c61 : t295 ≤ (wrap64 (a2 + a0_3))
          · rw [if_pos c61] at H
            have c61b0 : decide (t295 ≤ (wrap64 (a2 + a0_3))) = true := decide_eq_true c61
            clear c61
            by_cases c62 : (wrap64 (a2 + a0_3)) ≤ t296
            · rw [if_pos c62] at H
              have c62b0 : decide ((wrap64 (a2 + a0_3)) ≤ t296) = true := decide_eq_true c62
              clear c62
              by_cases c63 : t298 ≤ (wrap64 ((wrap64 (a0_3 - a3)) + a4))
              · rw [if_pos c63] at H
                have c63b0 : decide (t298 ≤ (wrap64 ((wrap64 (a0_3 - a3)) + a4))) = true := decide_eq_true c63
                clear c63
                obtain rfl := Option.some.inj H
                have hnb64 := NB291_292.out
                have hnc64 := NB292_291.out
                have hcz65_0 : wc.cell? ⟨gb291, 0, none⟩ = some (.int .i64 a0_0) := (blk_cell BK291.out 0).trans rfl
                have hcz65_1 : wc.cell? ⟨gb291, 1, none⟩ = some (.int .i64 a0_1) := (blk_cell BK291.out 1).trans rfl
                have hcz65_2 : wc.cell? ⟨gb291, 2, none⟩ = some (.int .i64 a0_2) := (blk_cell BK291.out 2).trans rfl
                have hcz65_3 : wc.cell? ⟨gb291, 3, none⟩ = some (.int .i64 a0_3) := (blk_cell BK291.out 3).trans rfl
                have hcz65_4 : wc.cell? ⟨gb291, 4, none⟩ = some (.int .i64 a0_4) := (blk_cell BK291.out 4).trans rfl
                have hcz65_5 : wc.cell? ⟨gb291, 5, none⟩ = some (.int .i64 a0_5) := (blk_cell BK291.out 5).trans rfl
                have hcz65_6 : wc.cell? ⟨gb291, 6, none⟩ = some (.int .i64 a0_6) := (blk_cell BK291.out 6).trans rfl
                have hcz65_7 : wc.cell? ⟨gb291, 7, none⟩ = some (.int .i64 a0_7) := (blk_cell BK291.out 7).trans rfl
                have hcz65_8 : wc.cell? ⟨gb291, 8, none⟩ = some (.int .i64 a0_8) := (blk_cell BK291.out 8).trans rfl
                have hcz65_9 : wc.cell? ⟨gb291, 9, none⟩ = some (.int .i64 a0_9) := (blk_cell BK291.out 9).trans rfl
                have hcz65_10 : wc.cell? ⟨gb291, 10, none⟩ = some (.int .i64 a0_10) := (blk_cell BK291.out 10).trans rfl
                have hcz65_11 : wc.cell? ⟨gb291, 11, none⟩ = some (.int .i64 a0_11) := (blk_cell BK291.out 11).trans rfl
                have hfz65_0 := blk_frozen BK291.out 0
                have hfz65_1 := blk_frozen BK291.out 1
                have hfz65_2 := blk_frozen BK291.out 2
                have hfz65_3 := blk_frozen BK291.out 3
                have hfz65_4 := blk_frozen BK291.out 4
                have hfz65_5 := blk_frozen BK291.out 5
                have hfz65_6 := blk_frozen BK291.out 6
                have hfz65_7 := blk_frozen BK291.out 7
                have hfz65_8 := blk_frozen BK291.out 8
                have hfz65_9 := blk_frozen BK291.out 9
                have hfz65_10 := blk_frozen BK291.out 10
                have hfz65_11 := blk_frozen BK291.out 11
                have hcz66_0 : wc.cell? ⟨gb292, 0, none⟩ = some (.int .i64 a1_0) := (blk_cell BK292.out 0).trans rfl
                have hcz66_1 : wc.cell? ⟨gb292, 1, none⟩ = some (.int .i64 a1_1) := (blk_cell BK292.out 1).trans rfl
                have hfz66_0 := blk_frozen BK292.out 0
                have hfz66_1 := blk_frozen BK292.out 1
                go_wp2_with (first | ((with_reducible refine gate_callee (f := 18) rfl ?_); refine goesL_ (some 77) rfl rfl Try.func18 (by kernel_rfl) rfl #[.agg #[.int .i64 a0_0, .int .i64 a0_1, .int .i64 a0_2, .int .i64 a0_3, .int .i64 a0_4, .int .i64 a0_5, .int .i64 a0_6, .int .i64 a0_7, .int .i64 a0_8, .int .i64 a0_9, .int .i64 a0_10, .int .i64 a0_11], .agg #[.int .i64 a1_0, .int .i64 a1_1], .int .i64 (wrap64 ((wrap64 (a0_3 - a3)) + a4))] rfl (by (try simp only [List.map_toArray, List.map_cons, List.map_nil]); first | done | rfl | (simp only [List.length_drop, List.length_take]; rfl)) ?_; (with_reducible refine (carry_Way.calls kj7 a0_0 a0_1 a0_2 a0_3 a0_4 a0_5 a0_6 a0_7 a0_8 a0_9 a0_10 a0_11 a1_0 a1_1 (wrap64 ((wrap64 (a0_3 - a3)) + a4)) t295 t296 _ A59.out).mono ?_); rintro e w67 ⟨rfl, hb⟩; refine ⟨_, rfl, ?_⟩; have n0_ := Aside0.mk (blk_below (g := gb291) (o := .cells #[.int .i64 a0_0, .int .i64 a0_1, .int .i64 a0_2, .int .i64 a0_3, .int .i64 a0_4, .int .i64 a0_5, .int .i64 a0_6, .int .i64 a0_7, .int .i64 a0_8, .int .i64 a0_9, .int .i64 a0_10, .int .i64 a0_11] 23 (0, 0)) (by (with_reducible repeat (first | refine blk_drewN ?_ _ | refine blk_drew ?_ | refine blk_alloc ?_ _)); exact BK291.out) hb); have n1_ := Aside0.mk (blk_below (g := gb292) (o := .cells #[.int .i64 a1_0, .int .i64 a1_1] 25 (0, 0)) (by (with_reducible repeat (first | refine blk_drewN ?_ _ | refine blk_drew ?_ | refine blk_alloc ?_ _)); exact BK292.out) hb); have n2_ := Aside0.mk (below_step (by repeat (first | (with_reducible first | exact HB.out | apply below_alloc | apply pw_below_drewN | apply below_drew1 | refine below_set ?_ GE291.out | refine below_set ?_ GE292.out) | exact HB.out)) hb); clear BK291; clear BK292; clear HB; have BK291 := n0_; have BK292 := n1_; have HB := n2_; clear n0_ n1_ n2_; (try clear hb); (try clear hb2); (try clear hk); (try clear hi)) | ((with_reducible refine gate_dst (N := 12) rfl ?_); refine box_event ?hg (N := 12) ?hd (cs := #[.int .i64 0, .int .i64 0]) (t := 25) ?hr ?_; (case hd => rfl); (case hg => rfl); (case hr => first | (go_simp; done) | (go_simp; rfl)); intro gb297 hg w68 hbox hb; have n0_ := Aside0.mk (blk_below (g := gb291) (o := .cells #[.int .i64 a0_0, .int .i64 a0_1, .int .i64 a0_2, .int .i64 a0_3, .int .i64 a0_4, .int .i64 a0_5, .int .i64 a0_6, .int .i64 a0_7, .int .i64 a0_8, .int .i64 a0_9, .int .i64 a0_10, .int .i64 a0_11] 23 (0, 0)) (by (with_reducible repeat (first | refine blk_drewN ?_ _ | refine blk_drew ?_ | refine blk_alloc ?_ _)); exact BK291.out) hb); have n1_ := Aside0.mk (blk_below (g := gb292) (o := .cells #[.int .i64 a1_0, .int .i64 a1_1] 25 (0, 0)) (by (with_reducible repeat (first | refine blk_drewN ?_ _ | refine blk_drew ?_ | refine blk_alloc ?_ _)); exact BK292.out) hb); have n2_ := Aside0.mk (below_step (by repeat (first | (with_reducible first | exact HB.out | apply below_alloc | apply pw_below_drewN | apply below_drew1 | refine below_set ?_ GE291.out | refine below_set ?_ GE292.out) | exact HB.out)) hb); have n3_ := Aside0.mk (hbox); have n4_ := Aside0.mk ((by rw [hg]; exact (below_size (by repeat (first | (with_reducible first | exact HB.out | apply below_alloc | apply pw_below_drewN | apply below_drew1 | refine below_set ?_ GE291.out | refine below_set ?_ GE292.out) | exact HB.out))) : w.heap.size ≤ gb297)); have n5_ := Aside0.mk ((by rw [hg]; exact (below_size (by repeat (first | (with_reducible first | exact HB.out | apply below_alloc | apply pw_below_drewN | apply below_drew1 | refine below_set ?_ GE291.out | refine below_set ?_ GE292.out) | exact HB.out))) : w.heap.size ≤ gb297)); have n6_ := Aside0.mk ((by rw [hg]; exact Nat.ne_of_lt (blk_lt (g := gb291) (o := .cells #[.int .i64 a0_0, .int .i64 a0_1, .int .i64 a0_2, .int .i64 a0_3, .int .i64 a0_4, .int .i64 a0_5, .int .i64 a0_6, .int .i64 a0_7, .int .i64 a0_8, .int .i64 a0_9, .int .i64 a0_10, .int .i64 a0_11] 23 (0, 0)) (by (with_reducible repeat (first | refine blk_drewN ?_ _ | refine blk_drew ?_ | refine blk_alloc ?_ _)); exact BK291.out)) : gb291 ≠ gb297)); have n7_ := Aside0.mk ((by rw [hg]; exact Nat.ne_of_gt (blk_lt (g := gb291) (o := .cells #[.int .i64 a0_0, .int .i64 a0_1, .int .i64 a0_2, .int .i64 a0_3, .int .i64 a0_4, .int .i64 a0_5, .int .i64 a0_6, .int .i64 a0_7, .int .i64 a0_8, .int .i64 a0_9, .int .i64 a0_10, .int .i64 a0_11] 23 (0, 0)) (by (with_reducible repeat (first | refine blk_drewN ?_ _ | refine blk_drew ?_ | refine blk_alloc ?_ _)); exact BK291.out)) : gb297 ≠ gb291)); have n8_ := Aside0.mk ((by rw [hg]; exact Nat.ne_of_lt (blk_lt (g := gb292) (o := .cells #[.int .i64 a1_0, .int .i64 a1_1] 25 (0, 0)) (by (with_reducible repeat (first | refine blk_drewN ?_ _ | refine blk_drew ?_ | refine blk_alloc ?_ _)); exact BK292.out)) : gb292 ≠ gb297)); have n9_ := Aside0.mk ((by rw [hg]; exact Nat.ne_of_gt (blk_lt (g := gb292) (o := .cells #[.int .i64 a1_0, .int .i64 a1_1] 25 (0, 0)) (by (with_reducible repeat (first | refine blk_drewN ?_ _ | refine blk_drew ?_ | refine blk_alloc ?_ _)); exact BK292.out)) : gb297 ≠ gb292)); clear BK291; clear BK292; clear HB; have BK291 := n0_; have BK292 := n1_; have HB := n2_; have BK297 := n3_; have GW297 := n4_; have GE297 := n5_; have NB291_297 := n6_; have NB297_291 := n7_; have NB292_297 := n8_; have NB297_292 := n9_; clear n0_ n1_ n2_ n3_ n4_ n5_ n6_ n7_ n8_ n9_; clear hb hbox hg; have hnb69 := NB297_291.out; have hnc69 := NB291_297.out; have hnb70 := NB297_292.out; have hnc70 := NB292_297.out; have hcz71_0 : w68.cell? ⟨gb297, 0, none⟩ = some (.int .i64 0) := (blk_cell BK297.out 0).trans rfl; have hcz71_1 : w68.cell? ⟨gb297, 1, none⟩ = some (.int .i64 0) := (blk_cell BK297.out 1).trans rfl; have hfz71_0 := blk_frozen BK297.out 0; have hfz71_1 := blk_frozen BK297.out 1; have hcz72_0 : w68.cell? ⟨gb291, 0, none⟩ = some (.int .i64 a0_0) := (blk_cell BK291.out 0).trans rfl; have hcz72_1 : w68.cell? ⟨gb291, 1, none⟩ = some (.int .i64 a0_1) := (blk_cell BK291.out 1).trans rfl; have hcz72_2 : w68.cell? ⟨gb291, 2, none⟩ = some (.int .i64 a0_2) := (blk_cell BK291.out 2).trans rfl; have hcz72_3 : w68.cell? ⟨gb291, 3, none⟩ = some (.int .i64 a0_3) := (blk_cell BK291.out 3).trans rfl; have hcz72_4 : w68.cell? ⟨gb291, 4, none⟩ = some (.int .i64 a0_4) := (blk_cell BK291.out 4).trans rfl; have hcz72_5 : w68.cell? ⟨gb291, 5, none⟩ = some (.int .i64 a0_5) := (blk_cell BK291.out 5).trans rfl; have hcz72_6 : w68.cell? ⟨gb291, 6, none⟩ = some (.int .i64 a0_6) := (blk_cell BK291.out 6).trans rfl; have hcz72_7 : w68.cell? ⟨gb291, 7, none⟩ = some (.int .i64 a0_7) := (blk_cell BK291.out 7).trans rfl; have hcz72_8 : w68.cell? ⟨gb291, 8, none⟩ = some (.int .i64 a0_8) := (blk_cell BK291.out 8).trans rfl; have hcz72_9 : w68.cell? ⟨gb291, 9, none⟩ = some (.int .i64 a0_9) := (blk_cell BK291.out 9).trans rfl; have hcz72_10 : w68.cell? ⟨gb291, 10, none⟩ = some (.int .i64 a0_10) := (blk_cell BK291.out 10).trans rfl; have hcz72_11 : w68.cell? ⟨gb291, 11, none⟩ = some (.int .i64 a0_11) := (blk_cell BK291.out 11).trans rfl; have hfz72_0 := blk_frozen BK291.out 0; have hfz72_1 := blk_frozen BK291.out 1; have hfz72_2 := blk_frozen BK291.out 2; have hfz72_3 := blk_frozen BK291.out 3; have hfz72_4 := blk_frozen BK291.out 4; have hfz72_5 := blk_frozen BK291.out 5; have hfz72_6 := blk_frozen BK291.out 6; have hfz72_7 := blk_frozen BK291.out 7; have hfz72_8 := blk_frozen BK291.out 8; have hfz72_9 := blk_frozen BK291.out 9; have hfz72_10 := blk_frozen BK291.out 10; have hfz72_11 := blk_frozen BK291.out 11) | ((with_reducible refine gate_callee (f := 22) rfl ?_); refine goesL_ (some 83) rfl rfl Try.func22 (by kernel_rfl) rfl #[.agg #[.int .i64 a0_0, .int .i64 a0_1, .int .i64 a0_2, .int .i64 a0_3, .int .i64 a0_4, .int .i64 a0_5, .int .i64 a0_6, .int .i64 a0_7, .int .i64 a0_8, .int .i64 a0_9, .int .i64 a0_10, .int .i64 a0_11]] rfl (by (try simp only [List.map_toArray, List.map_cons, List.map_nil]); first | done | rfl | (simp only [List.length_drop, List.length_take]; rfl)) ?_; (with_reducible refine (carry_Ages.calls kj7 a0_0 a0_1 a0_2 a0_3 a0_4 a0_5 a0_6 a0_7 a0_8 a0_9 a0_10 a0_11 t298 t299 _ A60.out).mono ?_); rintro e w73 ⟨rfl, hb⟩; refine ⟨_, rfl, ?_⟩; have n0_ := Aside0.mk (blk_below (g := gb291) (o := .cells #[.int .i64 a0_0, .int .i64 a0_1, .int .i64 a0_2, .int .i64 a0_3, .int .i64 a0_4, .int .i64 a0_5, .int .i64 a0_6, .int .i64 a0_7, .int .i64 a0_8, .int .i64 a0_9, .int .i64 a0_10, .int .i64 a0_11] 23 (0, 0)) (by (with_reducible repeat (first | refine blk_drewN ?_ _ | refine blk_drew ?_ | refine blk_alloc ?_ _)); refine blk_far ?_ NB291_297.out _; (with_reducible repeat (first | refine blk_drewN ?_ _ | refine blk_drew ?_ | refine blk_alloc ?_ _)); refine blk_far ?_ NB291_297.out _; (with_reducible repeat (first | refine blk_drewN ?_ _ | refine blk_drew ?_ | refine blk_alloc ?_ _)); exact BK291.out) hb); have n1_ := Aside0.mk (blk_below (g := gb292) (o := .cells #[.int .i64 a1_0, .int .i64 a1_1] 25 (0, 0)) (by (with_reducible repeat (first | refine blk_drewN ?_ _ | refine blk_drew ?_ | refine blk_alloc ?_ _)); refine blk_far ?_ NB292_297.out _; (with_reducible repeat (first | refine blk_drewN ?_ _ | refine blk_drew ?_ | refine blk_alloc ?_ _)); refine blk_far ?_ NB292_297.out _; (with_reducible repeat (first | refine blk_drewN ?_ _ | refine blk_drew ?_ | refine blk_alloc ?_ _)); exact BK292.out) hb); have n2_ := Aside0.mk (blk_below (g := gb297) (o := .cells #[.int .i64 t295, .int .i64 t296] 25 (0, 0)) (by (with_reducible repeat (first | refine blk_drewN ?_ _ | refine blk_drew ?_ | refine blk_alloc ?_ _)); refine blk_put (cs := #[.int .i64 t295, .int .i64 0]) ?_ 1 _ rfl; (with_reducible repeat (first | refine blk_drewN ?_ _ | refine blk_drew ?_ | refine blk_alloc ?_ _)); refine blk_put (cs := #[.int .i64 0, .int .i64 0]) ?_ 0 _ rfl; (with_reducible repeat (first | refine blk_drewN ?_ _ | refine blk_drew ?_ | refine blk_alloc ?_ _)); exact BK297.out) hb); have n3_ := Aside0.mk (below_step (by repeat (first | (with_reducible first | exact HB.out | apply below_alloc | apply pw_below_drewN | apply below_drew1 | refine below_set ?_ GE291.out | refine below_set ?_ GE292.out | refine below_set ?_ GE297.out) | exact HB.out)) hb); clear BK291; clear BK292; clear BK297; clear HB; have BK291 := n0_; have BK292 := n1_; have BK297 := n2_; have HB := n3_; clear n0_ n1_ n2_ n3_; (try clear hb); (try clear hb2); (try clear hk); (try clear hi)) | ((with_reducible refine gate_dst (N := 14) rfl ?_); refine box_event ?hg (N := 14) ?hd (cs := #[.int .i64 0, .int .i64 0]) (t := 25) ?hr ?_; (case hd => rfl); (case hg => rfl); (case hr => first | (go_simp; done) | (go_simp; rfl)); intro gb300 hg w74 hbox hb; have n0_ := Aside0.mk (blk_below (g := gb291) (o := .cells #[.int .i64 a0_0, .int .i64 a0_1, .int .i64 a0_2, .int .i64 a0_3, .int .i64 a0_4, .int .i64 a0_5, .int .i64 a0_6, .int .i64 a0_7, .int .i64 a0_8, .int .i64 a0_9, .int .i64 a0_10, .int .i64 a0_11] 23 (0, 0)) (by (with_reducible repeat (first | refine blk_drewN ?_ _ | refine blk_drew ?_ | refine blk_alloc ?_ _)); exact BK291.out) hb); have n1_ := Aside0.mk (blk_below (g := gb292) (o := .cells #[.int .i64 a1_0, .int .i64 a1_1] 25 (0, 0)) (by (with_reducible repeat (first | refine blk_drewN ?_ _ | refine blk_drew ?_ | refine blk_alloc ?_ _)); exact BK292.out) hb); have n2_ := Aside0.mk (blk_below (g := gb297) (o := .cells #[.int .i64 t295, .int .i64 t296] 25 (0, 0)) (by (with_reducible repeat (first | refine blk_drewN ?_ _ | refine blk_drew ?_ | refine blk_alloc ?_ _)); exact BK297.out) hb); have n3_ := Aside0.mk (below_step (by repeat (first | (with_reducible first | exact HB.out | apply below_alloc | apply pw_below_drewN | apply below_drew1 | refine below_set ?_ GE291.out | refine below_set ?_ GE292.out | refine below_set ?_ GE297.out) | exact HB.out)) hb); have n4_ := Aside0.mk (hbox); have n5_ := Aside0.mk ((by rw [hg]; exact (below_size (by repeat (first | (with_reducible first | exact HB.out | apply below_alloc | apply pw_below_drewN | apply below_drew1 | refine below_set ?_ GE291.out | refine below_set ?_ GE292.out | refine below_set ?_ GE297.out) | exact HB.out))) : w.heap.size ≤ gb300)); have n6_ := Aside0.mk ((by rw [hg]; exact (below_size (by repeat (first | (with_reducible first | exact HB.out | apply below_alloc | apply pw_below_drewN | apply below_drew1 | refine below_set ?_ GE291.out | refine below_set ?_ GE292.out | refine below_set ?_ GE297.out) | exact HB.out))) : w.heap.size ≤ gb300)); have n7_ := Aside0.mk ((by rw [hg]; exact Nat.ne_of_lt (blk_lt (g := gb291) (o := .cells #[.int .i64 a0_0, .int .i64 a0_1, .int .i64 a0_2, .int .i64 a0_3, .int .i64 a0_4, .int .i64 a0_5, .int .i64 a0_6, .int .i64 a0_7, .int .i64 a0_8, .int .i64 a0_9, .int .i64 a0_10, .int .i64 a0_11] 23 (0, 0)) (by (with_reducible repeat (first | refine blk_drewN ?_ _ | refine blk_drew ?_ | refine blk_alloc ?_ _)); exact BK291.out)) : gb291 ≠ gb300)); have n8_ := Aside0.mk ((by rw [hg]; exact Nat.ne_of_gt (blk_lt (g := gb291) (o := .cells #[.int .i64 a0_0, .int .i64 a0_1, .int .i64 a0_2, .int .i64 a0_3, .int .i64 a0_4, .int .i64 a0_5, .int .i64 a0_6, .int .i64 a0_7, .int .i64 a0_8, .int .i64 a0_9, .int .i64 a0_10, .int .i64 a0_11] 23 (0, 0)) (by (with_reducible repeat (first | refine blk_drewN ?_ _ | refine blk_drew ?_ | refine blk_alloc ?_ _)); exact BK291.out)) : gb300 ≠ gb291)); have n9_ := Aside0.mk ((by rw [hg]; exact Nat.ne_of_lt (blk_lt (g := gb292) (o := .cells #[.int .i64 a1_0, .int .i64 a1_1] 25 (0, 0)) (by (with_reducible repeat (first | refine blk_drewN ?_ _ | refine blk_drew ?_ | refine blk_alloc ?_ _)); exact BK292.out)) : gb292 ≠ gb300)); have n10_ := Aside0.mk ((by rw [hg]; exact Nat.ne_of_gt (blk_lt (g := gb292) (o := .cells #[.int .i64 a1_0, .int .i64 a1_1] 25 (0, 0)) (by (with_reducible repeat (first | refine blk_drewN ?_ _ | refine blk_drew ?_ | refine blk_alloc ?_ _)); exact BK292.out)) : gb300 ≠ gb292)); have n11_ := Aside0.mk ((by rw [hg]; exact Nat.ne_of_lt (blk_lt (g := gb297) (o := .cells #[.int .i64 t295, .int .i64 t296] 25 (0, 0)) (by (with_reducible repeat (first | refine blk_drewN ?_ _ | refine blk_drew ?_ | refine blk_alloc ?_ _)); exact BK297.out)) : gb297 ≠ gb300)); have n12_ := Aside0.mk ((by rw [hg]; exact Nat.ne_of_gt (blk_lt (g := gb297) (o := .cells #[.int .i64 t295, .int .i64 t296] 25 (0, 0)) (by (with_reducible repeat (first | refine blk_drewN ?_ _ | refine blk_drew ?_ | refine blk_alloc ?_ _)); exact BK297.out)) : gb300 ≠ gb297)); clear BK291; clear BK292; clear BK297; clear HB; have BK291 := n0_; have BK292 := n1_; have BK297 := n2_; have HB := n3_; have BK300 := n4_; have GW300 := n5_; have GE300 := n6_; have NB291_300 := n7_; have NB300_291 := n8_; have NB292_300 := n9_; have NB300_292 := n10_; have NB297_300 := n11_; have NB300_297 := n12_; clear n0_ n1_ n2_ n3_ n4_ n5_ n6_ n7_ n8_ n9_ n10_ n11_ n12_; clear hb hbox hg; have hnb75 := NB300_291.out; have hnc75 := NB291_300.out; have hnb76 := NB300_292.out; have hnc76 := NB292_300.out; have hnb77 := NB300_297.out; have hnc77 := NB297_300.out; have hcz78_0 : w74.cell? ⟨gb300, 0, none⟩ = some (.int .i64 0) := (blk_cell BK300.out 0).trans rfl; have hcz78_1 : w74.cell? ⟨gb300, 1, none⟩ = some (.int .i64 0) := (blk_cell BK300.out 1).trans rfl; have hfz78_0 := blk_frozen BK300.out 0; have hfz78_1 := blk_frozen BK300.out 1; have hcz79_0 : w74.cell? ⟨gb297, 0, none⟩ = some (.int .i64 t295) := (blk_cell BK297.out 0).trans rfl; have hcz79_1 : w74.cell? ⟨gb297, 1, none⟩ = some (.int .i64 t296) := (blk_cell BK297.out 1).trans rfl; have hfz79_0 := blk_frozen BK297.out 0; have hfz79_1 := blk_frozen BK297.out 1))
                go_ret
                exact ⟨by first | rfl | (simp [errW_none, errW_some] <;> rfl) | (simp [*, errW_none, errW_some] <;> rfl), by repeat (first | (with_reducible first | exact HB.out | apply below_alloc | apply pw_below_drewN | apply below_drew1 | refine below_set ?_ GE291.out | refine below_set ?_ GE292.out | refine below_set ?_ GE297.out | refine below_set ?_ GE300.out) | exact HB.out)⟩
              · rw [if_neg c63] at H
                have c63b0 : decide (t298 ≤ (wrap64 ((wrap64 (a0_3 - a3)) + a4))) = false := decide_eq_false c63
                clear c63
                exact absurd ((Option.some.inj H).trans hT.out) (by decide)
            · rw [if_neg c62] at H
              have c62b0 : decide ((wrap64 (a2 + a0_3)) ≤ t296) = false := decide_eq_false c62
              clear c62
              exact absurd ((Option.some.inj H).trans hT.out) (by decide)
          · rw [if_neg c61] at H
            have c61b0 : decide (t295 ≤ (wrap64 (a2 + a0_3))) = false := decide_eq_false c61
            clear c61
            exact absurd ((Option.some.inj H).trans hT.out) (by decide)
  · replace c7 := Bool.eq_false_iff.mpr c7
    subst c7
    have H1 : (some false) = some r := by rw [if_neg (show ¬ (false = true) by decide)] at H; exact H
    clear H
    have H := H1
    clear H1
    exact absurd ((Option.some.inj H).trans hT.out) (by decide)

end Go.Proofs.Ytigpigfoahlfjaa.Q
