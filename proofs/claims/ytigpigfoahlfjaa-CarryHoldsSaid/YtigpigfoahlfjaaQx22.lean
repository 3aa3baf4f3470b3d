/- The calls of these Go functions answer what the Lean functions beside them answer; written by a program (wip/pr2.py, out of the print of the loaded program); under no condition but those that stand in the theorems. -/
import Derived.Test.YtigpigfoahlfjaaQx0
import Derived.Test.YtigpigfoahlfjaaQx5
import Derived.Test.YtigpigfoahlfjaaQx8
import Derived.Test.YtigpigfoahlfjaaQx13
import Derived.Test.YtigpigfoahlfjaaQx18
namespace Go.Proofs.Ytigpigfoahlfjaa.Q
open Go.RowKit Go.Proofs.YtigpigfoahlfjaaW.PrintWords Go.Proofs.YtigpigfoahlfjaaW.PrintLast Go.Proofs.YtigpigfoahlfjaaW.PrintMore
attribute [local go_sem] max2_int min2_int max_two min_two max_three min_three max_four min_four   -- for this text's walks alone
set_option linter.unusedVariables false
set_option linter.unusedSimpArgs false

/-! ### clepsydralaw11_CarryHolds: function 7 -/
def clepsydralaw11_CarryHolds.j0 : Nat → Int → Int → Bool → Int → Int → Int → Int → Int → Int → Int → Int → Int → Int → Int → Int → Int → Int → Option (Bool)
  | 0, _, _, _, _, _, _, _, _, _, _, _, _, _, _, _, _, _ => none
  | k + 1, x2, x3, x48, x329000, x329001, x329002, x329003, x329004, x329005, x329006, x329007, x329008, x329009, x329010, x329011, x330000, x330001 => if x48 = true then (some true) else ((carry_Hold.f k x329000 x329001 x329002 x329003 x329004 x329005 x329006 x329007 x329008 x329009 x329010 x329011 x330000 x330001 (wrap64 (x329003 + x3))).bind fun bt332 => (if bt332.1 ≤ (wrap64 (x2 + x329003)) then (if (wrap64 (x2 + x329003)) ≤ bt332.2 then ((carry_Ticks.f k x329000 x329001 x329002 x329003 x329004 x329005 x329006 x329007 x329008 x329009 x329010 x329011).bind fun bt335 => (if bt335.1 ≤ (wrap64 (x329003 + x3)) then ((carry_Ticks.f k x329000 x329001 x329002 x329003 x329004 x329005 x329006 x329007 x329008 x329009 x329010 x329011).bind fun bt337 => (some (decide ((wrap64 (x329003 + x3)) ≤ bt337.2)))) else (some false))) else (some false)) else (some false)))
def clepsydralaw11_CarryHolds.f (k : Nat) (a0_0 : Int) (a0_1 : Int) (a0_2 : Int) (a0_3 : Int) (a0_4 : Int) (a0_5 : Int) (a0_6 : Int) (a0_7 : Int) (a0_8 : Int) (a0_9 : Int) (a0_10 : Int) (a0_11 : Int) (a1_0 : Int) (a1_1 : Int) (a2 : Int) (a3 : Int) : Option (Bool) := (clepsydralaw11_alive.f k).bind fun t330 => (if t330 = true then ((limit_Check.f k a0_0 a0_1 a0_2 a0_3 a0_4 a0_5 a0_6 a0_7 a0_8 a0_9 a0_10 a0_11).bind fun t331 => (if t331 = 0 then (if a2 > 1152921504606846976 then (clepsydralaw11_CarryHolds.j0 k a2 a3 true a0_0 a0_1 a0_2 a0_3 a0_4 a0_5 a0_6 a0_7 a0_8 a0_9 a0_10 a0_11 a1_0 a1_1) else (if a2 < (-1152921504606846976) then (clepsydralaw11_CarryHolds.j0 k a2 a3 true a0_0 a0_1 a0_2 a0_3 a0_4 a0_5 a0_6 a0_7 a0_8 a0_9 a0_10 a0_11 a1_0 a1_1) else (if a2 < a1_0 then (clepsydralaw11_CarryHolds.j0 k a2 a3 true a0_0 a0_1 a0_2 a0_3 a0_4 a0_5 a0_6 a0_7 a0_8 a0_9 a0_10 a0_11 a1_0 a1_1) else (if a2 > a1_1 then (clepsydralaw11_CarryHolds.j0 k a2 a3 true a0_0 a0_1 a0_2 a0_3 a0_4 a0_5 a0_6 a0_7 a0_8 a0_9 a0_10 a0_11 a1_0 a1_1) else (if a3 > a0_4 then (clepsydralaw11_CarryHolds.j0 k a2 a3 true a0_0 a0_1 a0_2 a0_3 a0_4 a0_5 a0_6 a0_7 a0_8 a0_9 a0_10 a0_11 a1_0 a1_1) else (clepsydralaw11_CarryHolds.j0 k a2 a3 (decide (a3 < (wrap64 (-a0_4)))) a0_0 a0_1 a0_2 a0_3 a0_4 a0_5 a0_6 a0_7 a0_8 a0_9 a0_10 a0_11 a1_0 a1_1)))))) else (clepsydralaw11_CarryHolds.j0 k a2 a3 true a0_0 a0_1 a0_2 a0_3 a0_4 a0_5 a0_6 a0_7 a0_8 a0_9 a0_10 a0_11 a1_0 a1_1))) else (some false))
theorem clepsydralaw11_CarryHolds.mono_l : ∀ k, (∀ y0 y1 y2 y3 y4 y5 y6 y7 y8 y9 y10 y11 y12 y13 y14 y15 y16, LeO (clepsydralaw11_CarryHolds.j0 k y0 y1 y2 y3 y4 y5 y6 y7 y8 y9 y10 y11 y12 y13 y14 y15 y16) (clepsydralaw11_CarryHolds.j0 (k + 1) y0 y1 y2 y3 y4 y5 y6 y7 y8 y9 y10 y11 y12 y13 y14 y15 y16))
  | 0 => fun _ _ _ _ _ _ _ _ _ _ _ _ _ _ _ _ _ r h => by simp [clepsydralaw11_CarryHolds.j0] at h
  | k + 1 => by
    have ih0 := clepsydralaw11_CarryHolds.mono_l k
    · intro y0 y1 y2 y3 y4 y5 y6 y7 y8 y9 y10 y11 y12 y13 y14 y15 y16
      unfold clepsydralaw11_CarryHolds.j0
      repeat' first
      | (with_reducible exact ih0 _ _ _ _ _ _ _ _ _ _ _ _ _ _ _ _ _)
      | (with_reducible exact carry_Hold.mono _ _ _ _ _ _ _ _ _ _ _ _ _ _ _ _)
      | (with_reducible exact carry_Ticks.mono _ _ _ _ _ _ _ _ _ _ _ _ _)
      | (with_reducible exact clepsydralaw11_alive.mono _)
      | (with_reducible exact limit_Check.mono _ _ _ _ _ _ _ _ _ _ _ _ _)
      | (with_reducible exact LeO.refl _)
      | (with_reducible exact LeO.none _)
      | (with_reducible refine LeO.ite ?_ ?_)
      | (with_reducible refine LeO.bind ?_ (fun _ => ?_))
      | exact ih0 _ _ _ _ _ _ _ _ _ _ _ _ _ _ _ _ _
      | exact carry_Hold.mono _ _ _ _ _ _ _ _ _ _ _ _ _ _ _ _
      | exact carry_Ticks.mono _ _ _ _ _ _ _ _ _ _ _ _ _
      | exact clepsydralaw11_alive.mono _
      | exact limit_Check.mono _ _ _ _ _ _ _ _ _ _ _ _ _
      | exact LeO.none _
      | refine LeO.ite ?_ ?_
      | refine LeO.bind ?_ (fun _ => ?_)
theorem clepsydralaw11_CarryHolds.mono : ∀ a0 a1 a2 a3 a4 a5 a6 a7 a8 a9 a10 a11 a12 a13 a14 a15 k, LeO (clepsydralaw11_CarryHolds.f k a0 a1 a2 a3 a4 a5 a6 a7 a8 a9 a10 a11 a12 a13 a14 a15) (clepsydralaw11_CarryHolds.f (k + 1) a0 a1 a2 a3 a4 a5 a6 a7 a8 a9 a10 a11 a12 a13 a14 a15) := by
  intro a0 a1 a2 a3 a4 a5 a6 a7 a8 a9 a10 a11 a12 a13 a14 a15 k
  have ih0 := clepsydralaw11_CarryHolds.mono_l k
  unfold clepsydralaw11_CarryHolds.f
  repeat' first
      | (with_reducible exact ih0 _ _ _ _ _ _ _ _ _ _ _ _ _ _ _ _ _)
      | (with_reducible exact carry_Hold.mono _ _ _ _ _ _ _ _ _ _ _ _ _ _ _ _)
      | (with_reducible exact carry_Ticks.mono _ _ _ _ _ _ _ _ _ _ _ _ _)
      | (with_reducible exact clepsydralaw11_alive.mono _)
      | (with_reducible exact limit_Check.mono _ _ _ _ _ _ _ _ _ _ _ _ _)
      | (with_reducible exact LeO.refl _)
      | (with_reducible exact LeO.none _)
      | (with_reducible refine LeO.ite ?_ ?_)
      | (with_reducible refine LeO.bind ?_ (fun _ => ?_))
      | exact ih0 _ _ _ _ _ _ _ _ _ _ _ _ _ _ _ _ _
      | exact carry_Hold.mono _ _ _ _ _ _ _ _ _ _ _ _ _ _ _ _
      | exact carry_Ticks.mono _ _ _ _ _ _ _ _ _ _ _ _ _
      | exact clepsydralaw11_alive.mono _
      | exact limit_Check.mono _ _ _ _ _ _ _ _ _ _ _ _ _
      | exact LeO.none _
      | refine LeO.ite ?_ ?_
      | refine LeO.bind ?_ (fun _ => ?_)
theorem clepsydralaw11_CarryHolds.fl25_0 (x0 x1 : Value) (w : World) : (Instr.field 25 (.agg #[x0, x1]) 0).run Try.prog w = .ok (x0) w := by kernel_rfl
attribute [local go_sem] clepsydralaw11_CarryHolds.fl25_0
theorem clepsydralaw11_CarryHolds.fl25_1 (x0 x1 : Value) (w : World) : (Instr.field 25 (.agg #[x0, x1]) 1).run Try.prog w = .ok (x1) w := by kernel_rfl
attribute [local go_sem] clepsydralaw11_CarryHolds.fl25_1
def clepsydralaw11_CarryHolds.T7 : Bool × List (List Nat × List Nat) := (true, [([], []), ([0], [0]), ([], []), ([1, 2], [1, 2]), ([3], [3]), ([4], [4]), ([4], [4]), ([6, 4], [4, 6]), ([5, 7, 4], [4, 5, 7]), ([4, 8], [4, 8]), ([9, 4], [9]), ([10], [10]), ([11, 10, 10], [10, 11]), ([12, 10], [10, 12]), ([10], [10]), ([14, 10], [10, 14]), ([10], [10]), ([15, 16, 10], [10, 15, 16]), ([13, 17, 10], [10, 13, 17]), ([10, 18], [10, 18]), ([19, 12], [19]), ([20], [20]), ([21, 20], [20, 21]), ([20], [20]), ([22, 23, 20], [20, 22, 23]), ([20], [20]), ([25, 20, 20], [20, 25]), ([26, 20], [20, 26]), ([24, 27, 20], [20, 24, 27]), ([20, 28], [20, 28]), ([29, 26, 0, 1, 2, 3, 4, 5, 6, 7, 8, 9, 10, 11, 12, 13, 14, 15, 16, 17, 18, 19, 20, 21, 22, 23, 24, 25, 26, 27, 28, 29], [29])])
def clepsydralaw11_CarryHolds.B7 : List Nat := [0, 1, 0, 7, 15, 31, 31, 95, 255, 511, 1023, 2047, 4095, 8191, 2047, 18431, 2047, 116735, 262143, 524287, 1048575, 2097151, 4194303, 2097151, 16777215, 2097151, 35651583, 102760447, 268435455, 536870911, 1073741823]
theorem clepsydralaw11_CarryHolds.tab7 : rtab .any (opsOf Try.f7 7) = clepsydralaw11_CarryHolds.T7 := by kernel_rfl
theorem clepsydralaw11_CarryHolds.bits7 : waitsOk clepsydralaw11_CarryHolds.T7.2 clepsydralaw11_CarryHolds.B7 = true := by kernel_rfl
set_option maxHeartbeats 8000000 in
set_option maxRecDepth 100000 in
theorem clepsydralaw11_CarryHolds.calls (k : Nat) (a0_0 : Int) (a0_1 : Int) (a0_2 : Int) (a0_3 : Int) (a0_4 : Int) (a0_5 : Int) (a0_6 : Int) (a0_7 : Int) (a0_8 : Int) (a0_9 : Int) (a0_10 : Int) (a0_11 : Int) (a1_0 : Int) (a1_1 : Int) (a2 : Int) (a3 : Int) (r : Bool) (w : World) (hT : Aside0 (r = true)) (h : clepsydralaw11_CarryHolds.f k a0_0 a0_1 a0_2 a0_3 a0_4 a0_5 a0_6 a0_7 a0_8 a0_9 a0_10 a0_11 a1_0 a1_1 a2 a3 = some r) :
    Calls Try.prog 7 #[.agg #[.int .i64 a0_0, .int .i64 a0_1, .int .i64 a0_2, .int .i64 a0_3, .int .i64 a0_4, .int .i64 a0_5, .int .i64 a0_6, .int .i64 a0_7, .int .i64 a0_8, .int .i64 a0_9, .int .i64 a0_10, .int .i64 a0_11], .agg #[.int .i64 a1_0, .int .i64 a1_1], .int .i64 a2, .int .i64 a3] w fun e w' => e = .returned (.bool r) ∧ Below w.heap.size w w' := by
  have hu23 := Try.underlying23
  have hu25 := Try.underlying25
  have HB := Aside0.mk (Below.refl w.heap.size w)
  have H : ((clepsydralaw11_alive.f k).bind fun t330 => (if t330 = true then ((limit_Check.f k a0_0 a0_1 a0_2 a0_3 a0_4 a0_5 a0_6 a0_7 a0_8 a0_9 a0_10 a0_11).bind fun t331 => (if t331 = 0 then (if a2 > 1152921504606846976 then (clepsydralaw11_CarryHolds.j0 k a2 a3 true a0_0 a0_1 a0_2 a0_3 a0_4 a0_5 a0_6 a0_7 a0_8 a0_9 a0_10 a0_11 a1_0 a1_1) else (if a2 < (-1152921504606846976) then (clepsydralaw11_CarryHolds.j0 k a2 a3 true a0_0 a0_1 a0_2 a0_3 a0_4 a0_5 a0_6 a0_7 a0_8 a0_9 a0_10 a0_11 a1_0 a1_1) else (if a2 < a1_0 then (clepsydralaw11_CarryHolds.j0 k a2 a3 true a0_0 a0_1 a0_2 a0_3 a0_4 a0_5 a0_6 a0_7 a0_8 a0_9 a0_10 a0_11 a1_0 a1_1) else (if a2 > a1_1 then (clepsydralaw11_CarryHolds.j0 k a2 a3 true a0_0 a0_1 a0_2 a0_3 a0_4 a0_5 a0_6 a0_7 a0_8 a0_9 a0_10 a0_11 a1_0 a1_1) else (if a3 > a0_4 then (clepsydralaw11_CarryHolds.j0 k a2 a3 true a0_0 a0_1 a0_2 a0_3 a0_4 a0_5 a0_6 a0_7 a0_8 a0_9 a0_10 a0_11 a1_0 a1_1) else (clepsydralaw11_CarryHolds.j0 k a2 a3 (decide (a3 < (wrap64 (-a0_4)))) a0_0 a0_1 a0_2 a0_3 a0_4 a0_5 a0_6 a0_7 a0_8 a0_9 a0_10 a0_11 a1_0 a1_1)))))) else (clepsydralaw11_CarryHolds.j0 k a2 a3 true a0_0 a0_1 a0_2 a0_3 a0_4 a0_5 a0_6 a0_7 a0_8 a0_9 a0_10 a0_11 a1_0 a1_1))) else (some false))) = some r := h
  clear h
  replace H := Option.bind_eq_some_iff.mp H
  obtain ⟨t330, A50, H⟩ := H
  replace H : (if t330 = true then ((limit_Check.f k a0_0 a0_1 a0_2 a0_3 a0_4 a0_5 a0_6 a0_7 a0_8 a0_9 a0_10 a0_11).bind fun t331 => (if t331 = 0 then (if a2 > 1152921504606846976 then (clepsydralaw11_CarryHolds.j0 k a2 a3 true a0_0 a0_1 a0_2 a0_3 a0_4 a0_5 a0_6 a0_7 a0_8 a0_9 a0_10 a0_11 a1_0 a1_1) else (if a2 < (-1152921504606846976) then (clepsydralaw11_CarryHolds.j0 k a2 a3 true a0_0 a0_1 a0_2 a0_3 a0_4 a0_5 a0_6 a0_7 a0_8 a0_9 a0_10 a0_11 a1_0 a1_1) else (if a2 < a1_0 then (clepsydralaw11_CarryHolds.j0 k a2 a3 true a0_0 a0_1 a0_2 a0_3 a0_4 a0_5 a0_6 a0_7 a0_8 a0_9 a0_10 a0_11 a1_0 a1_1) else (if a2 > a1_1 then (clepsydralaw11_CarryHolds.j0 k a2 a3 true a0_0 a0_1 a0_2 a0_3 a0_4 a0_5 a0_6 a0_7 a0_8 a0_9 a0_10 a0_11 a1_0 a1_1) else (if a3 > a0_4 then (clepsydralaw11_CarryHolds.j0 k a2 a3 true a0_0 a0_1 a0_2 a0_3 a0_4 a0_5 a0_6 a0_7 a0_8 a0_9 a0_10 a0_11 a1_0 a1_1) else (clepsydralaw11_CarryHolds.j0 k a2 a3 (decide (a3 < (wrap64 (-a0_4)))) a0_0 a0_1 a0_2 a0_3 a0_4 a0_5 a0_6 a0_7 a0_8 a0_9 a0_10 a0_11 a1_0 a1_1)))))) else (clepsydralaw11_CarryHolds.j0 k a2 a3 true a0_0 a0_1 a0_2 a0_3 a0_4 a0_5 a0_6 a0_7 a0_8 a0_9 a0_10 a0_11 a1_0 a1_1))) else (some false)) = some r := H
  have A5 := Aside0.mk A50
  clear A50
  by_cases c6 : t330 = true
  · subst c6
    have H1 : ((limit_Check.f k a0_0 a0_1 a0_2 a0_3 a0_4 a0_5 a0_6 a0_7 a0_8 a0_9 a0_10 a0_11).bind fun t331 => (if t331 = 0 then (if a2 > 1152921504606846976 then (clepsydralaw11_CarryHolds.j0 k a2 a3 true a0_0 a0_1 a0_2 a0_3 a0_4 a0_5 a0_6 a0_7 a0_8 a0_9 a0_10 a0_11 a1_0 a1_1) else (if a2 < (-1152921504606846976) then (clepsydralaw11_CarryHolds.j0 k a2 a3 true a0_0 a0_1 a0_2 a0_3 a0_4 a0_5 a0_6 a0_7 a0_8 a0_9 a0_10 a0_11 a1_0 a1_1) else (if a2 < a1_0 then (clepsydralaw11_CarryHolds.j0 k a2 a3 true a0_0 a0_1 a0_2 a0_3 a0_4 a0_5 a0_6 a0_7 a0_8 a0_9 a0_10 a0_11 a1_0 a1_1) else (if a2 > a1_1 then (clepsydralaw11_CarryHolds.j0 k a2 a3 true a0_0 a0_1 a0_2 a0_3 a0_4 a0_5 a0_6 a0_7 a0_8 a0_9 a0_10 a0_11 a1_0 a1_1) else (if a3 > a0_4 then (clepsydralaw11_CarryHolds.j0 k a2 a3 true a0_0 a0_1 a0_2 a0_3 a0_4 a0_5 a0_6 a0_7 a0_8 a0_9 a0_10 a0_11 a1_0 a1_1) else (clepsydralaw11_CarryHolds.j0 k a2 a3 (decide (a3 < (wrap64 (-a0_4)))) a0_0 a0_1 a0_2 a0_3 a0_4 a0_5 a0_6 a0_7 a0_8 a0_9 a0_10 a0_11 a1_0 a1_1)))))) else (clepsydralaw11_CarryHolds.j0 k a2 a3 true a0_0 a0_1 a0_2 a0_3 a0_4 a0_5 a0_6 a0_7 a0_8 a0_9 a0_10 a0_11 a1_0 a1_1))) = some r := by rw [if_pos rfl] at H; exact H
    clear H
    have H := H1
    clear H1
    have HC7 := Aside0.mk H
    clear H
    go_enter Try.func7, Try.ntmps7
    go_upto_region 3 with (first | ((with_reducible refine gate_dst (N := 4) rfl ?_); refine box_event ?hg (N := 4) ?hd (cs := #[.int .i64 a0_0, .int .i64 a0_1, .int .i64 a0_2, .int .i64 a0_3, .int .i64 a0_4, .int .i64 a0_5, .int .i64 a0_6, .int .i64 a0_7, .int .i64 a0_8, .int .i64 a0_9, .int .i64 a0_10, .int .i64 a0_11]) (t := 23) ?hr ?_; (case hd => rfl); (case hg => rfl); (case hr => first | (go_simp; done) | (go_simp; rfl)); intro gb328 hg w8 hbox hb; have n0_ := Aside0.mk (below_step (by repeat (first | (with_reducible first | exact HB.out | apply below_alloc | apply pw_below_drewN | apply below_drew1) | exact HB.out)) hb); have n1_ := Aside0.mk (hbox); have n2_ := Aside0.mk ((by rw [hg]; exact (below_size (by repeat (first | (with_reducible first | exact HB.out | apply below_alloc | apply pw_below_drewN | apply below_drew1) | exact HB.out))) : w.heap.size ≤ gb328)); have n3_ := Aside0.mk ((by rw [hg]; exact (below_size (by repeat (first | (with_reducible first | exact HB.out | apply below_alloc | apply pw_below_drewN | apply below_drew1) | exact HB.out))) : w.heap.size ≤ gb328)); clear HB; have HB := n0_; have BK328 := n1_; have GW328 := n2_; have GE328 := n3_; clear n0_ n1_ n2_ n3_; clear hb hbox hg) | ((with_reducible refine gate_dst (N := 5) rfl ?_); refine box_event ?hg (N := 5) ?hd (cs := #[.int .i64 a1_0, .int .i64 a1_1]) (t := 25) ?hr ?_; (case hd => rfl); (case hg => rfl); (case hr => first | (go_simp; done) | (go_simp; rfl)); intro gb329 hg w9 hbox hb; have n0_ := Aside0.mk (blk_below (g := gb328) (o := .cells #[.int .i64 a0_0, .int .i64 a0_1, .int .i64 a0_2, .int .i64 a0_3, .int .i64 a0_4, .int .i64 a0_5, .int .i64 a0_6, .int .i64 a0_7, .int .i64 a0_8, .int .i64 a0_9, .int .i64 a0_10, .int .i64 a0_11] 23 (0, 0)) (by (with_reducible repeat (first | refine blk_drewN ?_ _ | refine blk_drew ?_ | refine blk_alloc ?_ _)); exact BK328.out) hb); have n1_ := Aside0.mk (below_step (by repeat (first | (with_reducible first | exact HB.out | apply below_alloc | apply pw_below_drewN | apply below_drew1 | refine below_set ?_ GE328.out) | exact HB.out)) hb); have n2_ := Aside0.mk (hbox); have n3_ := Aside0.mk ((by rw [hg]; exact (below_size (by repeat (first | (with_reducible first | exact HB.out | apply below_alloc | apply pw_below_drewN | apply below_drew1 | refine below_set ?_ GE328.out) | exact HB.out))) : w.heap.size ≤ gb329)); have n4_ := Aside0.mk ((by rw [hg]; exact (below_size (by repeat (first | (with_reducible first | exact HB.out | apply below_alloc | apply pw_below_drewN | apply below_drew1 | refine below_set ?_ GE328.out) | exact HB.out))) : w.heap.size ≤ gb329)); have n5_ := Aside0.mk ((by rw [hg]; exact Nat.ne_of_lt (blk_lt (g := gb328) (o := .cells #[.int .i64 a0_0, .int .i64 a0_1, .int .i64 a0_2, .int .i64 a0_3, .int .i64 a0_4, .int .i64 a0_5, .int .i64 a0_6, .int .i64 a0_7, .int .i64 a0_8, .int .i64 a0_9, .int .i64 a0_10, .int .i64 a0_11] 23 (0, 0)) (by (with_reducible repeat (first | refine blk_drewN ?_ _ | refine blk_drew ?_ | refine blk_alloc ?_ _)); exact BK328.out)) : gb328 ≠ gb329)); have n6_ := Aside0.mk ((by rw [hg]; exact Nat.ne_of_gt (blk_lt (g := gb328) (o := .cells #[.int .i64 a0_0, .int .i64 a0_1, .int .i64 a0_2, .int .i64 a0_3, .int .i64 a0_4, .int .i64 a0_5, .int .i64 a0_6, .int .i64 a0_7, .int .i64 a0_8, .int .i64 a0_9, .int .i64 a0_10, .int .i64 a0_11] 23 (0, 0)) (by (with_reducible repeat (first | refine blk_drewN ?_ _ | refine blk_drew ?_ | refine blk_alloc ?_ _)); exact BK328.out)) : gb329 ≠ gb328)); clear BK328; clear HB; have BK328 := n0_; have HB := n1_; have BK329 := n2_; have GW329 := n3_; have GE329 := n4_; have NB328_329 := n5_; have NB329_328 := n6_; clear n0_ n1_ n2_ n3_ n4_ n5_ n6_; clear hb hbox hg) | ((with_reducible refine gate_callee (f := 15) rfl ?_); refine goesL_ (some 11) rfl rfl Try.func15 (by kernel_rfl) rfl #[] rfl (by (try simp only [List.map_toArray, List.map_cons, List.map_nil]); first | done | rfl | (simp only [List.length_drop, List.length_take]; rfl)) ?_; (with_reducible refine (clepsydralaw11_alive.calls k  true _ A5.out).mono ?_); rintro e w10 ⟨rfl, hb⟩; refine ⟨_, rfl, ?_⟩; have n0_ := Aside0.mk (blk_below (g := gb328) (o := .cells #[.int .i64 a0_0, .int .i64 a0_1, .int .i64 a0_2, .int .i64 a0_3, .int .i64 a0_4, .int .i64 a0_5, .int .i64 a0_6, .int .i64 a0_7, .int .i64 a0_8, .int .i64 a0_9, .int .i64 a0_10, .int .i64 a0_11] 23 (0, 0)) (by (with_reducible repeat (first | refine blk_drewN ?_ _ | refine blk_drew ?_ | refine blk_alloc ?_ _)); exact BK328.out) hb); have n1_ := Aside0.mk (blk_below (g := gb329) (o := .cells #[.int .i64 a1_0, .int .i64 a1_1] 25 (0, 0)) (by (with_reducible repeat (first | refine blk_drewN ?_ _ | refine blk_drew ?_ | refine blk_alloc ?_ _)); exact BK329.out) hb); have n2_ := Aside0.mk (below_step (by repeat (first | (with_reducible first | exact HB.out | apply below_alloc | apply pw_below_drewN | apply below_drew1 | refine below_set ?_ GE328.out | refine below_set ?_ GE329.out) | exact HB.out)) hb); clear BK328; clear BK329; clear HB; have BK328 := n0_; have BK329 := n1_; have HB := n2_; clear n0_ n1_ n2_; (try clear hb); (try clear hb2); (try clear hk); (try clear hi)))
    (try simp only [Act.put, List.setIfInBounds_toArray, List.set_cons_zero, List.set_cons_succ])
    go_cut [48] (fun v48 wc => ∃ (kq : Nat) (x48_6 : Bool), v48 = .bool x48_6 ∧ Aside0 (clepsydralaw11_CarryHolds.j0 kq a2 a3 x48_6 a0_0 a0_1 a0_2 a0_3 a0_4 a0_5 a0_6 a0_7 a0_8 a0_9 a0_10 a0_11 a1_0 a1_1 = some r) ∧ Aside0 (kq ≤ k) ∧ Aside0 (wc.heap[gb328]? = some (.cells #[.int .i64 a0_0, .int .i64 a0_1, .int .i64 a0_2, .int .i64 a0_3, .int .i64 a0_4, .int .i64 a0_5, .int .i64 a0_6, .int .i64 a0_7, .int .i64 a0_8, .int .i64 a0_9, .int .i64 a0_10, .int .i64 a0_11] 23 (0, 0))) ∧ Aside0 (wc.heap[gb329]? = some (.cells #[.int .i64 a1_0, .int .i64 a1_1] 25 (0, 0))) ∧ Aside0 (Below w.heap.size w wc))
    case first =>
      have H := HC7.out
      clear HC7
      replace H := Option.bind_eq_some_iff.mp H
      obtain ⟨t331, A110, H⟩ := H
      replace H : (if t331 = 0 then (if a2 > 1152921504606846976 then (clepsydralaw11_CarryHolds.j0 k a2 a3 true a0_0 a0_1 a0_2 a0_3 a0_4 a0_5 a0_6 a0_7 a0_8 a0_9 a0_10 a0_11 a1_0 a1_1) else (if a2 < (-1152921504606846976) then (clepsydralaw11_CarryHolds.j0 k a2 a3 true a0_0 a0_1 a0_2 a0_3 a0_4 a0_5 a0_6 a0_7 a0_8 a0_9 a0_10 a0_11 a1_0 a1_1) else (if a2 < a1_0 then (clepsydralaw11_CarryHolds.j0 k a2 a3 true a0_0 a0_1 a0_2 a0_3 a0_4 a0_5 a0_6 a0_7 a0_8 a0_9 a0_10 a0_11 a1_0 a1_1) else (if a2 > a1_1 then (clepsydralaw11_CarryHolds.j0 k a2 a3 true a0_0 a0_1 a0_2 a0_3 a0_4 a0_5 a0_6 a0_7 a0_8 a0_9 a0_10 a0_11 a1_0 a1_1) else (if a3 > a0_4 then (clepsydralaw11_CarryHolds.j0 k a2 a3 true a0_0 a0_1 a0_2 a0_3 a0_4 a0_5 a0_6 a0_7 a0_8 a0_9 a0_10 a0_11 a1_0 a1_1) else (clepsydralaw11_CarryHolds.j0 k a2 a3 (decide (a3 < (wrap64 (-a0_4)))) a0_0 a0_1 a0_2 a0_3 a0_4 a0_5 a0_6 a0_7 a0_8 a0_9 a0_10 a0_11 a1_0 a1_1)))))) else (clepsydralaw11_CarryHolds.j0 k a2 a3 true a0_0 a0_1 a0_2 a0_3 a0_4 a0_5 a0_6 a0_7 a0_8 a0_9 a0_10 a0_11 a1_0 a1_1)) = some r := H
      have A11 := Aside0.mk A110
      clear A110
      by_cases c12 : t331 = 0
      · rw [if_pos c12] at H
        have c12b0 : (t331 == 0) = true := beq_iff_eq.mpr c12
        have c12b1 : (t331 != 0) = false := bne_eq_false_iff_eq.mpr c12
        clear c12
        (first | rw [c12b0] | (simp only [i64_w, i32_w]; rw [c12b0]) | skip)
        by_cases c13 : a2 > 1152921504606846976
        · rw [if_pos c13] at H
          have c13b0 : decide (1152921504606846976 < a2) = true := decide_eq_true c13
          clear c13
          have H' := Aside0.mk H
          clear H
          have hnb14 := NB328_329.out
          have hnc14 := NB329_328.out
          have hcz15_0 : w10.cell? ⟨gb328, 0, none⟩ = some (.int .i64 a0_0) := (blk_cell BK328.out 0).trans rfl
          have hcz15_1 : w10.cell? ⟨gb328, 1, none⟩ = some (.int .i64 a0_1) := (blk_cell BK328.out 1).trans rfl
          have hcz15_2 : w10.cell? ⟨gb328, 2, none⟩ = some (.int .i64 a0_2) := (blk_cell BK328.out 2).trans rfl
          have hcz15_3 : w10.cell? ⟨gb328, 3, none⟩ = some (.int .i64 a0_3) := (blk_cell BK328.out 3).trans rfl
          have hcz15_4 : w10.cell? ⟨gb328, 4, none⟩ = some (.int .i64 a0_4) := (blk_cell BK328.out 4).trans rfl
          have hcz15_5 : w10.cell? ⟨gb328, 5, none⟩ = some (.int .i64 a0_5) := (blk_cell BK328.out 5).trans rfl
          have hcz15_6 : w10.cell? ⟨gb328, 6, none⟩ = some (.int .i64 a0_6) := (blk_cell BK328.out 6).trans rfl
          have hcz15_7 : w10.cell? ⟨gb328, 7, none⟩ = some (.int .i64 a0_7) := (blk_cell BK328.out 7).trans rfl
          have hcz15_8 : w10.cell? ⟨gb328, 8, none⟩ = some (.int .i64 a0_8) := (blk_cell BK328.out 8).trans rfl
          have hcz15_9 : w10.cell? ⟨gb328, 9, none⟩ = some (.int .i64 a0_9) := (blk_cell BK328.out 9).trans rfl
          have hcz15_10 : w10.cell? ⟨gb328, 10, none⟩ = some (.int .i64 a0_10) := (blk_cell BK328.out 10).trans rfl
          have hcz15_11 : w10.cell? ⟨gb328, 11, none⟩ = some (.int .i64 a0_11) := (blk_cell BK328.out 11).trans rfl
          have hfz15_0 := blk_frozen BK328.out 0
          have hfz15_1 := blk_frozen BK328.out 1
          have hfz15_2 := blk_frozen BK328.out 2
          have hfz15_3 := blk_frozen BK328.out 3
          have hfz15_4 := blk_frozen BK328.out 4
          have hfz15_5 := blk_frozen BK328.out 5
          have hfz15_6 := blk_frozen BK328.out 6
          have hfz15_7 := blk_frozen BK328.out 7
          have hfz15_8 := blk_frozen BK328.out 8
          have hfz15_9 := blk_frozen BK328.out 9
          have hfz15_10 := blk_frozen BK328.out 10
          have hfz15_11 := blk_frozen BK328.out 11
          go_wp2_with (first | ((with_reducible refine gate_callee (f := 24) rfl ?_); refine goesL_ (some 14) rfl rfl Try.func24 (by kernel_rfl) rfl #[.agg #[.int .i64 a0_0, .int .i64 a0_1, .int .i64 a0_2, .int .i64 a0_3, .int .i64 a0_4, .int .i64 a0_5, .int .i64 a0_6, .int .i64 a0_7, .int .i64 a0_8, .int .i64 a0_9, .int .i64 a0_10, .int .i64 a0_11]] rfl (by (try simp only [List.map_toArray, List.map_cons, List.map_nil]); first | done | rfl | (simp only [List.length_drop, List.length_take]; rfl)) ?_; (with_reducible refine (limit_Check.calls k a0_0 a0_1 a0_2 a0_3 a0_4 a0_5 a0_6 a0_7 a0_8 a0_9 a0_10 a0_11 t331 _ A11.out).mono ?_); rintro e w16 ⟨rfl, hb⟩; refine ⟨_, rfl, ?_⟩; have n0_ := Aside0.mk (blk_below (g := gb328) (o := .cells #[.int .i64 a0_0, .int .i64 a0_1, .int .i64 a0_2, .int .i64 a0_3, .int .i64 a0_4, .int .i64 a0_5, .int .i64 a0_6, .int .i64 a0_7, .int .i64 a0_8, .int .i64 a0_9, .int .i64 a0_10, .int .i64 a0_11] 23 (0, 0)) (by (with_reducible repeat (first | refine blk_drewN ?_ _ | refine blk_drew ?_ | refine blk_alloc ?_ _)); exact BK328.out) hb); have n1_ := Aside0.mk (blk_below (g := gb329) (o := .cells #[.int .i64 a1_0, .int .i64 a1_1] 25 (0, 0)) (by (with_reducible repeat (first | refine blk_drewN ?_ _ | refine blk_drew ?_ | refine blk_alloc ?_ _)); exact BK329.out) hb); have n2_ := Aside0.mk (below_step (by repeat (first | (with_reducible first | exact HB.out | apply below_alloc | apply pw_below_drewN | apply below_drew1 | refine below_set ?_ GE328.out | refine below_set ?_ GE329.out) | exact HB.out)) hb); clear BK328; clear BK329; clear HB; have BK328 := n0_; have BK329 := n1_; have HB := n2_; clear n0_ n1_ n2_; (try clear hb); (try clear hb2); (try clear hk); (try clear hi)))
          go_meet
          case rel => exact ⟨_, (true), (by first | rfl | (simp; done) | (simp [*]; done) | (simp [Int.tdiv_eq_ediv_of_nonneg]; done) | (simp [Go.RowKit.wrap64]; done) | (simp [*, Go.RowKit.wrap64]; done)), H', ⟨by first | omega | exact Nat.le_refl _⟩, ⟨by (with_reducible repeat (first | refine blk_drewN ?_ _ | refine blk_drew ?_ | refine blk_alloc ?_ _)); exact BK328.out⟩, ⟨by (with_reducible repeat (first | refine blk_drewN ?_ _ | refine blk_drew ?_ | refine blk_alloc ?_ _)); exact BK329.out⟩, ⟨by repeat (first | (with_reducible first | exact HB.out | apply below_alloc | apply pw_below_drewN | apply below_drew1 | refine below_set ?_ GE328.out | refine below_set ?_ GE329.out) | exact HB.out)⟩⟩
        · rw [if_neg c13] at H
          have c13b0 : decide (1152921504606846976 < a2) = false := decide_eq_false c13
          clear c13
          by_cases c17 : a2 < (-1152921504606846976)
          · rw [if_pos c17] at H
            have c17b0 : decide (a2 < (-1152921504606846976)) = true := decide_eq_true c17
            clear c17
            have H' := Aside0.mk H
            clear H
            have hnb18 := NB328_329.out
            have hnc18 := NB329_328.out
            have hcz19_0 : w10.cell? ⟨gb328, 0, none⟩ = some (.int .i64 a0_0) := (blk_cell BK328.out 0).trans rfl
            have hcz19_1 : w10.cell? ⟨gb328, 1, none⟩ = some (.int .i64 a0_1) := (blk_cell BK328.out 1).trans rfl
            have hcz19_2 : w10.cell? ⟨gb328, 2, none⟩ = some (.int .i64 a0_2) := (blk_cell BK328.out 2).trans rfl
            have hcz19_3 : w10.cell? ⟨gb328, 3, none⟩ = some (.int .i64 a0_3) := (blk_cell BK328.out 3).trans rfl
            have hcz19_4 : w10.cell? ⟨gb328, 4, none⟩ = some (.int .i64 a0_4) := (blk_cell BK328.out 4).trans rfl
            have hcz19_5 : w10.cell? ⟨gb328, 5, none⟩ = some (.int .i64 a0_5) := (blk_cell BK328.out 5).trans rfl
            have hcz19_6 : w10.cell? ⟨gb328, 6, none⟩ = some (.int .i64 a0_6) := (blk_cell BK328.out 6).trans rfl
            have hcz19_7 : w10.cell? ⟨gb328, 7, none⟩ = some (.int .i64 a0_7) := (blk_cell BK328.out 7).trans rfl
            have hcz19_8 : w10.cell? ⟨gb328, 8, none⟩ = some (.int .i64 a0_8) := (blk_cell BK328.out 8).trans rfl
            have hcz19_9 : w10.cell? ⟨gb328, 9, none⟩ = some (.int .i64 a0_9) := (blk_cell BK328.out 9).trans rfl
            have hcz19_10 : w10.cell? ⟨gb328, 10, none⟩ = some (.int .i64 a0_10) := (blk_cell BK328.out 10).trans rfl
            have hcz19_11 : w10.cell? ⟨gb328, 11, none⟩ = some (.int .i64 a0_11) := (blk_cell BK328.out 11).trans rfl
            have hfz19_0 := blk_frozen BK328.out 0
            have hfz19_1 := blk_frozen BK328.out 1
            have hfz19_2 := blk_frozen BK328.out 2
            have hfz19_3 := blk_frozen BK328.out 3
            have hfz19_4 := blk_frozen BK328.out 4
            have hfz19_5 := blk_frozen BK328.out 5
            have hfz19_6 := blk_frozen BK328.out 6
            have hfz19_7 := blk_frozen BK328.out 7
            have hfz19_8 := blk_frozen BK328.out 8
            have hfz19_9 := blk_frozen BK328.out 9
            have hfz19_10 := blk_frozen BK328.out 10
            have hfz19_11 := blk_frozen BK328.out 11
            go_wp2_with (first | ((with_reducible refine gate_callee (f := 24) rfl ?_); refine goesL_ (some 14) rfl rfl Try.func24 (by kernel_rfl) rfl #[.agg #[.int .i64 a0_0, .int .i64 a0_1, .int .i64 a0_2, .int .i64 a0_3, .int .i64 a0_4, .int .i64 a0_5, .int .i64 a0_6, .int .i64 a0_7, .int .i64 a0_8, .int .i64 a0_9, .int .i64 a0_10, .int .i64 a0_11]] rfl (by (try simp only [List.map_toArray, List.map_cons, List.map_nil]); first | done | rfl | (simp only [List.length_drop, List.length_take]; rfl)) ?_; (with_reducible refine (limit_Check.calls k a0_0 a0_1 a0_2 a0_3 a0_4 a0_5 a0_6 a0_7 a0_8 a0_9 a0_10 a0_11 t331 _ A11.out).mono ?_); rintro e w20 ⟨rfl, hb⟩; refine ⟨_, rfl, ?_⟩; have n0_ := Aside0.mk (blk_below (g := gb328) (o := .cells #[.int .i64 a0_0, .int .i64 a0_1, .int .i64 a0_2, .int .i64 a0_3, .int .i64 a0_4, .int .i64 a0_5, .int .i64 a0_6, .int .i64 a0_7, .int .i64 a0_8, .int .i64 a0_9, .int .i64 a0_10, .int .i64 a0_11] 23 (0, 0)) (by (with_reducible repeat (first | refine blk_drewN ?_ _ | refine blk_drew ?_ | refine blk_alloc ?_ _)); exact BK328.out) hb); have n1_ := Aside0.mk (blk_below (g := gb329) (o := .cells #[.int .i64 a1_0, .int .i64 a1_1] 25 (0, 0)) (by (with_reducible repeat (first | refine blk_drewN ?_ _ | refine blk_drew ?_ | refine blk_alloc ?_ _)); exact BK329.out) hb); have n2_ := Aside0.mk (below_step (by repeat (first | (with_reducible first | exact HB.out | apply below_alloc | apply pw_below_drewN | apply below_drew1 | refine below_set ?_ GE328.out | refine below_set ?_ GE329.out) | exact HB.out)) hb); clear BK328; clear BK329; clear HB; have BK328 := n0_; have BK329 := n1_; have HB := n2_; clear n0_ n1_ n2_; (try clear hb); (try clear hb2); (try clear hk); (try clear hi)))
            go_meet
            case rel => exact ⟨_, (true), (by first | rfl | (simp; done) | (simp [*]; done) | (simp [Int.tdiv_eq_ediv_of_nonneg]; done) | (simp [Go.RowKit.wrap64]; done) | (simp [*, Go.RowKit.wrap64]; done)), H', ⟨by first | omega | exact Nat.le_refl _⟩, ⟨by (with_reducible repeat (first | refine blk_drewN ?_ _ | refine blk_drew ?_ | refine blk_alloc ?_ _)); exact BK328.out⟩, ⟨by (with_reducible repeat (first | refine blk_drewN ?_ _ | refine blk_drew ?_ | refine blk_alloc ?_ _)); exact BK329.out⟩, ⟨by repeat (first | (with_reducible first | exact HB.out | apply below_alloc | apply pw_below_drewN | apply below_drew1 | refine below_set ?_ GE328.out | refine below_set ?_ GE329.out) | exact HB.out)⟩⟩
          · rw [if_neg c17] at H
            have c17b0 : decide (a2 < (-1152921504606846976)) = false := decide_eq_false c17
            clear c17
            by_cases c21 : a2 < a1_0
            · rw [if_pos c21] at H
              have c21b0 : decide (a2 < a1_0) = true := decide_eq_true c21
              clear c21
              have H' := Aside0.mk H
              clear H
              have hnb22 := NB328_329.out
              have hnc22 := NB329_328.out
              have hcz23_0 : w10.cell? ⟨gb328, 0, none⟩ = some (.int .i64 a0_0) := (blk_cell BK328.out 0).trans rfl
              have hcz23_1 : w10.cell? ⟨gb328, 1, none⟩ = some (.int .i64 a0_1) := (blk_cell BK328.out 1).trans rfl
              have hcz23_2 : w10.cell? ⟨gb328, 2, none⟩ = some (.int .i64 a0_2) := (blk_cell BK328.out 2).trans rfl
              have hcz23_3 : w10.cell? ⟨gb328, 3, none⟩ = some (.int .i64 a0_3) := (blk_cell BK328.out 3).trans rfl
              have hcz23_4 : w10.cell? ⟨gb328, 4, none⟩ = some (.int .i64 a0_4) := (blk_cell BK328.out 4).trans rfl
              have hcz23_5 : w10.cell? ⟨gb328, 5, none⟩ = some (.int .i64 a0_5) := (blk_cell BK328.out 5).trans rfl
              have hcz23_6 : w10.cell? ⟨gb328, 6, none⟩ = some (.int .i64 a0_6) := (blk_cell BK328.out 6).trans rfl
              have hcz23_7 : w10.cell? ⟨gb328, 7, none⟩ = some (.int .i64 a0_7) := (blk_cell BK328.out 7).trans rfl
              have hcz23_8 : w10.cell? ⟨gb328, 8, none⟩ = some (.int .i64 a0_8) := (blk_cell BK328.out 8).trans rfl
              have hcz23_9 : w10.cell? ⟨gb328, 9, none⟩ = some (.int .i64 a0_9) := (blk_cell BK328.out 9).trans rfl
              have hcz23_10 : w10.cell? ⟨gb328, 10, none⟩ = some (.int .i64 a0_10) := (blk_cell BK328.out 10).trans rfl
              have hcz23_11 : w10.cell? ⟨gb328, 11, none⟩ = some (.int .i64 a0_11) := (blk_cell BK328.out 11).trans rfl
              have hfz23_0 := blk_frozen BK328.out 0
              have hfz23_1 := blk_frozen BK328.out 1
              have hfz23_2 := blk_frozen BK328.out 2
              have hfz23_3 := blk_frozen BK328.out 3
              have hfz23_4 := blk_frozen BK328.out 4
              have hfz23_5 := blk_frozen BK328.out 5
              have hfz23_6 := blk_frozen BK328.out 6
              have hfz23_7 := blk_frozen BK328.out 7
              have hfz23_8 := blk_frozen BK328.out 8
              have hfz23_9 := blk_frozen BK328.out 9
              have hfz23_10 := blk_frozen BK328.out 10
              have hfz23_11 := blk_frozen BK328.out 11
              go_wp2_with (first | ((with_reducible refine gate_callee (f := 24) rfl ?_); refine goesL_ (some 14) rfl rfl Try.func24 (by kernel_rfl) rfl #[.agg #[.int .i64 a0_0, .int .i64 a0_1, .int .i64 a0_2, .int .i64 a0_3, .int .i64 a0_4, .int .i64 a0_5, .int .i64 a0_6, .int .i64 a0_7, .int .i64 a0_8, .int .i64 a0_9, .int .i64 a0_10, .int .i64 a0_11]] rfl (by (try simp only [List.map_toArray, List.map_cons, List.map_nil]); first | done | rfl | (simp only [List.length_drop, List.length_take]; rfl)) ?_; (with_reducible refine (limit_Check.calls k a0_0 a0_1 a0_2 a0_3 a0_4 a0_5 a0_6 a0_7 a0_8 a0_9 a0_10 a0_11 t331 _ A11.out).mono ?_); rintro e w24 ⟨rfl, hb⟩; refine ⟨_, rfl, ?_⟩; have n0_ := Aside0.mk (blk_below (g := gb328) (o := .cells #[.int .i64 a0_0, .int .i64 a0_1, .int .i64 a0_2, .int .i64 a0_3, .int .i64 a0_4, .int .i64 a0_5, .int .i64 a0_6, .int .i64 a0_7, .int .i64 a0_8, .int .i64 a0_9, .int .i64 a0_10, .int .i64 a0_11] 23 (0, 0)) (by (with_reducible repeat (first | refine blk_drewN ?_ _ | refine blk_drew ?_ | refine blk_alloc ?_ _)); exact BK328.out) hb); have n1_ := Aside0.mk (blk_below (g := gb329) (o := .cells #[.int .i64 a1_0, .int .i64 a1_1] 25 (0, 0)) (by (with_reducible repeat (first | refine blk_drewN ?_ _ | refine blk_drew ?_ | refine blk_alloc ?_ _)); exact BK329.out) hb); have n2_ := Aside0.mk (below_step (by repeat (first | (with_reducible first | exact HB.out | apply below_alloc | apply pw_below_drewN | apply below_drew1 | refine below_set ?_ GE328.out | refine below_set ?_ GE329.out) | exact HB.out)) hb); clear BK328; clear BK329; clear HB; have BK328 := n0_; have BK329 := n1_; have HB := n2_; clear n0_ n1_ n2_; (try clear hb); (try clear hb2); (try clear hk); (try clear hi); have hcz25_0 : w24.cell? ⟨gb329, 0, none⟩ = some (.int .i64 a1_0) := (blk_cell BK329.out 0).trans rfl; have hcz25_1 : w24.cell? ⟨gb329, 1, none⟩ = some (.int .i64 a1_1) := (blk_cell BK329.out 1).trans rfl; have hfz25_0 := blk_frozen BK329.out 0; have hfz25_1 := blk_frozen BK329.out 1))
              go_meet
              case rel => exact ⟨_, (true), (by first | rfl | (simp; done) | (simp [*]; done) | (simp [Int.tdiv_eq_ediv_of_nonneg]; done) | (simp [Go.RowKit.wrap64]; done) | (simp [*, Go.RowKit.wrap64]; done)), H', ⟨by first | omega | exact Nat.le_refl _⟩, ⟨by (with_reducible repeat (first | refine blk_drewN ?_ _ | refine blk_drew ?_ | refine blk_alloc ?_ _)); exact BK328.out⟩, ⟨by (with_reducible repeat (first | refine blk_drewN ?_ _ | refine blk_drew ?_ | refine blk_alloc ?_ _)); exact BK329.out⟩, ⟨by repeat (first | (with_reducible first | exact HB.out | apply below_alloc | apply pw_below_drewN | apply below_drew1 | refine below_set ?_ GE328.out | refine below_set ?_ GE329.out) | exact HB.out)⟩⟩
            · rw [if_neg c21] at H
              have c21b0 : decide (a2 < a1_0) = false := decide_eq_false c21
              clear c21
              by_cases c26 : a2 > a1_1
              · rw [if_pos c26] at H
                have c26b0 : decide (a1_1 < a2) = true := decide_eq_true c26
                clear c26
                have H' := Aside0.mk H
                clear H
                have hnb27 := NB328_329.out
                have hnc27 := NB329_328.out
                have hcz28_0 : w10.cell? ⟨gb328, 0, none⟩ = some (.int .i64 a0_0) := (blk_cell BK328.out 0).trans rfl
                have hcz28_1 : w10.cell? ⟨gb328, 1, none⟩ = some (.int .i64 a0_1) := (blk_cell BK328.out 1).trans rfl
                have hcz28_2 : w10.cell? ⟨gb328, 2, none⟩ = some (.int .i64 a0_2) := (blk_cell BK328.out 2).trans rfl
                have hcz28_3 : w10.cell? ⟨gb328, 3, none⟩ = some (.int .i64 a0_3) := (blk_cell BK328.out 3).trans rfl
                have hcz28_4 : w10.cell? ⟨gb328, 4, none⟩ = some (.int .i64 a0_4) := (blk_cell BK328.out 4).trans rfl
                have hcz28_5 : w10.cell? ⟨gb328, 5, none⟩ = some (.int .i64 a0_5) := (blk_cell BK328.out 5).trans rfl
                have hcz28_6 : w10.cell? ⟨gb328, 6, none⟩ = some (.int .i64 a0_6) := (blk_cell BK328.out 6).trans rfl
                have hcz28_7 : w10.cell? ⟨gb328, 7, none⟩ = some (.int .i64 a0_7) := (blk_cell BK328.out 7).trans rfl
                have hcz28_8 : w10.cell? ⟨gb328, 8, none⟩ = some (.int .i64 a0_8) := (blk_cell BK328.out 8).trans rfl
                have hcz28_9 : w10.cell? ⟨gb328, 9, none⟩ = some (.int .i64 a0_9) := (blk_cell BK328.out 9).trans rfl
                have hcz28_10 : w10.cell? ⟨gb328, 10, none⟩ = some (.int .i64 a0_10) := (blk_cell BK328.out 10).trans rfl
                have hcz28_11 : w10.cell? ⟨gb328, 11, none⟩ = some (.int .i64 a0_11) := (blk_cell BK328.out 11).trans rfl
                have hfz28_0 := blk_frozen BK328.out 0
                have hfz28_1 := blk_frozen BK328.out 1
                have hfz28_2 := blk_frozen BK328.out 2
                have hfz28_3 := blk_frozen BK328.out 3
                have hfz28_4 := blk_frozen BK328.out 4
                have hfz28_5 := blk_frozen BK328.out 5
                have hfz28_6 := blk_frozen BK328.out 6
                have hfz28_7 := blk_frozen BK328.out 7
                have hfz28_8 := blk_frozen BK328.out 8
                have hfz28_9 := blk_frozen BK328.out 9
                have hfz28_10 := blk_frozen BK328.out 10
                have hfz28_11 := blk_frozen BK328.out 11
                go_wp2_with (first | ((with_reducible refine gate_callee (f := 24) rfl ?_); refine goesL_ (some 14) rfl rfl Try.func24 (by kernel_rfl) rfl #[.agg #[.int .i64 a0_0, .int .i64 a0_1, .int .i64 a0_2, .int .i64 a0_3, .int .i64 a0_4, .int .i64 a0_5, .int .i64 a0_6, .int .i64 a0_7, .int .i64 a0_8, .int .i64 a0_9, .int .i64 a0_10, .int .i64 a0_11]] rfl (by (try simp only [List.map_toArray, List.map_cons, List.map_nil]); first | done | rfl | (simp only [List.length_drop, List.length_take]; rfl)) ?_; (with_reducible refine (limit_Check.calls k a0_0 a0_1 a0_2 a0_3 a0_4 a0_5 a0_6 a0_7 a0_8 a0_9 a0_10 a0_11 t331 _ A11.out).mono ?_); rintro e w29 ⟨rfl, hb⟩; refine ⟨_, rfl, ?_⟩; have n0_ := Aside0.mk (blk_below (g := gb328) (o := .cells #[.int .i64 a0_0, .int .i64 a0_1, .int .i64 a0_2, .int .i64 a0_3, .int .i64 a0_4, .int .i64 a0_5, .int .i64 a0_6, .int .i64 a0_7, .int .i64 a0_8, .int .i64 a0_9, .int .i64 a0_10, .int .i64 a0_11] 23 (0, 0)) (by (with_reducible repeat (first | refine blk_drewN ?_ _ | refine blk_drew ?_ | refine blk_alloc ?_ _)); exact BK328.out) hb); have n1_ := Aside0.mk (blk_below (g := gb329) (o := .cells #[.int .i64 a1_0, .int .i64 a1_1] 25 (0, 0)) (by (with_reducible repeat (first | refine blk_drewN ?_ _ | refine blk_drew ?_ | refine blk_alloc ?_ _)); exact BK329.out) hb); have n2_ := Aside0.mk (below_step (by repeat (first | (with_reducible first | exact HB.out | apply below_alloc | apply pw_below_drewN | apply below_drew1 | refine below_set ?_ GE328.out | refine below_set ?_ GE329.out) | exact HB.out)) hb); clear BK328; clear BK329; clear HB; have BK328 := n0_; have BK329 := n1_; have HB := n2_; clear n0_ n1_ n2_; (try clear hb); (try clear hb2); (try clear hk); (try clear hi); have hcz30_0 : w29.cell? ⟨gb329, 0, none⟩ = some (.int .i64 a1_0) := (blk_cell BK329.out 0).trans rfl; have hcz30_1 : w29.cell? ⟨gb329, 1, none⟩ = some (.int .i64 a1_1) := (blk_cell BK329.out 1).trans rfl; have hfz30_0 := blk_frozen BK329.out 0; have hfz30_1 := blk_frozen BK329.out 1))
                go_meet
                case rel => exact ⟨_, (true), (by first | rfl | (simp; done) | (simp [*]; done) | (simp [Int.tdiv_eq_ediv_of_nonneg]; done) | (simp [Go.RowKit.wrap64]; done) | (simp [*, Go.RowKit.wrap64]; done)), H', ⟨by first | omega | exact Nat.le_refl _⟩, ⟨by (with_reducible repeat (first | refine blk_drewN ?_ _ | refine blk_drew ?_ | refine blk_alloc ?_ _)); exact BK328.out⟩, ⟨by (with_reducible repeat (first | refine blk_drewN ?_ _ | refine blk_drew ?_ | refine blk_alloc ?_ _)); exact BK329.out⟩, ⟨by repeat (first | (with_reducible first | exact HB.out | apply below_alloc | apply pw_below_drewN | apply below_drew1 | refine below_set ?_ GE328.out | refine below_set ?_ GE329.out) | exact HB.out)⟩⟩
              · rw [if_neg c26] at H
                have c26b0 : decide (a1_1 < a2) = false := decide_eq_false c26
                clear c26
                by_cases c31 : a3 > a0_4
                · rw [if_pos c31] at H
                  have c31b0 : decide (a0_4 < a3) = true := decide_eq_true c31
                  clear c31
                  have H' := Aside0.mk H
                  clear H
                  have hnb32 := NB328_329.out
                  have hnc32 := NB329_328.out
                  have hcz33_0 : w10.cell? ⟨gb328, 0, none⟩ = some (.int .i64 a0_0) := (blk_cell BK328.out 0).trans rfl
                  have hcz33_1 : w10.cell? ⟨gb328, 1, none⟩ = some (.int .i64 a0_1) := (blk_cell BK328.out 1).trans rfl
                  have hcz33_2 : w10.cell? ⟨gb328, 2, none⟩ = some (.int .i64 a0_2) := (blk_cell BK328.out 2).trans rfl
                  have hcz33_3 : w10.cell? ⟨gb328, 3, none⟩ = some (.int .i64 a0_3) := (blk_cell BK328.out 3).trans rfl
                  have hcz33_4 : w10.cell? ⟨gb328, 4, none⟩ = some (.int .i64 a0_4) := (blk_cell BK328.out 4).trans rfl
                  have hcz33_5 : w10.cell? ⟨gb328, 5, none⟩ = some (.int .i64 a0_5) := (blk_cell BK328.out 5).trans rfl
                  have hcz33_6 : w10.cell? ⟨gb328, 6, none⟩ = some (.int .i64 a0_6) := (blk_cell BK328.out 6).trans rfl
                  have hcz33_7 : w10.cell? ⟨gb328, 7, none⟩ = some (.int .i64 a0_7) := (blk_cell BK328.out 7).trans rfl
                  have hcz33_8 : w10.cell? ⟨gb328, 8, none⟩ = some (.int .i64 a0_8) := (blk_cell BK328.out 8).trans rfl
                  have hcz33_9 : w10.cell? ⟨gb328, 9, none⟩ = some (.int .i64 a0_9) := (blk_cell BK328.out 9).trans rfl
                  have hcz33_10 : w10.cell? ⟨gb328, 10, none⟩ = some (.int .i64 a0_10) := (blk_cell BK328.out 10).trans rfl
                  have hcz33_11 : w10.cell? ⟨gb328, 11, none⟩ = some (.int .i64 a0_11) := (blk_cell BK328.out 11).trans rfl
                  have hfz33_0 := blk_frozen BK328.out 0
                  have hfz33_1 := blk_frozen BK328.out 1
                  have hfz33_2 := blk_frozen BK328.out 2
                  have hfz33_3 := blk_frozen BK328.out 3
                  have hfz33_4 := blk_frozen BK328.out 4
                  have hfz33_5 := blk_frozen BK328.out 5
                  have hfz33_6 := blk_frozen BK328.out 6
                  have hfz33_7 := blk_frozen BK328.out 7
                  have hfz33_8 := blk_frozen BK328.out 8
                  have hfz33_9 := blk_frozen BK328.out 9
                  have hfz33_10 := blk_frozen BK328.out 10
                  have hfz33_11 := blk_frozen BK328.out 11
                  go_wp2_with (first | ((with_reducible refine gate_callee (f := 24) rfl ?_); refine goesL_ (some 14) rfl rfl Try.func24 (by kernel_rfl) rfl #[.agg #[.int .i64 a0_0, .int .i64 a0_1, .int .i64 a0_2, .int .i64 a0_3, .int .i64 a0_4, .int .i64 a0_5, .int .i64 a0_6, .int .i64 a0_7, .int .i64 a0_8, .int .i64 a0_9, .int .i64 a0_10, .int .i64 a0_11]] rfl (by (try simp only [List.map_toArray, List.map_cons, List.map_nil]); first | done | rfl | (simp only [List.length_drop, List.length_take]; rfl)) ?_; (with_reducible refine (limit_Check.calls k a0_0 a0_1 a0_2 a0_3 a0_4 a0_5 a0_6 a0_7 a0_8 a0_9 a0_10 a0_11 t331 _ A11.out).mono ?_); rintro e w34 ⟨rfl, hb⟩; refine ⟨_, rfl, ?_⟩; have n0_ := Aside0.mk (blk_below (g := gb328) (o := .cells #[.int .i64 a0_0, .int .i64 a0_1, .int .i64 a0_2, .int .i64 a0_3, .int .i64 a0_4, .int .i64 a0_5, .int .i64 a0_6, .int .i64 a0_7, .int .i64 a0_8, .int .i64 a0_9, .int .i64 a0_10, .int .i64 a0_11] 23 (0, 0)) (by (with_reducible repeat (first | refine blk_drewN ?_ _ | refine blk_drew ?_ | refine blk_alloc ?_ _)); exact BK328.out) hb); have n1_ := Aside0.mk (blk_below (g := gb329) (o := .cells #[.int .i64 a1_0, .int .i64 a1_1] 25 (0, 0)) (by (with_reducible repeat (first | refine blk_drewN ?_ _ | refine blk_drew ?_ | refine blk_alloc ?_ _)); exact BK329.out) hb); have n2_ := Aside0.mk (below_step (by repeat (first | (with_reducible first | exact HB.out | apply below_alloc | apply pw_below_drewN | apply below_drew1 | refine below_set ?_ GE328.out | refine below_set ?_ GE329.out) | exact HB.out)) hb); clear BK328; clear BK329; clear HB; have BK328 := n0_; have BK329 := n1_; have HB := n2_; clear n0_ n1_ n2_; (try clear hb); (try clear hb2); (try clear hk); (try clear hi); have hcz35_0 : w34.cell? ⟨gb329, 0, none⟩ = some (.int .i64 a1_0) := (blk_cell BK329.out 0).trans rfl; have hcz35_1 : w34.cell? ⟨gb329, 1, none⟩ = some (.int .i64 a1_1) := (blk_cell BK329.out 1).trans rfl; have hfz35_0 := blk_frozen BK329.out 0; have hfz35_1 := blk_frozen BK329.out 1; have hcz36_0 : w34.cell? ⟨gb328, 0, none⟩ = some (.int .i64 a0_0) := (blk_cell BK328.out 0).trans rfl; have hcz36_1 : w34.cell? ⟨gb328, 1, none⟩ = some (.int .i64 a0_1) := (blk_cell BK328.out 1).trans rfl; have hcz36_2 : w34.cell? ⟨gb328, 2, none⟩ = some (.int .i64 a0_2) := (blk_cell BK328.out 2).trans rfl; have hcz36_3 : w34.cell? ⟨gb328, 3, none⟩ = some (.int .i64 a0_3) := (blk_cell BK328.out 3).trans rfl; have hcz36_4 : w34.cell? ⟨gb328, 4, none⟩ = some (.int .i64 a0_4) := (blk_cell BK328.out 4).trans rfl; have hcz36_5 : w34.cell? ⟨gb328, 5, none⟩ = some (.int .i64 a0_5) := (blk_cell BK328.out 5).trans rfl; have hcz36_6 : w34.cell? ⟨gb328, 6, none⟩ = some (.int .i64 a0_6) := (blk_cell BK328.out 6).trans rfl; have hcz36_7 : w34.cell? ⟨gb328, 7, none⟩ = some (.int .i64 a0_7) := (blk_cell BK328.out 7).trans rfl; have hcz36_8 : w34.cell? ⟨gb328, 8, none⟩ = some (.int .i64 a0_8) := (blk_cell BK328.out 8).trans rfl; have hcz36_9 : w34.cell? ⟨gb328, 9, none⟩ = some (.int .i64 a0_9) := (blk_cell BK328.out 9).trans rfl; have hcz36_10 : w34.cell? ⟨gb328, 10, none⟩ = some (.int .i64 a0_10) := (blk_cell BK328.out 10).trans rfl; have hcz36_11 : w34.cell? ⟨gb328, 11, none⟩ = some (.int .i64 a0_11) := (blk_cell BK328.out 11).trans rfl; have hfz36_0 := blk_frozen BK328.out 0; have hfz36_1 := blk_frozen BK328.out 1; have hfz36_2 := blk_frozen BK328.out 2; have hfz36_3 := blk_frozen BK328.out 3; have hfz36_4 := blk_frozen BK328.out 4; have hfz36_5 := blk_frozen BK328.out 5; have hfz36_6 := blk_frozen BK328.out 6; have hfz36_7 := blk_frozen BK328.out 7; have hfz36_8 := blk_frozen BK328.out 8; have hfz36_9 := blk_frozen BK328.out 9; have hfz36_10 := blk_frozen BK328.out 10; have hfz36_11 := blk_frozen BK328.out 11))
                  go_meet
                  case rel => exact ⟨_, (true), (by first | rfl | (simp; done) | (simp [*]; done) | (simp [Int.tdiv_eq_ediv_of_nonneg]; done) | (simp [Go.RowKit.wrap64]; done) | (simp [*, Go.RowKit.wrap64]; done)), H', ⟨by first | omega | exact Nat.le_refl _⟩, ⟨by (with_reducible repeat (first | refine blk_drewN ?_ _ | refine blk_drew ?_ | refine blk_alloc ?_ _)); exact BK328.out⟩, ⟨by (with_reducible repeat (first | refine blk_drewN ?_ _ | refine blk_drew ?_ | refine blk_alloc ?_ _)); exact BK329.out⟩, ⟨by repeat (first | (with_reducible first | exact HB.out | apply below_alloc | apply pw_below_drewN | apply below_drew1 | refine below_set ?_ GE328.out | refine below_set ?_ GE329.out) | exact HB.out)⟩⟩
                · rw [if_neg c31] at H
                  have c31b0 : decide (a0_4 < a3) = false := decide_eq_false c31
                  clear c31
                  have H' := Aside0.mk H
                  clear H
                  have hnb37 := NB328_329.out
                  have hnc37 := NB329_328.out
                  have hcz38_0 : w10.cell? ⟨gb328, 0, none⟩ = some (.int .i64 a0_0) := (blk_cell BK328.out 0).trans rfl
                  have hcz38_1 : w10.cell? ⟨gb328, 1, none⟩ = some (.int .i64 a0_1) := (blk_cell BK328.out 1).trans rfl
                  have hcz38_2 : w10.cell? ⟨gb328, 2, none⟩ = some (.int .i64 a0_2) := (blk_cell BK328.out 2).trans rfl
                  have hcz38_3 : w10.cell? ⟨gb328, 3, none⟩ = some (.int .i64 a0_3) := (blk_cell BK328.out 3).trans rfl
                  have hcz38_4 : w10.cell? ⟨gb328, 4, none⟩ = some (.int .i64 a0_4) := (blk_cell BK328.out 4).trans rfl
                  have hcz38_5 : w10.cell? ⟨gb328, 5, none⟩ = some (.int .i64 a0_5) := (blk_cell BK328.out 5).trans rfl
                  have hcz38_6 : w10.cell? ⟨gb328, 6, none⟩ = some (.int .i64 a0_6) := (blk_cell BK328.out 6).trans rfl
                  have hcz38_7 : w10.cell? ⟨gb328, 7, none⟩ = some (.int .i64 a0_7) := (blk_cell BK328.out 7).trans rfl
                  have hcz38_8 : w10.cell? ⟨gb328, 8, none⟩ = some (.int .i64 a0_8) := (blk_cell BK328.out 8).trans rfl
                  have hcz38_9 : w10.cell? ⟨gb328, 9, none⟩ = some (.int .i64 a0_9) := (blk_cell BK328.out 9).trans rfl
                  have hcz38_10 : w10.cell? ⟨gb328, 10, none⟩ = some (.int .i64 a0_10) := (blk_cell BK328.out 10).trans rfl
                  have hcz38_11 : w10.cell? ⟨gb328, 11, none⟩ = some (.int .i64 a0_11) := (blk_cell BK328.out 11).trans rfl
                  have hfz38_0 := blk_frozen BK328.out 0
                  have hfz38_1 := blk_frozen BK328.out 1
                  have hfz38_2 := blk_frozen BK328.out 2
                  have hfz38_3 := blk_frozen BK328.out 3
                  have hfz38_4 := blk_frozen BK328.out 4
                  have hfz38_5 := blk_frozen BK328.out 5
                  have hfz38_6 := blk_frozen BK328.out 6
                  have hfz38_7 := blk_frozen BK328.out 7
                  have hfz38_8 := blk_frozen BK328.out 8
                  have hfz38_9 := blk_frozen BK328.out 9
                  have hfz38_10 := blk_frozen BK328.out 10
                  have hfz38_11 := blk_frozen BK328.out 11
                  go_wp2_with (first | ((with_reducible refine gate_callee (f := 24) rfl ?_); refine goesL_ (some 14) rfl rfl Try.func24 (by kernel_rfl) rfl #[.agg #[.int .i64 a0_0, .int .i64 a0_1, .int .i64 a0_2, .int .i64 a0_3, .int .i64 a0_4, .int .i64 a0_5, .int .i64 a0_6, .int .i64 a0_7, .int .i64 a0_8, .int .i64 a0_9, .int .i64 a0_10, .int .i64 a0_11]] rfl (by (try simp only [List.map_toArray, List.map_cons, List.map_nil]); first | done | rfl | (simp only [List.length_drop, List.length_take]; rfl)) ?_; (with_reducible refine (limit_Check.calls k a0_0 a0_1 a0_2 a0_3 a0_4 a0_5 a0_6 a0_7 a0_8 a0_9 a0_10 a0_11 t331 _ A11.out).mono ?_); rintro e w39 ⟨rfl, hb⟩; refine ⟨_, rfl, ?_⟩; have n0_ := Aside0.mk (blk_below (g := gb328) (o := .cells #[.int .i64 a0_0, .int .i64 a0_1, .int .i64 a0_2, .int .i64 a0_3, .int .i64 a0_4, .int .i64 a0_5, .int .i64 a0_6, .int .i64 a0_7, .int .i64 a0_8, .int .i64 a0_9, .int .i64 a0_10, .int .i64 a0_11] 23 (0, 0)) (by (with_reducible repeat (first | refine blk_drewN ?_ _ | refine blk_drew ?_ | refine blk_alloc ?_ _)); exact BK328.out) hb); have n1_ := Aside0.mk (blk_below (g := gb329) (o := .cells #[.int .i64 a1_0, .int .i64 a1_1] 25 (0, 0)) (by (with_reducible repeat (first | refine blk_drewN ?_ _ | refine blk_drew ?_ | refine blk_alloc ?_ _)); exact BK329.out) hb); have n2_ := Aside0.mk (below_step (by repeat (first | (with_reducible first | exact HB.out | apply below_alloc | apply pw_below_drewN | apply below_drew1 | refine below_set ?_ GE328.out | refine below_set ?_ GE329.out) | exact HB.out)) hb); clear BK328; clear BK329; clear HB; have BK328 := n0_; have BK329 := n1_; have HB := n2_; clear n0_ n1_ n2_; (try clear hb); (try clear hb2); (try clear hk); (try clear hi); have hcz40_0 : w39.cell? ⟨gb329, 0, none⟩ = some (.int .i64 a1_0) := (blk_cell BK329.out 0).trans rfl; have hcz40_1 : w39.cell? ⟨gb329, 1, none⟩ = some (.int .i64 a1_1) := (blk_cell BK329.out 1).trans rfl; have hfz40_0 := blk_frozen BK329.out 0; have hfz40_1 := blk_frozen BK329.out 1; have hcz41_0 : w39.cell? ⟨gb328, 0, none⟩ = some (.int .i64 a0_0) := (blk_cell BK328.out 0).trans rfl; have hcz41_1 : w39.cell? ⟨gb328, 1, none⟩ = some (.int .i64 a0_1) := (blk_cell BK328.out 1).trans rfl; have hcz41_2 : w39.cell? ⟨gb328, 2, none⟩ = some (.int .i64 a0_2) := (blk_cell BK328.out 2).trans rfl; have hcz41_3 : w39.cell? ⟨gb328, 3, none⟩ = some (.int .i64 a0_3) := (blk_cell BK328.out 3).trans rfl; have hcz41_4 : w39.cell? ⟨gb328, 4, none⟩ = some (.int .i64 a0_4) := (blk_cell BK328.out 4).trans rfl; have hcz41_5 : w39.cell? ⟨gb328, 5, none⟩ = some (.int .i64 a0_5) := (blk_cell BK328.out 5).trans rfl; have hcz41_6 : w39.cell? ⟨gb328, 6, none⟩ = some (.int .i64 a0_6) := (blk_cell BK328.out 6).trans rfl; have hcz41_7 : w39.cell? ⟨gb328, 7, none⟩ = some (.int .i64 a0_7) := (blk_cell BK328.out 7).trans rfl; have hcz41_8 : w39.cell? ⟨gb328, 8, none⟩ = some (.int .i64 a0_8) := (blk_cell BK328.out 8).trans rfl; have hcz41_9 : w39.cell? ⟨gb328, 9, none⟩ = some (.int .i64 a0_9) := (blk_cell BK328.out 9).trans rfl; have hcz41_10 : w39.cell? ⟨gb328, 10, none⟩ = some (.int .i64 a0_10) := (blk_cell BK328.out 10).trans rfl; have hcz41_11 : w39.cell? ⟨gb328, 11, none⟩ = some (.int .i64 a0_11) := (blk_cell BK328.out 11).trans rfl; have hfz41_0 := blk_frozen BK328.out 0; have hfz41_1 := blk_frozen BK328.out 1; have hfz41_2 := blk_frozen BK328.out 2; have hfz41_3 := blk_frozen BK328.out 3; have hfz41_4 := blk_frozen BK328.out 4; have hfz41_5 := blk_frozen BK328.out 5; have hfz41_6 := blk_frozen BK328.out 6; have hfz41_7 := blk_frozen BK328.out 7; have hfz41_8 := blk_frozen BK328.out 8; have hfz41_9 := blk_frozen BK328.out 9; have hfz41_10 := blk_frozen BK328.out 10; have hfz41_11 := blk_frozen BK328.out 11))
                  go_meet
                  case rel => exact ⟨_, (decide (a3 < (wrap64 (-a0_4)))), (by first | rfl | (simp; done) | (simp [*]; done) | (simp [Int.tdiv_eq_ediv_of_nonneg]; done) | (simp [Go.RowKit.wrap64]; done) | (simp [*, Go.RowKit.wrap64]; done)), H', ⟨by first | omega | exact Nat.le_refl _⟩, ⟨by (with_reducible repeat (first | refine blk_drewN ?_ _ | refine blk_drew ?_ | refine blk_alloc ?_ _)); exact BK328.out⟩, ⟨by (with_reducible repeat (first | refine blk_drewN ?_ _ | refine blk_drew ?_ | refine blk_alloc ?_ _)); exact BK329.out⟩, ⟨by repeat (first | (with_reducible first | exact HB.out | apply below_alloc | apply pw_below_drewN | apply below_drew1 | refine below_set ?_ GE328.out | refine below_set ?_ GE329.out) | exact HB.out)⟩⟩
      · rw [if_neg c12] at H
        have c12b0 : (t331 == 0) = false := beq_eq_false_iff_ne.mpr c12
        have c12b1 : (t331 != 0) = true := bne_iff_ne.mpr c12
        (first | rw [c12b0] | (simp only [i64_w, i32_w]; rw [c12b0]) | skip)
        have H' := Aside0.mk H
        clear H
        have hnb42 := NB328_329.out
        have hnc42 := NB329_328.out
        have hcz43_0 : w10.cell? ⟨gb328, 0, none⟩ = some (.int .i64 a0_0) := (blk_cell BK328.out 0).trans rfl
        have hcz43_1 : w10.cell? ⟨gb328, 1, none⟩ = some (.int .i64 a0_1) := (blk_cell BK328.out 1).trans rfl
        have hcz43_2 : w10.cell? ⟨gb328, 2, none⟩ = some (.int .i64 a0_2) := (blk_cell BK328.out 2).trans rfl
        have hcz43_3 : w10.cell? ⟨gb328, 3, none⟩ = some (.int .i64 a0_3) := (blk_cell BK328.out 3).trans rfl
        have hcz43_4 : w10.cell? ⟨gb328, 4, none⟩ = some (.int .i64 a0_4) := (blk_cell BK328.out 4).trans rfl
        have hcz43_5 : w10.cell? ⟨gb328, 5, none⟩ = some (.int .i64 a0_5) := (blk_cell BK328.out 5).trans rfl
        have hcz43_6 : w10.cell? ⟨gb328, 6, none⟩ = some (.int .i64 a0_6) := (blk_cell BK328.out 6).trans rfl
        have hcz43_7 : w10.cell? ⟨gb328, 7, none⟩ = some (.int .i64 a0_7) := (blk_cell BK328.out 7).trans rfl
        have hcz43_8 : w10.cell? ⟨gb328, 8, none⟩ = some (.int .i64 a0_8) := (blk_cell BK328.out 8).trans rfl
        have hcz43_9 : w10.cell? ⟨gb328, 9, none⟩ = some (.int .i64 a0_9) := (blk_cell BK328.out 9).trans rfl
        have hcz43_10 : w10.cell? ⟨gb328, 10, none⟩ = some (.int .i64 a0_10) := (blk_cell BK328.out 10).trans rfl
        have hcz43_11 : w10.cell? ⟨gb328, 11, none⟩ = some (.int .i64 a0_11) := (blk_cell BK328.out 11).trans rfl
        have hfz43_0 := blk_frozen BK328.out 0
        have hfz43_1 := blk_frozen BK328.out 1
        have hfz43_2 := blk_frozen BK328.out 2
        have hfz43_3 := blk_frozen BK328.out 3
        have hfz43_4 := blk_frozen BK328.out 4
        have hfz43_5 := blk_frozen BK328.out 5
        have hfz43_6 := blk_frozen BK328.out 6
        have hfz43_7 := blk_frozen BK328.out 7
        have hfz43_8 := blk_frozen BK328.out 8
        have hfz43_9 := blk_frozen BK328.out 9
        have hfz43_10 := blk_frozen BK328.out 10
        have hfz43_11 := blk_frozen BK328.out 11
        go_wp2_with (first | ((with_reducible refine gate_callee (f := 24) rfl ?_); refine goesL_ (some 14) rfl rfl Try.func24 (by kernel_rfl) rfl #[.agg #[.int .i64 a0_0, .int .i64 a0_1, .int .i64 a0_2, .int .i64 a0_3, .int .i64 a0_4, .int .i64 a0_5, .int .i64 a0_6, .int .i64 a0_7, .int .i64 a0_8, .int .i64 a0_9, .int .i64 a0_10, .int .i64 a0_11]] rfl (by (try simp only [List.map_toArray, List.map_cons, List.map_nil]); first | done | rfl | (simp only [List.length_drop, List.length_take]; rfl)) ?_; (with_reducible refine (limit_Check.calls k a0_0 a0_1 a0_2 a0_3 a0_4 a0_5 a0_6 a0_7 a0_8 a0_9 a0_10 a0_11 t331 _ A11.out).mono ?_); rintro e w44 ⟨rfl, hb⟩; refine ⟨_, rfl, ?_⟩; have n0_ := Aside0.mk (blk_below (g := gb328) (o := .cells #[.int .i64 a0_0, .int .i64 a0_1, .int .i64 a0_2, .int .i64 a0_3, .int .i64 a0_4, .int .i64 a0_5, .int .i64 a0_6, .int .i64 a0_7, .int .i64 a0_8, .int .i64 a0_9, .int .i64 a0_10, .int .i64 a0_11] 23 (0, 0)) (by (with_reducible repeat (first | refine blk_drewN ?_ _ | refine blk_drew ?_ | refine blk_alloc ?_ _)); exact BK328.out) hb); have n1_ := Aside0.mk (blk_below (g := gb329) (o := .cells #[.int .i64 a1_0, .int .i64 a1_1] 25 (0, 0)) (by (with_reducible repeat (first | refine blk_drewN ?_ _ | refine blk_drew ?_ | refine blk_alloc ?_ _)); exact BK329.out) hb); have n2_ := Aside0.mk (below_step (by repeat (first | (with_reducible first | exact HB.out | apply below_alloc | apply pw_below_drewN | apply below_drew1 | refine below_set ?_ GE328.out | refine below_set ?_ GE329.out) | exact HB.out)) hb); clear BK328; clear BK329; clear HB; have BK328 := n0_; have BK329 := n1_; have HB := n2_; clear n0_ n1_ n2_; (try clear hb); (try clear hb2); (try clear hk); (try clear hi)))
        go_meet
        case rel => exact ⟨_, (true), (by first | rfl | (simp; done) | (simp [*]; done) | (simp [Int.tdiv_eq_ediv_of_nonneg]; done) | (simp [Go.RowKit.wrap64]; done) | (simp [*, Go.RowKit.wrap64]; done)), H', ⟨by first | omega | exact Nat.le_refl _⟩, ⟨by (with_reducible repeat (first | refine blk_drewN ?_ _ | refine blk_drew ?_ | refine blk_alloc ?_ _)); exact BK328.out⟩, ⟨by (with_reducible repeat (first | refine blk_drewN ?_ _ | refine blk_drew ?_ | refine blk_alloc ?_ _)); exact BK329.out⟩, ⟨by repeat (first | (with_reducible first | exact HB.out | apply below_alloc | apply pw_below_drewN | apply below_drew1 | refine below_set ?_ GE328.out | refine below_set ?_ GE329.out) | exact HB.out)⟩⟩
    case rest =>
      clear HC7
      try clear c1
      try clear c2
      try clear p2
      try clear c3
      try clear c4
      try clear c6
      try clear p6
      try clear c7
      try clear c12
      try clear c12b0
      try clear c12b1
      try clear c13
      try clear c13b0
      try clear c14
      try clear c15
      try clear c17
      try clear c17b0
      try clear c18
      try clear c21
      try clear c21b0
      try clear c22
      try clear c24
      try clear c26
      try clear c26b0
      try clear c27
      try clear c31
      try clear c31b0
      try clear c32
      try clear c37
      try clear c42
      try clear hcz15_0
      try clear hcz15_1
      try clear hcz15_10
      try clear hcz15_11
      try clear hcz15_2
      try clear hcz15_3
      try clear hcz15_4
      try clear hcz15_5
      try clear hcz15_6
      try clear hcz15_7
      try clear hcz15_8
      try clear hcz15_9
      try clear hcz19_0
      try clear hcz19_1
      try clear hcz19_10
      try clear hcz19_11
      try clear hcz19_2
      try clear hcz19_3
      try clear hcz19_4
      try clear hcz19_5
      try clear hcz19_6
      try clear hcz19_7
      try clear hcz19_8
      try clear hcz19_9
      try clear hcz23_0
      try clear hcz23_1
      try clear hcz23_10
      try clear hcz23_11
      try clear hcz23_2
      try clear hcz23_3
      try clear hcz23_4
      try clear hcz23_5
      try clear hcz23_6
      try clear hcz23_7
      try clear hcz23_8
      try clear hcz23_9
      try clear hcz25_0
      try clear hcz25_1
      try clear hcz28_0
      try clear hcz28_1
      try clear hcz28_10
      try clear hcz28_11
      try clear hcz28_2
      try clear hcz28_3
      try clear hcz28_4
      try clear hcz28_5
      try clear hcz28_6
      try clear hcz28_7
      try clear hcz28_8
      try clear hcz28_9
      try clear hcz30_0
      try clear hcz30_1
      try clear hcz33_0
      try clear hcz33_1
      try clear hcz33_10
      try clear hcz33_11
      try clear hcz33_2
      try clear hcz33_3
      try clear hcz33_4
      try clear hcz33_5
      try clear hcz33_6
      try clear hcz33_7
      try clear hcz33_8
      try clear hcz33_9
      try clear hcz35_0
      try clear hcz35_1
      try clear hcz36_0
      try clear hcz36_1
      try clear hcz36_10
      try clear hcz36_11
      try clear hcz36_2
      try clear hcz36_3
      try clear hcz36_4
      try clear hcz36_5
      try clear hcz36_6
      try clear hcz36_7
      try clear hcz36_8
      try clear hcz36_9
      try clear hcz38_0
      try clear hcz38_1
      try clear hcz38_10
      try clear hcz38_11
      try clear hcz38_2
      try clear hcz38_3
      try clear hcz38_4
      try clear hcz38_5
      try clear hcz38_6
      try clear hcz38_7
      try clear hcz38_8
      try clear hcz38_9
      try clear hcz40_0
      try clear hcz40_1
      try clear hcz41_0
      try clear hcz41_1
      try clear hcz41_10
      try clear hcz41_11
      try clear hcz41_2
      try clear hcz41_3
      try clear hcz41_4
      try clear hcz41_5
      try clear hcz41_6
      try clear hcz41_7
      try clear hcz41_8
      try clear hcz41_9
      try clear hcz43_0
      try clear hcz43_1
      try clear hcz43_10
      try clear hcz43_11
      try clear hcz43_2
      try clear hcz43_3
      try clear hcz43_4
      try clear hcz43_5
      try clear hcz43_6
      try clear hcz43_7
      try clear hcz43_8
      try clear hcz43_9
      try clear hfz15_0
      try clear hfz15_1
      try clear hfz15_10
      try clear hfz15_11
      try clear hfz15_2
      try clear hfz15_3
      try clear hfz15_4
      try clear hfz15_5
      try clear hfz15_6
      try clear hfz15_7
      try clear hfz15_8
      try clear hfz15_9
      try clear hfz19_0
      try clear hfz19_1
      try clear hfz19_10
      try clear hfz19_11
      try clear hfz19_2
      try clear hfz19_3
      try clear hfz19_4
      try clear hfz19_5
      try clear hfz19_6
      try clear hfz19_7
      try clear hfz19_8
      try clear hfz19_9
      try clear hfz23_0
      try clear hfz23_1
      try clear hfz23_10
      try clear hfz23_11
      try clear hfz23_2
      try clear hfz23_3
      try clear hfz23_4
      try clear hfz23_5
      try clear hfz23_6
      try clear hfz23_7
      try clear hfz23_8
      try clear hfz23_9
      try clear hfz25_0
      try clear hfz25_1
      try clear hfz28_0
      try clear hfz28_1
      try clear hfz28_10
      try clear hfz28_11
      try clear hfz28_2
      try clear hfz28_3
      try clear hfz28_4
      try clear hfz28_5
      try clear hfz28_6
      try clear hfz28_7
      try clear hfz28_8
      try clear hfz28_9
      try clear hfz30_0
      try clear hfz30_1
      try clear hfz33_0
      try clear hfz33_1
      try clear hfz33_10
      try clear hfz33_11
      try clear hfz33_2
      try clear hfz33_3
      try clear hfz33_4
      try clear hfz33_5
      try clear hfz33_6
      try clear hfz33_7
      try clear hfz33_8
      try clear hfz33_9
      try clear hfz35_0
      try clear hfz35_1
      try clear hfz36_0
      try clear hfz36_1
      try clear hfz36_10
      try clear hfz36_11
      try clear hfz36_2
      try clear hfz36_3
      try clear hfz36_4
      try clear hfz36_5
      try clear hfz36_6
      try clear hfz36_7
      try clear hfz36_8
      try clear hfz36_9
      try clear hfz38_0
      try clear hfz38_1
      try clear hfz38_10
      try clear hfz38_11
      try clear hfz38_2
      try clear hfz38_3
      try clear hfz38_4
      try clear hfz38_5
      try clear hfz38_6
      try clear hfz38_7
      try clear hfz38_8
      try clear hfz38_9
      try clear hfz40_0
      try clear hfz40_1
      try clear hfz41_0
      try clear hfz41_1
      try clear hfz41_10
      try clear hfz41_11
      try clear hfz41_2
      try clear hfz41_3
      try clear hfz41_4
      try clear hfz41_5
      try clear hfz41_6
      try clear hfz41_7
      try clear hfz41_8
      try clear hfz41_9
      try clear hfz43_0
      try clear hfz43_1
      try clear hfz43_10
      try clear hfz43_11
      try clear hfz43_2
      try clear hfz43_3
      try clear hfz43_4
      try clear hfz43_5
      try clear hfz43_6
      try clear hfz43_7
      try clear hfz43_8
      try clear hfz43_9
      obtain ⟨kq, x48_6, rfl, HA, HJ6, BK328, BK329, HB⟩ := hcut
      cases kq with
      | zero => exact absurd HA.out (by simp [clepsydralaw11_CarryHolds.j0])
      | succ kj6 =>
        have H := HA.out
        clear HA
        simp only [clepsydralaw11_CarryHolds.j0] at H
        by_cases c45 : x48_6 = true
        · subst c45
          have H1 : (some true) = some r := by rw [if_pos rfl] at H; exact H
          clear H
          have H := H1
          clear H1
          obtain rfl := Option.some.inj H
          go_wp2
          go_ret
          exact ⟨by first | rfl | (simp [errW_none, errW_some] <;> rfl) | (simp [*, errW_none, errW_some] <;> rfl), by repeat (first | (with_reducible first | exact HB.out | apply below_alloc | apply pw_below_drewN | apply below_drew1 | refine below_set ?_ GE328.out | refine below_set ?_ GE329.out) | exact HB.out)⟩
        · replace c45 := Bool.eq_false_iff.mpr c45
          subst c45
          have H1 : ((carry_Hold.f kj6 a0_0 a0_1 a0_2 a0_3 a0_4 a0_5 a0_6 a0_7 a0_8 a0_9 a0_10 a0_11 a1_0 a1_1 (wrap64 (a0_3 + a3))).bind fun bt332 => (if bt332.1 ≤ (wrap64 (a2 + a0_3)) then (if (wrap64 (a2 + a0_3)) ≤ bt332.2 then ((carry_Ticks.f kj6 a0_0 a0_1 a0_2 a0_3 a0_4 a0_5 a0_6 a0_7 a0_8 a0_9 a0_10 a0_11).bind fun bt335 => (if bt335.1 ≤ (wrap64 (a0_3 + a3)) then ((carry_Ticks.f kj6 a0_0 a0_1 a0_2 a0_3 a0_4 a0_5 a0_6 a0_7 a0_8 a0_9 a0_10 a0_11).bind fun bt337 => (some (decide ((wrap64 (a0_3 + a3)) ≤ bt337.2)))) else (some false))) else (some false)) else (some false))) = some r := by rw [if_neg (show ¬ (false = true) by decide)] at H; exact H
          clear H
          have H := H1
          clear H1
          replace H := Option.bind_eq_some_iff.mp H
          obtain ⟨⟨t332, t333⟩, A460, H⟩ := H
          replace H : (if t332 ≤ (wrap64 (a2 + a0_3)) then (if (wrap64 (a2 + a0_3)) ≤ t333 then ((carry_Ticks.f kj6 a0_0 a0_1 a0_2 a0_3 a0_4 a0_5 a0_6 a0_7 a0_8 a0_9 a0_10 a0_11).bind fun bt335 => (if bt335.1 ≤ (wrap64 (a0_3 + a3)) then ((carry_Ticks.f kj6 a0_0 a0_1 a0_2 a0_3 a0_4 a0_5 a0_6 a0_7 a0_8 a0_9 a0_10 a0_11).bind fun bt337 => (some (decide ((wrap64 (a0_3 + a3)) ≤ bt337.2)))) else (some false))) else (some false)) else (some false)) = some r := H
          have A46 := Aside0.mk A460
          clear A460
          by_cases c47 : t332 ≤ (wrap64 (a2 + a0_3))
          · rw [if_pos c47] at H
            have c47b0 : decide (t332 ≤ (wrap64 (a2 + a0_3))) = true := decide_eq_true c47
            clear c47
            by_cases c48 : (wrap64 (a2 + a0_3)) ≤ t333
            · rw [if_pos c48] at H
              have c48b0 : decide ((wrap64 (a2 + a0_3)) ≤ t333) = true := decide_eq_true c48
              clear c48
              replace H := Option.bind_eq_some_iff.mp H
              obtain ⟨⟨t335, t336⟩, A490, H⟩ := H
              replace H : (if t335 ≤ (wrap64 (a0_3 + a3)) then ((carry_Ticks.f kj6 a0_0 a0_1 a0_2 a0_3 a0_4 a0_5 a0_6 a0_7 a0_8 a0_9 a0_10 a0_11).bind fun bt337 => (some (decide ((wrap64 (a0_3 + a3)) ≤ bt337.2)))) else (some false)) = some r := H
              have A49 := Aside0.mk A490
              clear A490
              by_cases c50 : t335 ≤ (wrap64 (a0_3 + a3))
              · rw [if_pos c50] at H
                have c50b0 : decide (t335 ≤ (wrap64 (a0_3 + a3))) = true := decide_eq_true c50
                clear c50
                replace H := Option.bind_eq_some_iff.mp H
                obtain ⟨⟨t337, t338⟩, A510, H⟩ := H
                replace H : (some (decide ((wrap64 (a0_3 + a3)) ≤ t338))) = some r := H
                have A51 := Aside0.mk A510
                clear A510
                have e_ := Option.some.inj (A49.out.symm.trans A51.out)
                simp only [Prod.mk.injEq] at e_
                obtain ⟨rfl, rfl⟩ := e_
                obtain rfl := Option.some.inj H
                have hnb52 := NB328_329.out
                have hnc52 := NB329_328.out
                have hcz53_0 : wc.cell? ⟨gb328, 0, none⟩ = some (.int .i64 a0_0) := (blk_cell BK328.out 0).trans rfl
                have hcz53_1 : wc.cell? ⟨gb328, 1, none⟩ = some (.int .i64 a0_1) := (blk_cell BK328.out 1).trans rfl
                have hcz53_2 : wc.cell? ⟨gb328, 2, none⟩ = some (.int .i64 a0_2) := (blk_cell BK328.out 2).trans rfl
                have hcz53_3 : wc.cell? ⟨gb328, 3, none⟩ = some (.int .i64 a0_3) := (blk_cell BK328.out 3).trans rfl
                have hcz53_4 : wc.cell? ⟨gb328, 4, none⟩ = some (.int .i64 a0_4) := (blk_cell BK328.out 4).trans rfl
                have hcz53_5 : wc.cell? ⟨gb328, 5, none⟩ = some (.int .i64 a0_5) := (blk_cell BK328.out 5).trans rfl
                have hcz53_6 : wc.cell? ⟨gb328, 6, none⟩ = some (.int .i64 a0_6) := (blk_cell BK328.out 6).trans rfl
                have hcz53_7 : wc.cell? ⟨gb328, 7, none⟩ = some (.int .i64 a0_7) := (blk_cell BK328.out 7).trans rfl
                have hcz53_8 : wc.cell? ⟨gb328, 8, none⟩ = some (.int .i64 a0_8) := (blk_cell BK328.out 8).trans rfl
                have hcz53_9 : wc.cell? ⟨gb328, 9, none⟩ = some (.int .i64 a0_9) := (blk_cell BK328.out 9).trans rfl
                have hcz53_10 : wc.cell? ⟨gb328, 10, none⟩ = some (.int .i64 a0_10) := (blk_cell BK328.out 10).trans rfl
                have hcz53_11 : wc.cell? ⟨gb328, 11, none⟩ = some (.int .i64 a0_11) := (blk_cell BK328.out 11).trans rfl
                have hfz53_0 := blk_frozen BK328.out 0
                have hfz53_1 := blk_frozen BK328.out 1
                have hfz53_2 := blk_frozen BK328.out 2
                have hfz53_3 := blk_frozen BK328.out 3
                have hfz53_4 := blk_frozen BK328.out 4
                have hfz53_5 := blk_frozen BK328.out 5
                have hfz53_6 := blk_frozen BK328.out 6
                have hfz53_7 := blk_frozen BK328.out 7
                have hfz53_8 := blk_frozen BK328.out 8
                have hfz53_9 := blk_frozen BK328.out 9
                have hfz53_10 := blk_frozen BK328.out 10
                have hfz53_11 := blk_frozen BK328.out 11
                have hcz54_0 : wc.cell? ⟨gb329, 0, none⟩ = some (.int .i64 a1_0) := (blk_cell BK329.out 0).trans rfl
                have hcz54_1 : wc.cell? ⟨gb329, 1, none⟩ = some (.int .i64 a1_1) := (blk_cell BK329.out 1).trans rfl
                have hfz54_0 := blk_frozen BK329.out 0
                have hfz54_1 := blk_frozen BK329.out 1
                try go_wp2_with (first | ((with_reducible refine gate_callee (f := 16) rfl ?_); refine goesL_ (some 55) rfl rfl Try.func16 (by kernel_rfl) rfl #[.agg #[.int .i64 a0_0, .int .i64 a0_1, .int .i64 a0_2, .int .i64 a0_3, .int .i64 a0_4, .int .i64 a0_5, .int .i64 a0_6, .int .i64 a0_7, .int .i64 a0_8, .int .i64 a0_9, .int .i64 a0_10, .int .i64 a0_11], .agg #[.int .i64 a1_0, .int .i64 a1_1], .int .i64 (wrap64 (a0_3 + a3))] rfl (by (try simp only [List.map_toArray, List.map_cons, List.map_nil]); first | done | rfl | (simp only [List.length_drop, List.length_take]; rfl)) ?_; (with_reducible refine (carry_Hold.calls kj6 a0_0 a0_1 a0_2 a0_3 a0_4 a0_5 a0_6 a0_7 a0_8 a0_9 a0_10 a0_11 a1_0 a1_1 (wrap64 (a0_3 + a3)) t332 t333 _ A46.out).mono ?_); rintro e w55 ⟨rfl, hb⟩; refine ⟨_, rfl, ?_⟩; have n0_ := Aside0.mk (blk_below (g := gb328) (o := .cells #[.int .i64 a0_0, .int .i64 a0_1, .int .i64 a0_2, .int .i64 a0_3, .int .i64 a0_4, .int .i64 a0_5, .int .i64 a0_6, .int .i64 a0_7, .int .i64 a0_8, .int .i64 a0_9, .int .i64 a0_10, .int .i64 a0_11] 23 (0, 0)) (by (with_reducible repeat (first | refine blk_drewN ?_ _ | refine blk_drew ?_ | refine blk_alloc ?_ _)); exact BK328.out) hb); have n1_ := Aside0.mk (blk_below (g := gb329) (o := .cells #[.int .i64 a1_0, .int .i64 a1_1] 25 (0, 0)) (by (with_reducible repeat (first | refine blk_drewN ?_ _ | refine blk_drew ?_ | refine blk_alloc ?_ _)); exact BK329.out) hb); have n2_ := Aside0.mk (below_step (by repeat (first | (with_reducible first | exact HB.out | apply below_alloc | apply pw_below_drewN | apply below_drew1 | refine below_set ?_ GE328.out | refine below_set ?_ GE329.out) | exact HB.out)) hb); clear BK328; clear BK329; clear HB; have BK328 := n0_; have BK329 := n1_; have HB := n2_; clear n0_ n1_ n2_; (try clear hb); (try clear hb2); (try clear hk); (try clear hi)) | ((with_reducible refine gate_dst (N := 9) rfl ?_); refine box_event ?hg (N := 9) ?hd (cs := #[.int .i64 0, .int .i64 0]) (t := 25) ?hr ?_; (case hd => rfl); (case hg => rfl); (case hr => first | (go_simp; done) | (go_simp; rfl)); intro gb334 hg w56 hbox hb; have n0_ := Aside0.mk (blk_below (g := gb328) (o := .cells #[.int .i64 a0_0, .int .i64 a0_1, .int .i64 a0_2, .int .i64 a0_3, .int .i64 a0_4, .int .i64 a0_5, .int .i64 a0_6, .int .i64 a0_7, .int .i64 a0_8, .int .i64 a0_9, .int .i64 a0_10, .int .i64 a0_11] 23 (0, 0)) (by (with_reducible repeat (first | refine blk_drewN ?_ _ | refine blk_drew ?_ | refine blk_alloc ?_ _)); exact BK328.out) hb); have n1_ := Aside0.mk (blk_below (g := gb329) (o := .cells #[.int .i64 a1_0, .int .i64 a1_1] 25 (0, 0)) (by (with_reducible repeat (first | refine blk_drewN ?_ _ | refine blk_drew ?_ | refine blk_alloc ?_ _)); exact BK329.out) hb); have n2_ := Aside0.mk (below_step (by repeat (first | (with_reducible first | exact HB.out | apply below_alloc | apply pw_below_drewN | apply below_drew1 | refine below_set ?_ GE328.out | refine below_set ?_ GE329.out) | exact HB.out)) hb); have n3_ := Aside0.mk (hbox); have n4_ := Aside0.mk ((by rw [hg]; exact (below_size (by repeat (first | (with_reducible first | exact HB.out | apply below_alloc | apply pw_below_drewN | apply below_drew1 | refine below_set ?_ GE328.out | refine below_set ?_ GE329.out) | exact HB.out))) : w.heap.size ≤ gb334)); have n5_ := Aside0.mk ((by rw [hg]; exact (below_size (by repeat (first | (with_reducible first | exact HB.out | apply below_alloc | apply pw_below_drewN | apply below_drew1 | refine below_set ?_ GE328.out | refine below_set ?_ GE329.out) | exact HB.out))) : w.heap.size ≤ gb334)); have n6_ := Aside0.mk ((by rw [hg]; exact Nat.ne_of_lt (blk_lt (g := gb328) (o := .cells #[.int .i64 a0_0, .int .i64 a0_1, .int .i64 a0_2, .int .i64 a0_3, .int .i64 a0_4, .int .i64 a0_5, .int .i64 a0_6, .int .i64 a0_7, .int .i64 a0_8, .int .i64 a0_9, .int .i64 a0_10, .int .i64 a0_11] 23 (0, 0)) (by (with_reducible repeat (first | refine blk_drewN ?_ _ | refine blk_drew ?_ | refine blk_alloc ?_ _)); exact BK328.out)) : gb328 ≠ gb334)); have n7_ := Aside0.mk ((by rw [hg]; exact Nat.ne_of_gt (blk_lt (g := gb328) (o := .cells #[.int .i64 a0_0, .int .i64 a0_1, .int .i64 a0_2, .int .i64 a0_3, .int .i64 a0_4, .int .i64 a0_5, .int .i64 a0_6, .int .i64 a0_7, .int .i64 a0_8, .int .i64 a0_9, .int .i64 a0_10, .int .i64 a0_11] 23 (0, 0)) (by (with_reducible repeat (first | refine blk_drewN ?_ _ | refine blk_drew ?_ | refine blk_alloc ?_ _)); exact BK328.out)) : gb334 ≠ gb328)); have n8_ := Aside0.mk ((by rw [hg]; exact Nat.ne_of_lt (blk_lt (g := gb329) (o := .cells #[.int .i64 a1_0, .int .i64 a1_1] 25 (0, 0)) (by (with_reducible repeat (first | refine blk_drewN ?_ _ | refine blk_drew ?_ | refine blk_alloc ?_ _)); exact BK329.out)) : gb329 ≠ gb334)); have n9_ := Aside0.mk ((by rw [hg]; exact Nat.ne_of_gt (blk_lt (g := gb329) (o := .cells #[.int .i64 a1_0, .int .i64 a1_1] 25 (0, 0)) (by (with_reducible repeat (first | refine blk_drewN ?_ _ | refine blk_drew ?_ | refine blk_alloc ?_ _)); exact BK329.out)) : gb334 ≠ gb329)); clear BK328; clear BK329; clear HB; have BK328 := n0_; have BK329 := n1_; have HB := n2_; have BK334 := n3_; have GW334 := n4_; have GE334 := n5_; have NB328_334 := n6_; have NB334_328 := n7_; have NB329_334 := n8_; have NB334_329 := n9_; clear n0_ n1_ n2_ n3_ n4_ n5_ n6_ n7_ n8_ n9_; clear hb hbox hg; have hnb57 := NB334_328.out; have hnc57 := NB328_334.out; have hnb58 := NB334_329.out; have hnc58 := NB329_334.out; have hcz59_0 : w56.cell? ⟨gb334, 0, none⟩ = some (.int .i64 0) := (blk_cell BK334.out 0).trans rfl; have hcz59_1 : w56.cell? ⟨gb334, 1, none⟩ = some (.int .i64 0) := (blk_cell BK334.out 1).trans rfl; have hfz59_0 := blk_frozen BK334.out 0; have hfz59_1 := blk_frozen BK334.out 1; have hcz60_0 : w56.cell? ⟨gb328, 0, none⟩ = some (.int .i64 a0_0) := (blk_cell BK328.out 0).trans rfl; have hcz60_1 : w56.cell? ⟨gb328, 1, none⟩ = some (.int .i64 a0_1) := (blk_cell BK328.out 1).trans rfl; have hcz60_2 : w56.cell? ⟨gb328, 2, none⟩ = some (.int .i64 a0_2) := (blk_cell BK328.out 2).trans rfl; have hcz60_3 : w56.cell? ⟨gb328, 3, none⟩ = some (.int .i64 a0_3) := (blk_cell BK328.out 3).trans rfl; have hcz60_4 : w56.cell? ⟨gb328, 4, none⟩ = some (.int .i64 a0_4) := (blk_cell BK328.out 4).trans rfl; have hcz60_5 : w56.cell? ⟨gb328, 5, none⟩ = some (.int .i64 a0_5) := (blk_cell BK328.out 5).trans rfl; have hcz60_6 : w56.cell? ⟨gb328, 6, none⟩ = some (.int .i64 a0_6) := (blk_cell BK328.out 6).trans rfl; have hcz60_7 : w56.cell? ⟨gb328, 7, none⟩ = some (.int .i64 a0_7) := (blk_cell BK328.out 7).trans rfl; have hcz60_8 : w56.cell? ⟨gb328, 8, none⟩ = some (.int .i64 a0_8) := (blk_cell BK328.out 8).trans rfl; have hcz60_9 : w56.cell? ⟨gb328, 9, none⟩ = some (.int .i64 a0_9) := (blk_cell BK328.out 9).trans rfl; have hcz60_10 : w56.cell? ⟨gb328, 10, none⟩ = some (.int .i64 a0_10) := (blk_cell BK328.out 10).trans rfl; have hcz60_11 : w56.cell? ⟨gb328, 11, none⟩ = some (.int .i64 a0_11) := (blk_cell BK328.out 11).trans rfl; have hfz60_0 := blk_frozen BK328.out 0; have hfz60_1 := blk_frozen BK328.out 1; have hfz60_2 := blk_frozen BK328.out 2; have hfz60_3 := blk_frozen BK328.out 3; have hfz60_4 := blk_frozen BK328.out 4; have hfz60_5 := blk_frozen BK328.out 5; have hfz60_6 := blk_frozen BK328.out 6; have hfz60_7 := blk_frozen BK328.out 7; have hfz60_8 := blk_frozen BK328.out 8; have hfz60_9 := blk_frozen BK328.out 9; have hfz60_10 := blk_frozen BK328.out 10; have hfz60_11 := blk_frozen BK328.out 11))
                have n0_ : Aside0 (((w56.setCell ⟨gb334, 0, none⟩ (.int .i64 t332)).setCell ⟨gb334, 1, none⟩ (.int .i64 t333)).heap[gb328]? = some (.cells #[.int .i64 a0_0, .int .i64 a0_1, .int .i64 a0_2, .int .i64 a0_3, .int .i64 a0_4, .int .i64 a0_5, .int .i64 a0_6, .int .i64 a0_7, .int .i64 a0_8, .int .i64 a0_9, .int .i64 a0_10, .int .i64 a0_11] 23 (0, 0))) := ⟨by (with_reducible repeat (first | refine blk_drewN ?_ _ | refine blk_drew ?_ | refine blk_alloc ?_ _)); refine blk_far ?_ NB328_334.out _; (with_reducible repeat (first | refine blk_drewN ?_ _ | refine blk_drew ?_ | refine blk_alloc ?_ _)); refine blk_far ?_ NB328_334.out _; (with_reducible repeat (first | refine blk_drewN ?_ _ | refine blk_drew ?_ | refine blk_alloc ?_ _)); exact BK328.out⟩
                have n1_ : Aside0 (((w56.setCell ⟨gb334, 0, none⟩ (.int .i64 t332)).setCell ⟨gb334, 1, none⟩ (.int .i64 t333)).heap[gb329]? = some (.cells #[.int .i64 a1_0, .int .i64 a1_1] 25 (0, 0))) := ⟨by (with_reducible repeat (first | refine blk_drewN ?_ _ | refine blk_drew ?_ | refine blk_alloc ?_ _)); refine blk_far ?_ NB329_334.out _; (with_reducible repeat (first | refine blk_drewN ?_ _ | refine blk_drew ?_ | refine blk_alloc ?_ _)); refine blk_far ?_ NB329_334.out _; (with_reducible repeat (first | refine blk_drewN ?_ _ | refine blk_drew ?_ | refine blk_alloc ?_ _)); exact BK329.out⟩
                have n2_ : Aside0 (((w56.setCell ⟨gb334, 0, none⟩ (.int .i64 t332)).setCell ⟨gb334, 1, none⟩ (.int .i64 t333)).heap[gb334]? = some (.cells #[.int .i64 t332, .int .i64 t333] 25 (0, 0))) := ⟨by (with_reducible repeat (first | refine blk_drewN ?_ _ | refine blk_drew ?_ | refine blk_alloc ?_ _)); refine blk_put (cs := #[.int .i64 t332, .int .i64 0]) ?_ 1 _ rfl; (with_reducible repeat (first | refine blk_drewN ?_ _ | refine blk_drew ?_ | refine blk_alloc ?_ _)); refine blk_put (cs := #[.int .i64 0, .int .i64 0]) ?_ 0 _ rfl; (with_reducible repeat (first | refine blk_drewN ?_ _ | refine blk_drew ?_ | refine blk_alloc ?_ _)); exact BK334.out⟩
                have n3_ : Aside0 (Below w.heap.size w ((w56.setCell ⟨gb334, 0, none⟩ (.int .i64 t332)).setCell ⟨gb334, 1, none⟩ (.int .i64 t333))) := ⟨by repeat (first | (with_reducible first | exact HB.out | apply below_alloc | apply pw_below_drewN | apply below_drew1 | refine below_set ?_ GE328.out | refine below_set ?_ GE329.out | refine below_set ?_ GE334.out) | exact HB.out)⟩
                (try clear BK328)
                (try clear BK329)
                (try clear BK334)
                (try clear HB)
                generalize ((w56.setCell ⟨gb334, 0, none⟩ (.int .i64 t332)).setCell ⟨gb334, 1, none⟩ (.int .i64 t333)) = w61 at n0_ n1_ n2_ n3_ ⊢
                have BK328 := n0_
                have BK329 := n1_
                have BK334 := n2_
                have HB := n3_
                clear n0_ n1_ n2_ n3_
                have n0_ := Aside0.mk (blk_drew BK328.out)
                have n1_ := Aside0.mk (blk_drew BK329.out)
                have n2_ := Aside0.mk (blk_drew BK334.out)
                have n3_ := Aside0.mk (below_drew1 HB.out)
                clear BK328
                clear BK329
                clear BK334
                clear HB
                have BK328 := n0_
                have BK329 := n1_
                have BK334 := n2_
                have HB := n3_
                clear n0_ n1_ n2_ n3_
                refine start_ (n := 31) (S := fun w' => w'.cell? ⟨gb334, 0, none⟩ = some (.int .i64 t332) ∧ w'.cell? ⟨gb334, 1, none⟩ = some (.int .i64 t333) ∧ w'.cell? ⟨gb328, 0, none⟩ = some (.int .i64 a0_0) ∧ w'.cell? ⟨gb328, 1, none⟩ = some (.int .i64 a0_1) ∧ w'.cell? ⟨gb328, 2, none⟩ = some (.int .i64 a0_2) ∧ w'.cell? ⟨gb328, 3, none⟩ = some (.int .i64 a0_3) ∧ w'.cell? ⟨gb328, 4, none⟩ = some (.int .i64 a0_4) ∧ w'.cell? ⟨gb328, 5, none⟩ = some (.int .i64 a0_5) ∧ w'.cell? ⟨gb328, 6, none⟩ = some (.int .i64 a0_6) ∧ w'.cell? ⟨gb328, 7, none⟩ = some (.int .i64 a0_7) ∧ w'.cell? ⟨gb328, 8, none⟩ = some (.int .i64 a0_8) ∧ w'.cell? ⟨gb328, 9, none⟩ = some (.int .i64 a0_9) ∧ w'.cell? ⟨gb328, 10, none⟩ = some (.int .i64 a0_10) ∧ w'.cell? ⟨gb328, 11, none⟩ = some (.int .i64 a0_11)) (ds := []) #[false, false, false, false, false, false, false, false, false, false, false, false, false, false, false, false, false, false, false, false, false, false, false, false, false, false, false, false, false, false, false] (by kernel_rfl) rfl rfl ⟨(blk_cell BK334.out 0).trans rfl, (blk_cell BK334.out 1).trans rfl, (blk_cell BK328.out 0).trans rfl, (blk_cell BK328.out 1).trans rfl, (blk_cell BK328.out 2).trans rfl, (blk_cell BK328.out 3).trans rfl, (blk_cell BK328.out 4).trans rfl, (blk_cell BK328.out 5).trans rfl, (blk_cell BK328.out 6).trans rfl, (blk_cell BK328.out 7).trans rfl, (blk_cell BK328.out 8).trans rfl, (blk_cell BK328.out 9).trans rfl, (blk_cell BK328.out 10).trans rfl, (blk_cell BK328.out 11).trans rfl⟩ (fun hHeld => ?_); refine with_tabW clepsydralaw11_CarryHolds.tab7 clepsydralaw11_CarryHolds.bits7 (fun HT_ HW_ => ?_)
                generalize w61.drew = w62 at BK328 BK329 BK334 HB hHeld ⊢
                refine pure_ (i := 0) (N := some 60) (v := ?_) (a' := ?_) #[true, false, false, false, false, false, false, false, false, false, false, false, false, false, false, false, false, false, false, false, false, false, false, false, false, false, false, false, false, false, false] rfl rfl (any_of HT_.out (by kernel_rfl)) (fun _ _ _ h => h) (Or.inl ⟨by rfl, ?_⟩) ?_ ?_
                rotate_left
                · intro w'
                  go_simp
                  with_reducible rfl
                rotate_left
                · simp only [Act.put, List.setIfInBounds_toArray, List.set_cons_zero, List.set_cons_succ, i64_w, i32_w]
                  rfl
                refine pure_ (i := 2) (N := some 62) (v := ?_) (a' := ?_) #[true, false, true, false, false, false, false, false, false, false, false, false, false, false, false, false, false, false, false, false, false, false, false, false, false, false, false, false, false, false, false] rfl rfl (any_of HT_.out (by kernel_rfl)) (fun _ _ _ h => h) (Or.inl ⟨by rfl, ?_⟩) ?_ ?_
                rotate_left
                · intro w'
                  go_simp
                  with_reducible rfl
                rotate_left
                · simp only [Act.put, List.setIfInBounds_toArray, List.set_cons_zero, List.set_cons_succ, i64_w, i32_w]
                  rfl
                refine take_ (i := 1) (N := some 61) (v := ?_) (a' := ?_) #[true, true, true, false, false, false, false, false, false, false, false, false, false, false, false, false, false, false, false, false, false, false, false, false, false, false, false, false, false, false, false] rfl rfl (take_ofW HT_.out HW_.out (by kernel_rfl)) (fun _ _ _ h => h) (Or.inl ⟨by rfl, ?_⟩) hHeld ?_ ?_
                rotate_left
                · rintro w' ⟨s0, s1, s2, s3, s4, s5, s6, s7, s8, s9, s10, s11, s12, s13⟩
                  go_simp
                  with_reducible rfl
                rotate_left
                · simp only [Act.put, List.setIfInBounds_toArray, List.set_cons_zero, List.set_cons_succ, i64_w, i32_w]
                  rfl
                refine pure_ (i := 3) (N := some 63) (v := ?_) (a' := ?_) #[true, true, true, true, false, false, false, false, false, false, false, false, false, false, false, false, false, false, false, false, false, false, false, false, false, false, false, false, false, false, false] rfl rfl (any_of HT_.out (by kernel_rfl)) (fun _ _ _ h => h) (Or.inl ⟨by rfl, ?_⟩) ?_ ?_
                rotate_left
                · intro w'
                  go_simp
                  with_reducible rfl
                rotate_left
                · simp only [Act.put, List.setIfInBounds_toArray, List.set_cons_zero, List.set_cons_succ, i64_w, i32_w]
                  rfl
                refine pure_ (i := 4) (N := some 64) (v := ?_) (a' := ?_) #[true, true, true, true, true, false, false, false, false, false, false, false, false, false, false, false, false, false, false, false, false, false, false, false, false, false, false, false, false, false, false] rfl rfl (any_of HT_.out (by kernel_rfl)) (fun _ _ _ h => h) (Or.inl ⟨by rfl, ?_⟩) ?_ ?_
                rotate_left
                · intro w'
                  go_simp
                  with_reducible rfl
                rotate_left
                · simp only [Act.put, List.setIfInBounds_toArray, List.set_cons_zero, List.set_cons_succ, i64_w, i32_w]
                  rfl
                refine pure_ (i := 5) (N := some 65) (v := ?_) (a' := ?_) #[true, true, true, true, true, true, false, false, false, false, false, false, false, false, false, false, false, false, false, false, false, false, false, false, false, false, false, false, false, false, false] rfl rfl (any_of HT_.out (by kernel_rfl)) (fun _ _ _ h => h) (Or.inl ⟨by rfl, ?_⟩) ?_ ?_
                rotate_left
                · intro w'
                  go_simp
                  with_reducible rfl
                rotate_left
                · simp only [Act.put, List.setIfInBounds_toArray, List.set_cons_zero, List.set_cons_succ, i64_w, i32_w]
                  rfl
                refine pure_ (i := 6) (N := some 66) (v := ?_) (a' := ?_) #[true, true, true, true, true, true, true, false, false, false, false, false, false, false, false, false, false, false, false, false, false, false, false, false, false, false, false, false, false, false, false] rfl rfl (any_of HT_.out (by kernel_rfl)) (fun _ _ _ h => h) (Or.inl ⟨by rfl, ?_⟩) ?_ ?_
                rotate_left
                · intro w'
                  go_simp
                  with_reducible rfl
                rotate_left
                · simp only [Act.put, List.setIfInBounds_toArray, List.set_cons_zero, List.set_cons_succ, i64_w, i32_w]
                  rfl
                refine take_ (i := 7) (N := some 67) (v := ?_) (a' := ?_) #[true, true, true, true, true, true, true, true, false, false, false, false, false, false, false, false, false, false, false, false, false, false, false, false, false, false, false, false, false, false, false] rfl rfl (take_ofW HT_.out HW_.out (by kernel_rfl)) (fun _ _ _ h => h) (Or.inl ⟨by rfl, ?_⟩) hHeld ?_ ?_
                rotate_left
                · rintro w' ⟨s0, s1, s2, s3, s4, s5, s6, s7, s8, s9, s10, s11, s12, s13⟩
                  go_simp
                  with_reducible rfl
                rotate_left
                · simp only [Act.put, List.setIfInBounds_toArray, List.set_cons_zero, List.set_cons_succ, i64_w, i32_w]
                  rfl
                refine pure_ (i := 8) (N := some 68) (v := ?_) (a' := ?_) #[true, true, true, true, true, true, true, true, true, false, false, false, false, false, false, false, false, false, false, false, false, false, false, false, false, false, false, false, false, false, false] rfl rfl (any_of HT_.out (by kernel_rfl)) (fun _ _ _ h => h) (Or.inl ⟨by rfl, ?_⟩) ?_ ?_
                rotate_left
                · intro w'
                  go_simp
                  with_reducible rfl
                rotate_left
                · simp only [Act.put, List.setIfInBounds_toArray, List.set_cons_zero, List.set_cons_succ, i64_w, i32_w]
                  rfl
                refine pure_ (i := 9) (N := some 69) (v := ?_) (a' := ?_) #[true, true, true, true, true, true, true, true, true, true, false, false, false, false, false, false, false, false, false, false, false, false, false, false, false, false, false, false, false, false, false] rfl rfl (any_of HT_.out (by kernel_rfl)) (fun _ _ _ h => h) (Or.inl ⟨by rfl, ?_⟩) ?_ ?_
                rotate_left
                · intro w'
                  go_simp
                  with_reducible rfl
                rotate_left
                · simp only [Act.put, List.setIfInBounds_toArray, List.set_cons_zero, List.set_cons_succ, i64_w, i32_w]
                  rfl
                refine pure_ (i := 10) (N := some 70) (v := ?_) (a' := ?_) #[true, true, true, true, true, true, true, true, true, true, true, false, false, false, false, false, false, false, false, false, false, false, false, false, false, false, false, false, false, false, false] rfl rfl (any_of HT_.out (by kernel_rfl)) (fun _ _ _ h => h) (Or.inl ⟨by rfl, ?_⟩) ?_ ?_
                rotate_left
                · intro w'
                  go_simp
                  with_reducible rfl
                rotate_left
                · simp only [Act.put, List.setIfInBounds_toArray, List.set_cons_zero, List.set_cons_succ, i64_w, i32_w]
                  rfl
                refine pure_ (i := 14) (N := some 74) (v := ?_) (a' := ?_) #[true, true, true, true, true, true, true, true, true, true, true, false, false, false, true, false, false, false, false, false, false, false, false, false, false, false, false, false, false, false, false] rfl rfl (any_of HT_.out (by kernel_rfl)) (fun _ _ _ h => h) (Or.inl ⟨by rfl, ?_⟩) ?_ ?_
                rotate_left
                · intro w'
                  go_simp
                  with_reducible rfl
                rotate_left
                · simp only [Act.put, List.setIfInBounds_toArray, List.set_cons_zero, List.set_cons_succ, i64_w, i32_w]
                  rfl
                refine pure_ (i := 16) (N := some 76) (v := ?_) (a' := ?_) #[true, true, true, true, true, true, true, true, true, true, true, false, false, false, true, false, true, false, false, false, false, false, false, false, false, false, false, false, false, false, false] rfl rfl (any_of HT_.out (by kernel_rfl)) (fun _ _ _ h => h) (Or.inl ⟨by rfl, ?_⟩) ?_ ?_
                rotate_left
                · intro w'
                  go_simp
                  with_reducible rfl
                rotate_left
                · simp only [Act.put, List.setIfInBounds_toArray, List.set_cons_zero, List.set_cons_succ, i64_w, i32_w]
                  rfl
                refine take_ (i := 11) (N := some 71) (v := ?_) (a' := ?_) #[true, true, true, true, true, true, true, true, true, true, true, true, false, false, true, false, true, false, false, false, false, false, false, false, false, false, false, false, false, false, false] rfl rfl (take_ofW HT_.out HW_.out (by kernel_rfl)) (fun _ _ _ h => h) (Or.inl ⟨by rfl, ?_⟩) hHeld ?_ ?_
                rotate_left
                · rintro w' ⟨s0, s1, s2, s3, s4, s5, s6, s7, s8, s9, s10, s11, s12, s13⟩
                  go_simp
                  with_reducible rfl
                rotate_left
                · simp only [Act.put, List.setIfInBounds_toArray, List.set_cons_zero, List.set_cons_succ, i64_w, i32_w]
                  rfl
                refine take_ (i := 15) (N := some 75) (v := ?_) (a' := ?_) #[true, true, true, true, true, true, true, true, true, true, true, true, false, false, true, true, true, false, false, false, false, false, false, false, false, false, false, false, false, false, false] rfl rfl (take_ofW HT_.out HW_.out (by kernel_rfl)) (fun _ _ _ h => h) (Or.inl ⟨by rfl, ?_⟩) hHeld ?_ ?_
                rotate_left
                · rintro w' ⟨s0, s1, s2, s3, s4, s5, s6, s7, s8, s9, s10, s11, s12, s13⟩
                  go_simp
                  with_reducible rfl
                rotate_left
                · simp only [Act.put, List.setIfInBounds_toArray, List.set_cons_zero, List.set_cons_succ, i64_w, i32_w]
                  rfl
                refine pure_ (i := 17) (N := some 77) (v := ?_) (a' := ?_) #[true, true, true, true, true, true, true, true, true, true, true, true, false, false, true, true, true, true, false, false, false, false, false, false, false, false, false, false, false, false, false] rfl rfl (any_of HT_.out (by kernel_rfl)) (fun _ _ _ h => h) (Or.inl ⟨by rfl, ?_⟩) ?_ ?_
                rotate_left
                · intro w'
                  go_simp
                  with_reducible rfl
                rotate_left
                · simp only [Act.put, List.setIfInBounds_toArray, List.set_cons_zero, List.set_cons_succ, i64_w, i32_w]
                  rfl
                refine one_ (i := 12) (N := some 72) #[true, true, true, true, true, true, true, true, true, true, true, true, true, false, true, true, true, true, false, false, false, false, false, false, false, false, false, false, false, false, false] rfl rfl (one_of HT_.out (by kernel_rfl)) (by decide) (fun K hK => ?_)
                refine goes_ Try.func20 (by kernel_rfl) rfl #[.agg #[.int .i64 a0_0, .int .i64 a0_1, .int .i64 a0_2, .int .i64 a0_3, .int .i64 a0_4, .int .i64 a0_5, .int .i64 a0_6, .int .i64 a0_7, .int .i64 a0_8, .int .i64 a0_9, .int .i64 a0_10, .int .i64 a0_11]] (by rfl) rfl rfl (by (try simp only [List.map_toArray, List.map_cons, List.map_nil]); first | done | rfl | (simp only [List.length_drop, List.length_take]; rfl)) ?_
                with_reducible refine (carry_Ticks.calls kj6 a0_0 a0_1 a0_2 a0_3 a0_4 a0_5 a0_6 a0_7 a0_8 a0_9 a0_10 a0_11 t335 t336 _ A49.out).mono ?_
                rintro e w63 ⟨rfl, hb⟩
                refine ⟨_, rfl, ?_⟩
                have n0_ := Aside0.mk (blk_below (g := gb328) (o := .cells #[.int .i64 a0_0, .int .i64 a0_1, .int .i64 a0_2, .int .i64 a0_3, .int .i64 a0_4, .int .i64 a0_5, .int .i64 a0_6, .int .i64 a0_7, .int .i64 a0_8, .int .i64 a0_9, .int .i64 a0_10, .int .i64 a0_11] 23 (0, 0)) (by (with_reducible repeat (first | refine blk_drewN ?_ _ | refine blk_drew ?_ | refine blk_alloc ?_ _)); exact BK328.out) hb)
                have n1_ := Aside0.mk (blk_below (g := gb329) (o := .cells #[.int .i64 a1_0, .int .i64 a1_1] 25 (0, 0)) (by (with_reducible repeat (first | refine blk_drewN ?_ _ | refine blk_drew ?_ | refine blk_alloc ?_ _)); exact BK329.out) hb)
                have n2_ := Aside0.mk (blk_below (g := gb334) (o := .cells #[.int .i64 t332, .int .i64 t333] 25 (0, 0)) (by (with_reducible repeat (first | refine blk_drewN ?_ _ | refine blk_drew ?_ | refine blk_alloc ?_ _)); exact BK334.out) hb)
                have n3_ := Aside0.mk (below_step (by repeat (first | (with_reducible first | exact HB.out | apply below_alloc | apply pw_below_drewN | apply below_drew1 | refine below_set ?_ GE328.out | refine below_set ?_ GE329.out | refine below_set ?_ GE334.out) | exact HB.out)) hb)
                clear BK328
                clear BK329
                clear BK334
                clear HB
                have BK328 := n0_
                have BK329 := n1_
                have BK334 := n2_
                have HB := n3_
                clear n0_ n1_ n2_ n3_
                (try clear hb)
                (try clear hb2)
                (try clear hk)
                (try clear hi)
                refine hK.out _ _ ⟨(blk_cell BK334.out 0).trans rfl, (blk_cell BK334.out 1).trans rfl, (blk_cell BK328.out 0).trans rfl, (blk_cell BK328.out 1).trans rfl, (blk_cell BK328.out 2).trans rfl, (blk_cell BK328.out 3).trans rfl, (blk_cell BK328.out 4).trans rfl, (blk_cell BK328.out 5).trans rfl, (blk_cell BK328.out 6).trans rfl, (blk_cell BK328.out 7).trans rfl, (blk_cell BK328.out 8).trans rfl, (blk_cell BK328.out 9).trans rfl, (blk_cell BK328.out 10).trans rfl, (blk_cell BK328.out 11).trans rfl⟩ (fun hHeld => ?_)
                clear hK K
                refine norm_ (a' := ?_) ?_ ?_
                rotate_left
                · show Act.put _ (some 72) _ = _
                  simp only [Act.put, List.setIfInBounds_toArray, List.set_cons_zero, List.set_cons_succ, i64_w, i32_w]
                  rfl
                refine pure_ (i := 13) (N := some 73) (v := ?_) (a' := ?_) #[true, true, true, true, true, true, true, true, true, true, true, true, true, true, true, true, true, true, false, false, false, false, false, false, false, false, false, false, false, false, false] rfl rfl (any_of HT_.out (by kernel_rfl)) (fun _ _ _ h => h) (Or.inl ⟨by rfl, ?_⟩) ?_ ?_
                rotate_left
                · intro w'
                  go_simp
                  with_reducible rfl
                rotate_left
                · simp only [Act.put, List.setIfInBounds_toArray, List.set_cons_zero, List.set_cons_succ, i64_w, i32_w]
                  rfl
                refine pure_ (i := 18) (N := some 78) (v := ?_) (a' := ?_) #[true, true, true, true, true, true, true, true, true, true, true, true, true, true, true, true, true, true, true, false, false, false, false, false, false, false, false, false, false, false, false] rfl rfl (any_of HT_.out (by kernel_rfl)) (fun _ _ _ h => h) (Or.inl ⟨by rfl, ?_⟩) ?_ ?_
                rotate_left
                · intro w'
                  go_simp
                  with_reducible rfl
                rotate_left
                · simp only [Act.put, List.setIfInBounds_toArray, List.set_cons_zero, List.set_cons_succ, i64_w, i32_w]
                  rfl
                refine pure_ (i := 19) (N := some 79) (v := ?_) (a' := ?_) #[true, true, true, true, true, true, true, true, true, true, true, true, true, true, true, true, true, true, true, true, false, false, false, false, false, false, false, false, false, false, false] rfl rfl (any_of HT_.out (by kernel_rfl)) (fun _ _ _ h => h) (Or.inl ⟨by rfl, ?_⟩) ?_ ?_
                rotate_left
                · intro w'
                  go_simp
                  with_reducible rfl
                rotate_left
                · simp only [Act.put, List.setIfInBounds_toArray, List.set_cons_zero, List.set_cons_succ, i64_w, i32_w]
                  rfl
                refine pure_ (i := 20) (N := some 80) (v := ?_) (a' := ?_) #[true, true, true, true, true, true, true, true, true, true, true, true, true, true, true, true, true, true, true, true, true, false, false, false, false, false, false, false, false, false, false] rfl rfl (any_of HT_.out (by kernel_rfl)) (fun _ _ _ h => h) (Or.inl ⟨by rfl, ?_⟩) ?_ ?_
                rotate_left
                · intro w'
                  go_simp
                  with_reducible rfl
                rotate_left
                · simp only [Act.put, List.setIfInBounds_toArray, List.set_cons_zero, List.set_cons_succ, i64_w, i32_w]
                  rfl
                refine pure_ (i := 21) (N := some 81) (v := ?_) (a' := ?_) #[true, true, true, true, true, true, true, true, true, true, true, true, true, true, true, true, true, true, true, true, true, true, false, false, false, false, false, false, false, false, false] rfl rfl (any_of HT_.out (by kernel_rfl)) (fun _ _ _ h => h) (Or.inl ⟨by rfl, ?_⟩) ?_ ?_
                rotate_left
                · intro w'
                  go_simp
                  with_reducible rfl
                rotate_left
                · simp only [Act.put, List.setIfInBounds_toArray, List.set_cons_zero, List.set_cons_succ, i64_w, i32_w]
                  rfl
                refine pure_ (i := 23) (N := some 83) (v := ?_) (a' := ?_) #[true, true, true, true, true, true, true, true, true, true, true, true, true, true, true, true, true, true, true, true, true, true, false, true, false, false, false, false, false, false, false] rfl rfl (any_of HT_.out (by kernel_rfl)) (fun _ _ _ h => h) (Or.inl ⟨by rfl, ?_⟩) ?_ ?_
                rotate_left
                · intro w'
                  go_simp
                  with_reducible rfl
                rotate_left
                · simp only [Act.put, List.setIfInBounds_toArray, List.set_cons_zero, List.set_cons_succ, i64_w, i32_w]
                  rfl
                refine take_ (i := 22) (N := some 82) (v := ?_) (a' := ?_) #[true, true, true, true, true, true, true, true, true, true, true, true, true, true, true, true, true, true, true, true, true, true, true, true, false, false, false, false, false, false, false] rfl rfl (take_ofW HT_.out HW_.out (by kernel_rfl)) (fun _ _ _ h => h) (Or.inl ⟨by rfl, ?_⟩) hHeld ?_ ?_
                rotate_left
                · rintro w' ⟨s0, s1, s2, s3, s4, s5, s6, s7, s8, s9, s10, s11, s12, s13⟩
                  go_simp
                  with_reducible rfl
                rotate_left
                · simp only [Act.put, List.setIfInBounds_toArray, List.set_cons_zero, List.set_cons_succ, i64_w, i32_w]
                  rfl
                refine pure_ (i := 24) (N := some 84) (v := ?_) (a' := ?_) #[true, true, true, true, true, true, true, true, true, true, true, true, true, true, true, true, true, true, true, true, true, true, true, true, true, false, false, false, false, false, false] rfl rfl (any_of HT_.out (by kernel_rfl)) (fun _ _ _ h => h) (Or.inl ⟨by rfl, ?_⟩) ?_ ?_
                rotate_left
                · intro w'
                  go_simp
                  with_reducible rfl
                rotate_left
                · simp only [Act.put, List.setIfInBounds_toArray, List.set_cons_zero, List.set_cons_succ, i64_w, i32_w]
                  rfl
                refine take_ (i := 25) (N := some 85) (v := ?_) (a' := ?_) #[true, true, true, true, true, true, true, true, true, true, true, true, true, true, true, true, true, true, true, true, true, true, true, true, true, true, false, false, false, false, false] rfl rfl (take_ofW HT_.out HW_.out (by kernel_rfl)) (fun _ _ _ h => h) (Or.inl ⟨by rfl, ?_⟩) hHeld ?_ ?_
                rotate_left
                · rintro w' ⟨s0, s1, s2, s3, s4, s5, s6, s7, s8, s9, s10, s11, s12, s13⟩
                  go_simp
                  with_reducible rfl
                rotate_left
                · simp only [Act.put, List.setIfInBounds_toArray, List.set_cons_zero, List.set_cons_succ, i64_w, i32_w]
                  rfl
                refine one_ (i := 26) (N := some 86) #[true, true, true, true, true, true, true, true, true, true, true, true, true, true, true, true, true, true, true, true, true, true, true, true, true, true, true, false, false, false, false] rfl rfl (one_of HT_.out (by kernel_rfl)) (by decide) (fun K hK => ?_)
                refine goes_ Try.func20 (by kernel_rfl) rfl #[.agg #[.int .i64 a0_0, .int .i64 a0_1, .int .i64 a0_2, .int .i64 a0_3, .int .i64 a0_4, .int .i64 a0_5, .int .i64 a0_6, .int .i64 a0_7, .int .i64 a0_8, .int .i64 a0_9, .int .i64 a0_10, .int .i64 a0_11]] (by rfl) rfl rfl (by (try simp only [List.map_toArray, List.map_cons, List.map_nil]); first | done | rfl | (simp only [List.length_drop, List.length_take]; rfl)) ?_
                with_reducible refine (carry_Ticks.calls kj6 a0_0 a0_1 a0_2 a0_3 a0_4 a0_5 a0_6 a0_7 a0_8 a0_9 a0_10 a0_11 t335 t336 _ A51.out).mono ?_
                rintro e w64 ⟨rfl, hb⟩
                refine ⟨_, rfl, ?_⟩
                have n0_ := Aside0.mk (blk_below (g := gb328) (o := .cells #[.int .i64 a0_0, .int .i64 a0_1, .int .i64 a0_2, .int .i64 a0_3, .int .i64 a0_4, .int .i64 a0_5, .int .i64 a0_6, .int .i64 a0_7, .int .i64 a0_8, .int .i64 a0_9, .int .i64 a0_10, .int .i64 a0_11] 23 (0, 0)) (by (with_reducible repeat (first | refine blk_drewN ?_ _ | refine blk_drew ?_ | refine blk_alloc ?_ _)); exact BK328.out) hb)
                have n1_ := Aside0.mk (blk_below (g := gb329) (o := .cells #[.int .i64 a1_0, .int .i64 a1_1] 25 (0, 0)) (by (with_reducible repeat (first | refine blk_drewN ?_ _ | refine blk_drew ?_ | refine blk_alloc ?_ _)); exact BK329.out) hb)
                have n2_ := Aside0.mk (blk_below (g := gb334) (o := .cells #[.int .i64 t332, .int .i64 t333] 25 (0, 0)) (by (with_reducible repeat (first | refine blk_drewN ?_ _ | refine blk_drew ?_ | refine blk_alloc ?_ _)); exact BK334.out) hb)
                have n3_ := Aside0.mk (below_step (by repeat (first | (with_reducible first | exact HB.out | apply below_alloc | apply pw_below_drewN | apply below_drew1 | refine below_set ?_ GE328.out | refine below_set ?_ GE329.out | refine below_set ?_ GE334.out) | exact HB.out)) hb)
                clear BK328
                clear BK329
                clear BK334
                clear HB
                have BK328 := n0_
                have BK329 := n1_
                have BK334 := n2_
                have HB := n3_
                clear n0_ n1_ n2_ n3_
                (try clear hb)
                (try clear hb2)
                (try clear hk)
                (try clear hi)
                refine hK.out _ _ ⟨(blk_cell BK334.out 0).trans rfl, (blk_cell BK334.out 1).trans rfl, (blk_cell BK328.out 0).trans rfl, (blk_cell BK328.out 1).trans rfl, (blk_cell BK328.out 2).trans rfl, (blk_cell BK328.out 3).trans rfl, (blk_cell BK328.out 4).trans rfl, (blk_cell BK328.out 5).trans rfl, (blk_cell BK328.out 6).trans rfl, (blk_cell BK328.out 7).trans rfl, (blk_cell BK328.out 8).trans rfl, (blk_cell BK328.out 9).trans rfl, (blk_cell BK328.out 10).trans rfl, (blk_cell BK328.out 11).trans rfl⟩ (fun hHeld => ?_)
                clear hK K
                refine norm_ (a' := ?_) ?_ ?_
                rotate_left
                · show Act.put _ (some 86) _ = _
                  simp only [Act.put, List.setIfInBounds_toArray, List.set_cons_zero, List.set_cons_succ, i64_w, i32_w]
                  rfl
                refine pure_ (i := 27) (N := some 87) (v := ?_) (a' := ?_) #[true, true, true, true, true, true, true, true, true, true, true, true, true, true, true, true, true, true, true, true, true, true, true, true, true, true, true, true, false, false, false] rfl rfl (any_of HT_.out (by kernel_rfl)) (fun _ _ _ h => h) (Or.inl ⟨by rfl, ?_⟩) ?_ ?_
                rotate_left
                · intro w'
                  go_simp
                  with_reducible rfl
                rotate_left
                · simp only [Act.put, List.setIfInBounds_toArray, List.set_cons_zero, List.set_cons_succ, i64_w, i32_w]
                  rfl
                refine pure_ (i := 28) (N := some 88) (v := ?_) (a' := ?_) #[true, true, true, true, true, true, true, true, true, true, true, true, true, true, true, true, true, true, true, true, true, true, true, true, true, true, true, true, true, false, false] rfl rfl (any_of HT_.out (by kernel_rfl)) (fun _ _ _ h => h) (Or.inl ⟨by rfl, ?_⟩) ?_ ?_
                rotate_left
                · intro w'
                  go_simp
                  with_reducible rfl
                rotate_left
                · simp only [Act.put, List.setIfInBounds_toArray, List.set_cons_zero, List.set_cons_succ, i64_w, i32_w]
                  rfl
                refine pure_ (i := 29) (N := some 89) (v := ?_) (a' := ?_) #[true, true, true, true, true, true, true, true, true, true, true, true, true, true, true, true, true, true, true, true, true, true, true, true, true, true, true, true, true, true, false] rfl rfl (any_of HT_.out (by kernel_rfl)) (fun _ _ _ h => h) (Or.inl ⟨by rfl, ?_⟩) ?_ ?_
                rotate_left
                · intro w'
                  go_simp
                  with_reducible rfl
                rotate_left
                · simp only [Act.put, List.setIfInBounds_toArray, List.set_cons_zero, List.set_cons_succ, i64_w, i32_w]
                  rfl
                refine pure_ (i := 30) (N := some 8) (v := ?_) (a' := ?_) #[true, true, true, true, true, true, true, true, true, true, true, true, true, true, true, true, true, true, true, true, true, true, true, true, true, true, true, true, true, true, true] rfl rfl (any_of HT_.out (by kernel_rfl)) (fun _ _ _ h => h) (Or.inl ⟨by rfl, ?_⟩) ?_ ?_
                rotate_left
                · intro w'
                  go_simp
                  with_reducible rfl
                rotate_left
                · simp only [Act.put, List.setIfInBounds_toArray, List.set_cons_zero, List.set_cons_succ, i64_w, i32_w]
                  rfl
                refine done_ (done_of HT_.out (by kernel_rfl)) ?_
                try go_wp2
                go_ret
                exact ⟨by first | rfl | (simp [errW_none, errW_some] <;> rfl) | (simp [*, errW_none, errW_some] <;> rfl), by repeat (first | (with_reducible first | exact HB.out | apply below_alloc | apply pw_below_drewN | apply below_drew1 | refine below_set ?_ GE328.out | refine below_set ?_ GE329.out | refine below_set ?_ GE334.out) | exact HB.out)⟩
              · rw [if_neg c50] at H
                have c50b0 : decide (t335 ≤ (wrap64 (a0_3 + a3))) = false := decide_eq_false c50
                clear c50
                exact absurd ((Option.some.inj H).trans hT.out) (by decide)
            · rw [if_neg c48] at H
              have c48b0 : decide ((wrap64 (a2 + a0_3)) ≤ t333) = false := decide_eq_false c48
              clear c48
              exact absurd ((Option.some.inj H).trans hT.out) (by decide)
          · rw [if_neg c47] at H
            have c47b0 : decide (t332 ≤ (wrap64 (a2 + a0_3))) = false := decide_eq_false c47
            clear c47
            exact absurd ((Option.some.inj H).trans hT.out) (by decide)
  · replace c6 := Bool.eq_false_iff.mpr c6
    subst c6
    have H1 : (some false) = some r := by rw [if_neg (show ¬ (false = true) by decide)] at H; exact H
    clear H
    have H := H1
    clear H1
    exact absurd ((Option.some.inj H).trans hT.out) (by decide)

end Go.Proofs.Ytigpigfoahlfjaa.Q
