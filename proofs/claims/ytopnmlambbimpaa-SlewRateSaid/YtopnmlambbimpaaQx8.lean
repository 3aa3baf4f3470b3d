/- The calls of these Go functions answer what the Lean functions beside them answer; written by a program (wip/pr2.py, out of the print of the loaded program); under no condition but those that stand in the theorems. -/
import Derived.Test.YtopnmlambbimpaaQx0
import Derived.Test.YtopnmlambbimpaaQx3
import Derived.Test.YtopnmlambbimpaaQx7
namespace Go.Proofs.Ytopnmlambbimpaa.Q
open Go.RowKit Go.Proofs.YtopnmlambbimpaaW.PrintWords Go.Proofs.YtopnmlambbimpaaW.PrintLast Go.Proofs.YtopnmlambbimpaaW.PrintMore
attribute [local go_sem] max2_int min2_int max_two min_two max_three min_three max_four min_four   -- for this text's walks alone
set_option linter.unusedVariables false
set_option linter.unusedSimpArgs false

/-! ### clepsydralaw12_SlewRate: function 4 -/
def clepsydralaw12_SlewRate.j0 : Nat → Int → Int → Bool → Int → Int → Int → Int → Int → Int → Int → Int → Int → Int → Int → Int → Int → Bool → Option (Bool)
  | 0, _, _, _, _, _, _, _, _, _, _, _, _, _, _, _, _, _ => none
  | k + 1, x2, x3, x23, x177000, x177001, x177002, x177003, x177004, x177005, x177006, x177007, x177008, x177009, x177010, x177011, x178000, x178001 => if x23 = true then (some true) else (if x178000 > 288230376151711744 then (some true) else (if x178000 < (-288230376151711744) then (some true) else (if x2 > 288230376151711744 then (some true) else (if x2 < (-288230376151711744) then (some true) else (if x3 > 288230376151711744 then (some true) else (if x3 < (-288230376151711744) then (some true) else ((slew_Clock_Step.f k x178000 x178001 x177000 x177001 x177002 x177003 x177004 x177005 x177006 x177007 x177008 x177009 x177010 x177011 x2 x3 false).bind fun bt180 => (if (wrap64 ((wrap64 (bt180.1 - x178000)) - x2)) > x177008 then (some false) else (if (wrap64 ((wrap64 (bt180.1 - x178000)) - x2)) < (wrap64 (-x177008)) then (some false) else (if (wrap64 (x178000 + x2)) ≤ x3 then (if bt180.1 ≥ (wrap64 (x178000 + x2)) then (if bt180.1 ≤ x3 then (some true) else (if (wrap64 (x178000 + x2)) ≥ x3 then (if bt180.1 ≤ (wrap64 (x178000 + x2)) then (some (decide (bt180.1 ≥ x3))) else (some false)) else (some false))) else (if (wrap64 (x178000 + x2)) ≥ x3 then (if bt180.1 ≤ (wrap64 (x178000 + x2)) then (some (decide (bt180.1 ≥ x3))) else (some false)) else (some false))) else (if (wrap64 (x178000 + x2)) ≥ x3 then (if bt180.1 ≤ (wrap64 (x178000 + x2)) then (some (decide (bt180.1 ≥ x3))) else (some false)) else (some false))))))))))))
def clepsydralaw12_SlewRate.f (k : Nat) (a0_0 : Int) (a0_1 : Int) (a0_2 : Int) (a0_3 : Int) (a0_4 : Int) (a0_5 : Int) (a0_6 : Int) (a0_7 : Int) (a0_8 : Int) (a0_9 : Int) (a0_10 : Int) (a0_11 : Int) (a1_0 : Int) (a1_1 : Bool) (a2 : Int) (a3 : Int) : Option (Bool) := (clepsydralaw12_alive.f k).bind fun t178 => (if t178 = true then ((limit_Check.f k a0_0 a0_1 a0_2 a0_3 a0_4 a0_5 a0_6 a0_7 a0_8 a0_9 a0_10 a0_11).bind fun t179 => (if t179 = 0 then (clepsydralaw12_SlewRate.j0 k a2 a3 (!a1_1) a0_0 a0_1 a0_2 a0_3 a0_4 a0_5 a0_6 a0_7 a0_8 a0_9 a0_10 a0_11 a1_0 a1_1) else (clepsydralaw12_SlewRate.j0 k a2 a3 true a0_0 a0_1 a0_2 a0_3 a0_4 a0_5 a0_6 a0_7 a0_8 a0_9 a0_10 a0_11 a1_0 a1_1))) else (some false))
theorem clepsydralaw12_SlewRate.mono_l : ∀ k, (∀ y0 y1 y2 y3 y4 y5 y6 y7 y8 y9 y10 y11 y12 y13 y14 y15 y16, LeO (clepsydralaw12_SlewRate.j0 k y0 y1 y2 y3 y4 y5 y6 y7 y8 y9 y10 y11 y12 y13 y14 y15 y16) (clepsydralaw12_SlewRate.j0 (k + 1) y0 y1 y2 y3 y4 y5 y6 y7 y8 y9 y10 y11 y12 y13 y14 y15 y16))
  | 0 => fun _ _ _ _ _ _ _ _ _ _ _ _ _ _ _ _ _ r h => by simp [clepsydralaw12_SlewRate.j0] at h
  | k + 1 => by
    have ih0 := clepsydralaw12_SlewRate.mono_l k
    · intro y0 y1 y2 y3 y4 y5 y6 y7 y8 y9 y10 y11 y12 y13 y14 y15 y16
      unfold clepsydralaw12_SlewRate.j0
      repeat' first
      | (with_reducible exact ih0 _ _ _ _ _ _ _ _ _ _ _ _ _ _ _ _ _)
      | (with_reducible exact clepsydralaw12_alive.mono _)
      | (with_reducible exact limit_Check.mono _ _ _ _ _ _ _ _ _ _ _ _ _)
      | (with_reducible exact slew_Clock_Step.mono _ _ _ _ _ _ _ _ _ _ _ _ _ _ _ _ _ _)
      | (with_reducible exact LeO.refl _)
      | (with_reducible exact LeO.none _)
      | (with_reducible refine LeO.ite ?_ ?_)
      | (with_reducible refine LeO.bind ?_ (fun _ => ?_))
      | exact ih0 _ _ _ _ _ _ _ _ _ _ _ _ _ _ _ _ _
      | exact clepsydralaw12_alive.mono _
      | exact limit_Check.mono _ _ _ _ _ _ _ _ _ _ _ _ _
      | exact slew_Clock_Step.mono _ _ _ _ _ _ _ _ _ _ _ _ _ _ _ _ _ _
      | exact LeO.none _
      | refine LeO.ite ?_ ?_
      | refine LeO.bind ?_ (fun _ => ?_)
theorem clepsydralaw12_SlewRate.mono : ∀ a0 a1 a2 a3 a4 a5 a6 a7 a8 a9 a10 a11 a12 a13 a14 a15 k, LeO (clepsydralaw12_SlewRate.f k a0 a1 a2 a3 a4 a5 a6 a7 a8 a9 a10 a11 a12 a13 a14 a15) (clepsydralaw12_SlewRate.f (k + 1) a0 a1 a2 a3 a4 a5 a6 a7 a8 a9 a10 a11 a12 a13 a14 a15) := by
  intro a0 a1 a2 a3 a4 a5 a6 a7 a8 a9 a10 a11 a12 a13 a14 a15 k
  have ih0 := clepsydralaw12_SlewRate.mono_l k
  unfold clepsydralaw12_SlewRate.f
  repeat' first
      | (with_reducible exact ih0 _ _ _ _ _ _ _ _ _ _ _ _ _ _ _ _ _)
      | (with_reducible exact clepsydralaw12_alive.mono _)
      | (with_reducible exact limit_Check.mono _ _ _ _ _ _ _ _ _ _ _ _ _)
      | (with_reducible exact slew_Clock_Step.mono _ _ _ _ _ _ _ _ _ _ _ _ _ _ _ _ _ _)
      | (with_reducible exact LeO.refl _)
      | (with_reducible exact LeO.none _)
      | (with_reducible refine LeO.ite ?_ ?_)
      | (with_reducible refine LeO.bind ?_ (fun _ => ?_))
      | exact ih0 _ _ _ _ _ _ _ _ _ _ _ _ _ _ _ _ _
      | exact clepsydralaw12_alive.mono _
      | exact limit_Check.mono _ _ _ _ _ _ _ _ _ _ _ _ _
      | exact slew_Clock_Step.mono _ _ _ _ _ _ _ _ _ _ _ _ _ _ _ _ _ _
      | exact LeO.none _
      | refine LeO.ite ?_ ?_
      | refine LeO.bind ?_ (fun _ => ?_)
theorem clepsydralaw12_SlewRate.ix34_0 (x0 x1 x2 : Value) (w : World) : (Instr.index 34 (.agg #[x0, x1, x2]) (.int .i64 0)).run Try.prog w = .ok x0 w := by kernel_rfl
attribute [local go_sem] clepsydralaw12_SlewRate.ix34_0
theorem clepsydralaw12_SlewRate.ix34_1 (x0 x1 x2 : Value) (w : World) : (Instr.index 34 (.agg #[x0, x1, x2]) (.int .i64 1)).run Try.prog w = .ok x1 w := by kernel_rfl
attribute [local go_sem] clepsydralaw12_SlewRate.ix34_1
theorem clepsydralaw12_SlewRate.ix34_2 (x0 x1 x2 : Value) (w : World) : (Instr.index 34 (.agg #[x0, x1, x2]) (.int .i64 2)).run Try.prog w = .ok x2 w := by kernel_rfl
attribute [local go_sem] clepsydralaw12_SlewRate.ix34_2
set_option maxHeartbeats 8000000 in
set_option maxRecDepth 100000 in
theorem clepsydralaw12_SlewRate.calls (k : Nat) (a0_0 : Int) (a0_1 : Int) (a0_2 : Int) (a0_3 : Int) (a0_4 : Int) (a0_5 : Int) (a0_6 : Int) (a0_7 : Int) (a0_8 : Int) (a0_9 : Int) (a0_10 : Int) (a0_11 : Int) (a1_0 : Int) (a1_1 : Bool) (a2 : Int) (a3 : Int) (r : Bool) (w : World) (hT : Aside0 (r = true)) (h : clepsydralaw12_SlewRate.f k a0_0 a0_1 a0_2 a0_3 a0_4 a0_5 a0_6 a0_7 a0_8 a0_9 a0_10 a0_11 a1_0 a1_1 a2 a3 = some r) :
    Calls Try.prog 4 #[.agg #[.int .i64 a0_0, .int .i64 a0_1, .int .i64 a0_2, .int .i64 a0_3, .int .i64 a0_4, .int .i64 a0_5, .int .i64 a0_6, .int .i64 a0_7, .int .i64 a0_8, .int .i64 a0_9, .int .i64 a0_10, .int .i64 a0_11], .agg #[.int .i64 a1_0, .bool a1_1], .int .i64 a2, .int .i64 a3] w fun e w' => e = .returned (.bool r) ∧ Below w.heap.size w w' := by
  have hu23 := Try.underlying23
  have hu25 := Try.underlying25
  have hu34 := Try.underlying34
  have HB := Aside0.mk (Below.refl w.heap.size w)
  have H : ((clepsydralaw12_alive.f k).bind fun t178 => (if t178 = true then ((limit_Check.f k a0_0 a0_1 a0_2 a0_3 a0_4 a0_5 a0_6 a0_7 a0_8 a0_9 a0_10 a0_11).bind fun t179 => (if t179 = 0 then (clepsydralaw12_SlewRate.j0 k a2 a3 (!a1_1) a0_0 a0_1 a0_2 a0_3 a0_4 a0_5 a0_6 a0_7 a0_8 a0_9 a0_10 a0_11 a1_0 a1_1) else (clepsydralaw12_SlewRate.j0 k a2 a3 true a0_0 a0_1 a0_2 a0_3 a0_4 a0_5 a0_6 a0_7 a0_8 a0_9 a0_10 a0_11 a1_0 a1_1))) else (some false))) = some r := h
  clear h
  replace H := Option.bind_eq_some_iff.mp H
  obtain ⟨t178, A50, H⟩ := H
  replace H : (if t178 = true then ((limit_Check.f k a0_0 a0_1 a0_2 a0_3 a0_4 a0_5 a0_6 a0_7 a0_8 a0_9 a0_10 a0_11).bind fun t179 => (if t179 = 0 then (clepsydralaw12_SlewRate.j0 k a2 a3 (!a1_1) a0_0 a0_1 a0_2 a0_3 a0_4 a0_5 a0_6 a0_7 a0_8 a0_9 a0_10 a0_11 a1_0 a1_1) else (clepsydralaw12_SlewRate.j0 k a2 a3 true a0_0 a0_1 a0_2 a0_3 a0_4 a0_5 a0_6 a0_7 a0_8 a0_9 a0_10 a0_11 a1_0 a1_1))) else (some false)) = some r := H
  have A5 := Aside0.mk A50
  clear A50
  by_cases c6 : t178 = true
  · subst c6
    have H1 : ((limit_Check.f k a0_0 a0_1 a0_2 a0_3 a0_4 a0_5 a0_6 a0_7 a0_8 a0_9 a0_10 a0_11).bind fun t179 => (if t179 = 0 then (clepsydralaw12_SlewRate.j0 k a2 a3 (!a1_1) a0_0 a0_1 a0_2 a0_3 a0_4 a0_5 a0_6 a0_7 a0_8 a0_9 a0_10 a0_11 a1_0 a1_1) else (clepsydralaw12_SlewRate.j0 k a2 a3 true a0_0 a0_1 a0_2 a0_3 a0_4 a0_5 a0_6 a0_7 a0_8 a0_9 a0_10 a0_11 a1_0 a1_1))) = some r := by rw [if_pos rfl] at H; exact H
    clear H
    have H := H1
    clear H1
    have HC7 := Aside0.mk H
    clear H
    go_enter Try.func4, Try.ntmps4
    go_upto_region 3 with (first | ((with_reducible refine gate_dst (N := 4) rfl ?_); refine box_event ?hg (N := 4) ?hd (cs := #[.int .i64 a0_0, .int .i64 a0_1, .int .i64 a0_2, .int .i64 a0_3, .int .i64 a0_4, .int .i64 a0_5, .int .i64 a0_6, .int .i64 a0_7, .int .i64 a0_8, .int .i64 a0_9, .int .i64 a0_10, .int .i64 a0_11]) (t := 23) ?hr ?_; (case hd => rfl); (case hg => rfl); (case hr => first | (go_simp; done) | (go_simp; rfl)); intro gb176 hg w8 hbox hb; have n0_ := Aside0.mk (below_step (by repeat (first | (with_reducible first | exact HB.out | apply below_alloc | apply pw_below_drewN | apply below_drew1) | exact HB.out)) hb); have n1_ := Aside0.mk (hbox); have n2_ := Aside0.mk ((by rw [hg]; exact (below_size (by repeat (first | (with_reducible first | exact HB.out | apply below_alloc | apply pw_below_drewN | apply below_drew1) | exact HB.out))) : w.heap.size ≤ gb176)); have n3_ := Aside0.mk ((by rw [hg]; exact (below_size (by repeat (first | (with_reducible first | exact HB.out | apply below_alloc | apply pw_below_drewN | apply below_drew1) | exact HB.out))) : w.heap.size ≤ gb176)); clear HB; have HB := n0_; have BK176 := n1_; have GW176 := n2_; have GE176 := n3_; clear n0_ n1_ n2_ n3_; clear hb hbox hg) | ((with_reducible refine gate_dst (N := 5) rfl ?_); refine box_event ?hg (N := 5) ?hd (cs := #[.int .i64 a1_0, .bool a1_1]) (t := 25) ?hr ?_; (case hd => rfl); (case hg => rfl); (case hr => first | (go_simp; done) | (go_simp; rfl)); intro gb177 hg w9 hbox hb; have n0_ := Aside0.mk (blk_below (g := gb176) (o := .cells #[.int .i64 a0_0, .int .i64 a0_1, .int .i64 a0_2, .int .i64 a0_3, .int .i64 a0_4, .int .i64 a0_5, .int .i64 a0_6, .int .i64 a0_7, .int .i64 a0_8, .int .i64 a0_9, .int .i64 a0_10, .int .i64 a0_11] 23 (0, 0)) (by (with_reducible repeat (first | refine blk_drewN ?_ _ | refine blk_drew ?_ | refine blk_alloc ?_ _)); exact BK176.out) hb); have n1_ := Aside0.mk (below_step (by repeat (first | (with_reducible first | exact HB.out | apply below_alloc | apply pw_below_drewN | apply below_drew1 | refine below_set ?_ GE176.out) | exact HB.out)) hb); have n2_ := Aside0.mk (hbox); have n3_ := Aside0.mk ((by rw [hg]; exact (below_size (by repeat (first | (with_reducible first | exact HB.out | apply below_alloc | apply pw_below_drewN | apply below_drew1 | refine below_set ?_ GE176.out) | exact HB.out))) : w.heap.size ≤ gb177)); have n4_ := Aside0.mk ((by rw [hg]; exact (below_size (by repeat (first | (with_reducible first | exact HB.out | apply below_alloc | apply pw_below_drewN | apply below_drew1 | refine below_set ?_ GE176.out) | exact HB.out))) : w.heap.size ≤ gb177)); have n5_ := Aside0.mk ((by rw [hg]; exact Nat.ne_of_lt (blk_lt (g := gb176) (o := .cells #[.int .i64 a0_0, .int .i64 a0_1, .int .i64 a0_2, .int .i64 a0_3, .int .i64 a0_4, .int .i64 a0_5, .int .i64 a0_6, .int .i64 a0_7, .int .i64 a0_8, .int .i64 a0_9, .int .i64 a0_10, .int .i64 a0_11] 23 (0, 0)) (by (with_reducible repeat (first | refine blk_drewN ?_ _ | refine blk_drew ?_ | refine blk_alloc ?_ _)); exact BK176.out)) : gb176 ≠ gb177)); have n6_ := Aside0.mk ((by rw [hg]; exact Nat.ne_of_gt (blk_lt (g := gb176) (o := .cells #[.int .i64 a0_0, .int .i64 a0_1, .int .i64 a0_2, .int .i64 a0_3, .int .i64 a0_4, .int .i64 a0_5, .int .i64 a0_6, .int .i64 a0_7, .int .i64 a0_8, .int .i64 a0_9, .int .i64 a0_10, .int .i64 a0_11] 23 (0, 0)) (by (with_reducible repeat (first | refine blk_drewN ?_ _ | refine blk_drew ?_ | refine blk_alloc ?_ _)); exact BK176.out)) : gb177 ≠ gb176)); clear BK176; clear HB; have BK176 := n0_; have HB := n1_; have BK177 := n2_; have GW177 := n3_; have GE177 := n4_; have NB176_177 := n5_; have NB177_176 := n6_; clear n0_ n1_ n2_ n3_ n4_ n5_ n6_; clear hb hbox hg) | ((with_reducible refine gate_callee (f := 12) rfl ?_); refine goesL_ (some 14) rfl rfl Try.func12 (by kernel_rfl) rfl #[] rfl (by (try simp only [List.map_toArray, List.map_cons, List.map_nil]); first | done | rfl | (simp only [List.length_drop, List.length_take]; rfl)) ?_; (with_reducible refine (clepsydralaw12_alive.calls k  true _ A5.out).mono ?_); rintro e w10 ⟨rfl, hb⟩; refine ⟨_, rfl, ?_⟩; have n0_ := Aside0.mk (blk_below (g := gb176) (o := .cells #[.int .i64 a0_0, .int .i64 a0_1, .int .i64 a0_2, .int .i64 a0_3, .int .i64 a0_4, .int .i64 a0_5, .int .i64 a0_6, .int .i64 a0_7, .int .i64 a0_8, .int .i64 a0_9, .int .i64 a0_10, .int .i64 a0_11] 23 (0, 0)) (by (with_reducible repeat (first | refine blk_drewN ?_ _ | refine blk_drew ?_ | refine blk_alloc ?_ _)); exact BK176.out) hb); have n1_ := Aside0.mk (blk_below (g := gb177) (o := .cells #[.int .i64 a1_0, .bool a1_1] 25 (0, 0)) (by (with_reducible repeat (first | refine blk_drewN ?_ _ | refine blk_drew ?_ | refine blk_alloc ?_ _)); exact BK177.out) hb); have n2_ := Aside0.mk (below_step (by repeat (first | (with_reducible first | exact HB.out | apply below_alloc | apply pw_below_drewN | apply below_drew1 | refine below_set ?_ GE176.out | refine below_set ?_ GE177.out) | exact HB.out)) hb); clear BK176; clear BK177; clear HB; have BK176 := n0_; have BK177 := n1_; have HB := n2_; clear n0_ n1_ n2_; (try clear hb); (try clear hb2); (try clear hk); (try clear hi)))
    (try simp only [Act.put, List.setIfInBounds_toArray, List.set_cons_zero, List.set_cons_succ])
    go_cut [23] (fun v23 wc => ∃ (kq : Nat) (x23_6 : Bool), v23 = .bool x23_6 ∧ Aside0 (clepsydralaw12_SlewRate.j0 kq a2 a3 x23_6 a0_0 a0_1 a0_2 a0_3 a0_4 a0_5 a0_6 a0_7 a0_8 a0_9 a0_10 a0_11 a1_0 a1_1 = some r) ∧ Aside0 (kq ≤ k) ∧ Aside0 (wc.heap[gb176]? = some (.cells #[.int .i64 a0_0, .int .i64 a0_1, .int .i64 a0_2, .int .i64 a0_3, .int .i64 a0_4, .int .i64 a0_5, .int .i64 a0_6, .int .i64 a0_7, .int .i64 a0_8, .int .i64 a0_9, .int .i64 a0_10, .int .i64 a0_11] 23 (0, 0))) ∧ Aside0 (wc.heap[gb177]? = some (.cells #[.int .i64 a1_0, .bool a1_1] 25 (0, 0))) ∧ Aside0 (Below w.heap.size w wc))
    case first =>
      have H := HC7.out
      clear HC7
      replace H := Option.bind_eq_some_iff.mp H
      obtain ⟨t179, A110, H⟩ := H
      replace H : (if t179 = 0 then (clepsydralaw12_SlewRate.j0 k a2 a3 (!a1_1) a0_0 a0_1 a0_2 a0_3 a0_4 a0_5 a0_6 a0_7 a0_8 a0_9 a0_10 a0_11 a1_0 a1_1) else (clepsydralaw12_SlewRate.j0 k a2 a3 true a0_0 a0_1 a0_2 a0_3 a0_4 a0_5 a0_6 a0_7 a0_8 a0_9 a0_10 a0_11 a1_0 a1_1)) = some r := H
      have A11 := Aside0.mk A110
      clear A110
      by_cases c12 : t179 = 0
      · rw [if_pos c12] at H
        have c12b0 : (t179 == 0) = true := beq_iff_eq.mpr c12
        have c12b1 : (t179 != 0) = false := bne_eq_false_iff_eq.mpr c12
        clear c12
        (first | rw [c12b0] | (simp only [i64_w, i32_w]; rw [c12b0]) | skip)
        have H' := Aside0.mk H
        clear H
        have hnb13 := NB176_177.out
        have hnc13 := NB177_176.out
        have hcz14_0 : w10.cell? ⟨gb176, 0, none⟩ = some (.int .i64 a0_0) := (blk_cell BK176.out 0).trans rfl
        have hcz14_1 : w10.cell? ⟨gb176, 1, none⟩ = some (.int .i64 a0_1) := (blk_cell BK176.out 1).trans rfl
        have hcz14_2 : w10.cell? ⟨gb176, 2, none⟩ = some (.int .i64 a0_2) := (blk_cell BK176.out 2).trans rfl
        have hcz14_3 : w10.cell? ⟨gb176, 3, none⟩ = some (.int .i64 a0_3) := (blk_cell BK176.out 3).trans rfl
        have hcz14_4 : w10.cell? ⟨gb176, 4, none⟩ = some (.int .i64 a0_4) := (blk_cell BK176.out 4).trans rfl
        have hcz14_5 : w10.cell? ⟨gb176, 5, none⟩ = some (.int .i64 a0_5) := (blk_cell BK176.out 5).trans rfl
        have hcz14_6 : w10.cell? ⟨gb176, 6, none⟩ = some (.int .i64 a0_6) := (blk_cell BK176.out 6).trans rfl
        have hcz14_7 : w10.cell? ⟨gb176, 7, none⟩ = some (.int .i64 a0_7) := (blk_cell BK176.out 7).trans rfl
        have hcz14_8 : w10.cell? ⟨gb176, 8, none⟩ = some (.int .i64 a0_8) := (blk_cell BK176.out 8).trans rfl
        have hcz14_9 : w10.cell? ⟨gb176, 9, none⟩ = some (.int .i64 a0_9) := (blk_cell BK176.out 9).trans rfl
        have hcz14_10 : w10.cell? ⟨gb176, 10, none⟩ = some (.int .i64 a0_10) := (blk_cell BK176.out 10).trans rfl
        have hcz14_11 : w10.cell? ⟨gb176, 11, none⟩ = some (.int .i64 a0_11) := (blk_cell BK176.out 11).trans rfl
        have hfz14_0 := blk_frozen BK176.out 0
        have hfz14_1 := blk_frozen BK176.out 1
        have hfz14_2 := blk_frozen BK176.out 2
        have hfz14_3 := blk_frozen BK176.out 3
        have hfz14_4 := blk_frozen BK176.out 4
        have hfz14_5 := blk_frozen BK176.out 5
        have hfz14_6 := blk_frozen BK176.out 6
        have hfz14_7 := blk_frozen BK176.out 7
        have hfz14_8 := blk_frozen BK176.out 8
        have hfz14_9 := blk_frozen BK176.out 9
        have hfz14_10 := blk_frozen BK176.out 10
        have hfz14_11 := blk_frozen BK176.out 11
        go_wp2_with (first | ((with_reducible refine gate_callee (f := 18) rfl ?_); refine goesL_ (some 17) rfl rfl Try.func18 (by kernel_rfl) rfl #[.agg #[.int .i64 a0_0, .int .i64 a0_1, .int .i64 a0_2, .int .i64 a0_3, .int .i64 a0_4, .int .i64 a0_5, .int .i64 a0_6, .int .i64 a0_7, .int .i64 a0_8, .int .i64 a0_9, .int .i64 a0_10, .int .i64 a0_11]] rfl (by (try simp only [List.map_toArray, List.map_cons, List.map_nil]); first | done | rfl | (simp only [List.length_drop, List.length_take]; rfl)) ?_; (with_reducible refine (limit_Check.calls k a0_0 a0_1 a0_2 a0_3 a0_4 a0_5 a0_6 a0_7 a0_8 a0_9 a0_10 a0_11 t179 _ A11.out).mono ?_); rintro e w15 ⟨rfl, hb⟩; refine ⟨_, rfl, ?_⟩; have n0_ := Aside0.mk (blk_below (g := gb176) (o := .cells #[.int .i64 a0_0, .int .i64 a0_1, .int .i64 a0_2, .int .i64 a0_3, .int .i64 a0_4, .int .i64 a0_5, .int .i64 a0_6, .int .i64 a0_7, .int .i64 a0_8, .int .i64 a0_9, .int .i64 a0_10, .int .i64 a0_11] 23 (0, 0)) (by (with_reducible repeat (first | refine blk_drewN ?_ _ | refine blk_drew ?_ | refine blk_alloc ?_ _)); exact BK176.out) hb); have n1_ := Aside0.mk (blk_below (g := gb177) (o := .cells #[.int .i64 a1_0, .bool a1_1] 25 (0, 0)) (by (with_reducible repeat (first | refine blk_drewN ?_ _ | refine blk_drew ?_ | refine blk_alloc ?_ _)); exact BK177.out) hb); have n2_ := Aside0.mk (below_step (by repeat (first | (with_reducible first | exact HB.out | apply below_alloc | apply pw_below_drewN | apply below_drew1 | refine below_set ?_ GE176.out | refine below_set ?_ GE177.out) | exact HB.out)) hb); clear BK176; clear BK177; clear HB; have BK176 := n0_; have BK177 := n1_; have HB := n2_; clear n0_ n1_ n2_; (try clear hb); (try clear hb2); (try clear hk); (try clear hi); have hcz16_0 : w15.cell? ⟨gb177, 0, none⟩ = some (.int .i64 a1_0) := (blk_cell BK177.out 0).trans rfl; have hcz16_1 : w15.cell? ⟨gb177, 1, none⟩ = some (.bool a1_1) := (blk_cell BK177.out 1).trans rfl; have hfz16_0 := blk_frozen BK177.out 0; have hfz16_1 := blk_frozen BK177.out 1))
        go_meet
        case rel => exact ⟨_, (!a1_1), (by first | rfl | (simp; done) | (simp [*]; done) | (simp [Int.tdiv_eq_ediv_of_nonneg]; done) | (simp [Go.RowKit.wrap64]; done) | (simp [*, Go.RowKit.wrap64]; done)), H', ⟨by first | omega | exact Nat.le_refl _⟩, ⟨by (with_reducible repeat (first | refine blk_drewN ?_ _ | refine blk_drew ?_ | refine blk_alloc ?_ _)); exact BK176.out⟩, ⟨by (with_reducible repeat (first | refine blk_drewN ?_ _ | refine blk_drew ?_ | refine blk_alloc ?_ _)); exact BK177.out⟩, ⟨by repeat (first | (with_reducible first | exact HB.out | apply below_alloc | apply pw_below_drewN | apply below_drew1 | refine below_set ?_ GE176.out | refine below_set ?_ GE177.out) | exact HB.out)⟩⟩
      · rw [if_neg c12] at H
        have c12b0 : (t179 == 0) = false := beq_eq_false_iff_ne.mpr c12
        have c12b1 : (t179 != 0) = true := bne_iff_ne.mpr c12
        (first | rw [c12b0] | (simp only [i64_w, i32_w]; rw [c12b0]) | skip)
        have H' := Aside0.mk H
        clear H
        have hnb17 := NB176_177.out
        have hnc17 := NB177_176.out
        have hcz18_0 : w10.cell? ⟨gb176, 0, none⟩ = some (.int .i64 a0_0) := (blk_cell BK176.out 0).trans rfl
        have hcz18_1 : w10.cell? ⟨gb176, 1, none⟩ = some (.int .i64 a0_1) := (blk_cell BK176.out 1).trans rfl
        have hcz18_2 : w10.cell? ⟨gb176, 2, none⟩ = some (.int .i64 a0_2) := (blk_cell BK176.out 2).trans rfl
        have hcz18_3 : w10.cell? ⟨gb176, 3, none⟩ = some (.int .i64 a0_3) := (blk_cell BK176.out 3).trans rfl
        have hcz18_4 : w10.cell? ⟨gb176, 4, none⟩ = some (.int .i64 a0_4) := (blk_cell BK176.out 4).trans rfl
        have hcz18_5 : w10.cell? ⟨gb176, 5, none⟩ = some (.int .i64 a0_5) := (blk_cell BK176.out 5).trans rfl
        have hcz18_6 : w10.cell? ⟨gb176, 6, none⟩ = some (.int .i64 a0_6) := (blk_cell BK176.out 6).trans rfl
        have hcz18_7 : w10.cell? ⟨gb176, 7, none⟩ = some (.int .i64 a0_7) := (blk_cell BK176.out 7).trans rfl
        have hcz18_8 : w10.cell? ⟨gb176, 8, none⟩ = some (.int .i64 a0_8) := (blk_cell BK176.out 8).trans rfl
        have hcz18_9 : w10.cell? ⟨gb176, 9, none⟩ = some (.int .i64 a0_9) := (blk_cell BK176.out 9).trans rfl
        have hcz18_10 : w10.cell? ⟨gb176, 10, none⟩ = some (.int .i64 a0_10) := (blk_cell BK176.out 10).trans rfl
        have hcz18_11 : w10.cell? ⟨gb176, 11, none⟩ = some (.int .i64 a0_11) := (blk_cell BK176.out 11).trans rfl
        have hfz18_0 := blk_frozen BK176.out 0
        have hfz18_1 := blk_frozen BK176.out 1
        have hfz18_2 := blk_frozen BK176.out 2
        have hfz18_3 := blk_frozen BK176.out 3
        have hfz18_4 := blk_frozen BK176.out 4
        have hfz18_5 := blk_frozen BK176.out 5
        have hfz18_6 := blk_frozen BK176.out 6
        have hfz18_7 := blk_frozen BK176.out 7
        have hfz18_8 := blk_frozen BK176.out 8
        have hfz18_9 := blk_frozen BK176.out 9
        have hfz18_10 := blk_frozen BK176.out 10
        have hfz18_11 := blk_frozen BK176.out 11
        go_wp2_with (first | ((with_reducible refine gate_callee (f := 18) rfl ?_); refine goesL_ (some 17) rfl rfl Try.func18 (by kernel_rfl) rfl #[.agg #[.int .i64 a0_0, .int .i64 a0_1, .int .i64 a0_2, .int .i64 a0_3, .int .i64 a0_4, .int .i64 a0_5, .int .i64 a0_6, .int .i64 a0_7, .int .i64 a0_8, .int .i64 a0_9, .int .i64 a0_10, .int .i64 a0_11]] rfl (by (try simp only [List.map_toArray, List.map_cons, List.map_nil]); first | done | rfl | (simp only [List.length_drop, List.length_take]; rfl)) ?_; (with_reducible refine (limit_Check.calls k a0_0 a0_1 a0_2 a0_3 a0_4 a0_5 a0_6 a0_7 a0_8 a0_9 a0_10 a0_11 t179 _ A11.out).mono ?_); rintro e w19 ⟨rfl, hb⟩; refine ⟨_, rfl, ?_⟩; have n0_ := Aside0.mk (blk_below (g := gb176) (o := .cells #[.int .i64 a0_0, .int .i64 a0_1, .int .i64 a0_2, .int .i64 a0_3, .int .i64 a0_4, .int .i64 a0_5, .int .i64 a0_6, .int .i64 a0_7, .int .i64 a0_8, .int .i64 a0_9, .int .i64 a0_10, .int .i64 a0_11] 23 (0, 0)) (by (with_reducible repeat (first | refine blk_drewN ?_ _ | refine blk_drew ?_ | refine blk_alloc ?_ _)); exact BK176.out) hb); have n1_ := Aside0.mk (blk_below (g := gb177) (o := .cells #[.int .i64 a1_0, .bool a1_1] 25 (0, 0)) (by (with_reducible repeat (first | refine blk_drewN ?_ _ | refine blk_drew ?_ | refine blk_alloc ?_ _)); exact BK177.out) hb); have n2_ := Aside0.mk (below_step (by repeat (first | (with_reducible first | exact HB.out | apply below_alloc | apply pw_below_drewN | apply below_drew1 | refine below_set ?_ GE176.out | refine below_set ?_ GE177.out) | exact HB.out)) hb); clear BK176; clear BK177; clear HB; have BK176 := n0_; have BK177 := n1_; have HB := n2_; clear n0_ n1_ n2_; (try clear hb); (try clear hb2); (try clear hk); (try clear hi)))
        go_meet
        case rel => exact ⟨_, (true), (by first | rfl | (simp; done) | (simp [*]; done) | (simp [Int.tdiv_eq_ediv_of_nonneg]; done) | (simp [Go.RowKit.wrap64]; done) | (simp [*, Go.RowKit.wrap64]; done)), H', ⟨by first | omega | exact Nat.le_refl _⟩, ⟨by (with_reducible repeat (first | refine blk_drewN ?_ _ | refine blk_drew ?_ | refine blk_alloc ?_ _)); exact BK176.out⟩, ⟨by (with_reducible repeat (first | refine blk_drewN ?_ _ | refine blk_drew ?_ | refine blk_alloc ?_ _)); exact BK177.out⟩, ⟨by repeat (first | (with_reducible first | exact HB.out | apply below_alloc | apply pw_below_drewN | apply below_drew1 | refine below_set ?_ GE176.out | refine below_set ?_ GE177.out) | exact HB.out)⟩⟩
    case rest =>
      clear HC7
      try clear c1
      try clear p2
      try clear c4
      try clear c6
      try clear c12
      try clear c12b0
      try clear c12b1
      try clear c13
      try clear c17
      try clear c18
      try clear hcz14_0
      try clear hcz14_1
      try clear hcz14_10
      try clear hcz14_11
      try clear hcz14_2
      try clear hcz14_3
      try clear hcz14_4
      try clear hcz14_5
      try clear hcz14_6
      try clear hcz14_7
      try clear hcz14_8
      try clear hcz14_9
      try clear hcz16_0
      try clear hcz16_1
      try clear hcz18_0
      try clear hcz18_1
      try clear hcz18_10
      try clear hcz18_11
      try clear hcz18_2
      try clear hcz18_3
      try clear hcz18_4
      try clear hcz18_5
      try clear hcz18_6
      try clear hcz18_7
      try clear hcz18_8
      try clear hcz18_9
      try clear hfz14_0
      try clear hfz14_1
      try clear hfz14_10
      try clear hfz14_11
      try clear hfz14_2
      try clear hfz14_3
      try clear hfz14_4
      try clear hfz14_5
      try clear hfz14_6
      try clear hfz14_7
      try clear hfz14_8
      try clear hfz14_9
      try clear hfz16_0
      try clear hfz16_1
      try clear hfz18_0
      try clear hfz18_1
      try clear hfz18_10
      try clear hfz18_11
      try clear hfz18_2
      try clear hfz18_3
      try clear hfz18_4
      try clear hfz18_5
      try clear hfz18_6
      try clear hfz18_7
      try clear hfz18_8
      try clear hfz18_9
      obtain ⟨kq, x23_6, rfl, HA, HJ6, BK176, BK177, HB⟩ := hcut
      cases kq with
      | zero => exact absurd HA.out (by simp [clepsydralaw12_SlewRate.j0])
      | succ kj6 =>
        have H := HA.out
        clear HA
        simp only [clepsydralaw12_SlewRate.j0] at H
        by_cases c20 : x23_6 = true
        · subst c20
          have H1 : (some true) = some r := by rw [if_pos rfl] at H; exact H
          clear H
          have H := H1
          clear H1
          obtain rfl := Option.some.inj H
          go_wp2
          go_ret
          exact ⟨by first | rfl | (simp [errW_none, errW_some] <;> rfl) | (simp [*, errW_none, errW_some] <;> rfl), by repeat (first | (with_reducible first | exact HB.out | apply below_alloc | apply pw_below_drewN | apply below_drew1 | refine below_set ?_ GE176.out | refine below_set ?_ GE177.out) | exact HB.out)⟩
        · replace c20 := Bool.eq_false_iff.mpr c20
          subst c20
          have H1 : (if a1_0 > 288230376151711744 then (some true) else (if a1_0 < (-288230376151711744) then (some true) else (if a2 > 288230376151711744 then (some true) else (if a2 < (-288230376151711744) then (some true) else (if a3 > 288230376151711744 then (some true) else (if a3 < (-288230376151711744) then (some true) else ((slew_Clock_Step.f kj6 a1_0 a1_1 a0_0 a0_1 a0_2 a0_3 a0_4 a0_5 a0_6 a0_7 a0_8 a0_9 a0_10 a0_11 a2 a3 false).bind fun bt180 => (if (wrap64 ((wrap64 (bt180.1 - a1_0)) - a2)) > a0_8 then (some false) else (if (wrap64 ((wrap64 (bt180.1 - a1_0)) - a2)) < (wrap64 (-a0_8)) then (some false) else (if (wrap64 (a1_0 + a2)) ≤ a3 then (if bt180.1 ≥ (wrap64 (a1_0 + a2)) then (if bt180.1 ≤ a3 then (some true) else (if (wrap64 (a1_0 + a2)) ≥ a3 then (if bt180.1 ≤ (wrap64 (a1_0 + a2)) then (some (decide (bt180.1 ≥ a3))) else (some false)) else (some false))) else (if (wrap64 (a1_0 + a2)) ≥ a3 then (if bt180.1 ≤ (wrap64 (a1_0 + a2)) then (some (decide (bt180.1 ≥ a3))) else (some false)) else (some false))) else (if (wrap64 (a1_0 + a2)) ≥ a3 then (if bt180.1 ≤ (wrap64 (a1_0 + a2)) then (some (decide (bt180.1 ≥ a3))) else (some false)) else (some false)))))))))))) = some r := by rw [if_neg (show ¬ (false = true) by decide)] at H; exact H
          clear H
          have H := H1
          clear H1
          by_cases c21 : a1_0 > 288230376151711744
          · rw [if_pos c21] at H
            have c21b0 : decide (288230376151711744 < a1_0) = true := decide_eq_true c21
            clear c21
            obtain rfl := Option.some.inj H
            have hnb22 := NB177_176.out
            have hnc22 := NB176_177.out
            have hcz23_0 : wc.cell? ⟨gb177, 0, none⟩ = some (.int .i64 a1_0) := (blk_cell BK177.out 0).trans rfl
            have hcz23_1 : wc.cell? ⟨gb177, 1, none⟩ = some (.bool a1_1) := (blk_cell BK177.out 1).trans rfl
            have hfz23_0 := blk_frozen BK177.out 0
            have hfz23_1 := blk_frozen BK177.out 1
            go_wp2
            refine wp_loop_rounds 4 ?_; rw [rounds_succ]
            go_wp2
            go_ret
            exact ⟨by first | rfl | (simp [errW_none, errW_some] <;> rfl) | (simp [*, errW_none, errW_some] <;> rfl), by repeat (first | (with_reducible first | exact HB.out | apply below_alloc | apply pw_below_drewN | apply below_drew1 | refine below_set ?_ GE176.out | refine below_set ?_ GE177.out) | exact HB.out)⟩
          · rw [if_neg c21] at H
            have c21b0 : decide (288230376151711744 < a1_0) = false := decide_eq_false c21
            clear c21
            by_cases c24 : a1_0 < (-288230376151711744)
            · rw [if_pos c24] at H
              have c24b0 : decide (a1_0 < (-288230376151711744)) = true := decide_eq_true c24
              clear c24
              obtain rfl := Option.some.inj H
              have hnb25 := NB177_176.out
              have hnc25 := NB176_177.out
              have hcz26_0 : wc.cell? ⟨gb177, 0, none⟩ = some (.int .i64 a1_0) := (blk_cell BK177.out 0).trans rfl
              have hcz26_1 : wc.cell? ⟨gb177, 1, none⟩ = some (.bool a1_1) := (blk_cell BK177.out 1).trans rfl
              have hfz26_0 := blk_frozen BK177.out 0
              have hfz26_1 := blk_frozen BK177.out 1
              go_wp2
              refine wp_loop_rounds 4 ?_; rw [rounds_succ]
              go_wp2
              go_ret
              exact ⟨by first | rfl | (simp [errW_none, errW_some] <;> rfl) | (simp [*, errW_none, errW_some] <;> rfl), by repeat (first | (with_reducible first | exact HB.out | apply below_alloc | apply pw_below_drewN | apply below_drew1 | refine below_set ?_ GE176.out | refine below_set ?_ GE177.out) | exact HB.out)⟩
            · rw [if_neg c24] at H
              have c24b0 : decide (a1_0 < (-288230376151711744)) = false := decide_eq_false c24
              clear c24
              by_cases c27 : a2 > 288230376151711744
              · rw [if_pos c27] at H
                have c27b0 : decide (288230376151711744 < a2) = true := decide_eq_true c27
                clear c27
                obtain rfl := Option.some.inj H
                have hnb28 := NB177_176.out
                have hnc28 := NB176_177.out
                have hcz29_0 : wc.cell? ⟨gb177, 0, none⟩ = some (.int .i64 a1_0) := (blk_cell BK177.out 0).trans rfl
                have hcz29_1 : wc.cell? ⟨gb177, 1, none⟩ = some (.bool a1_1) := (blk_cell BK177.out 1).trans rfl
                have hfz29_0 := blk_frozen BK177.out 0
                have hfz29_1 := blk_frozen BK177.out 1
                go_wp2
                refine wp_loop_rounds 4 ?_; rw [rounds_succ]
                go_wp2
                rw [rounds_succ]
                go_wp2
                go_ret
                exact ⟨by first | rfl | (simp [errW_none, errW_some] <;> rfl) | (simp [*, errW_none, errW_some] <;> rfl), by repeat (first | (with_reducible first | exact HB.out | apply below_alloc | apply pw_below_drewN | apply below_drew1 | refine below_set ?_ GE176.out | refine below_set ?_ GE177.out) | exact HB.out)⟩
              · rw [if_neg c27] at H
                have c27b0 : decide (288230376151711744 < a2) = false := decide_eq_false c27
                clear c27
                by_cases c30 : a2 < (-288230376151711744)
                · rw [if_pos c30] at H
                  have c30b0 : decide (a2 < (-288230376151711744)) = true := decide_eq_true c30
                  clear c30
                  obtain rfl := Option.some.inj H
                  have hnb31 := NB177_176.out
                  have hnc31 := NB176_177.out
                  have hcz32_0 : wc.cell? ⟨gb177, 0, none⟩ = some (.int .i64 a1_0) := (blk_cell BK177.out 0).trans rfl
                  have hcz32_1 : wc.cell? ⟨gb177, 1, none⟩ = some (.bool a1_1) := (blk_cell BK177.out 1).trans rfl
                  have hfz32_0 := blk_frozen BK177.out 0
                  have hfz32_1 := blk_frozen BK177.out 1
                  go_wp2
                  refine wp_loop_rounds 4 ?_; rw [rounds_succ]
                  go_wp2
                  rw [rounds_succ]
                  go_wp2
                  go_ret
                  exact ⟨by first | rfl | (simp [errW_none, errW_some] <;> rfl) | (simp [*, errW_none, errW_some] <;> rfl), by repeat (first | (with_reducible first | exact HB.out | apply below_alloc | apply pw_below_drewN | apply below_drew1 | refine below_set ?_ GE176.out | refine below_set ?_ GE177.out) | exact HB.out)⟩
                · rw [if_neg c30] at H
                  have c30b0 : decide (a2 < (-288230376151711744)) = false := decide_eq_false c30
                  clear c30
                  by_cases c33 : a3 > 288230376151711744
                  · rw [if_pos c33] at H
                    have c33b0 : decide (288230376151711744 < a3) = true := decide_eq_true c33
                    clear c33
                    obtain rfl := Option.some.inj H
                    have hnb34 := NB177_176.out
                    have hnc34 := NB176_177.out
                    have hcz35_0 : wc.cell? ⟨gb177, 0, none⟩ = some (.int .i64 a1_0) := (blk_cell BK177.out 0).trans rfl
                    have hcz35_1 : wc.cell? ⟨gb177, 1, none⟩ = some (.bool a1_1) := (blk_cell BK177.out 1).trans rfl
                    have hfz35_0 := blk_frozen BK177.out 0
                    have hfz35_1 := blk_frozen BK177.out 1
                    go_wp2
                    refine wp_loop_rounds 4 ?_; rw [rounds_succ]
                    go_wp2
                    rw [rounds_succ]
                    go_wp2
                    rw [rounds_succ]
                    go_wp2
                    go_ret
                    exact ⟨by first | rfl | (simp [errW_none, errW_some] <;> rfl) | (simp [*, errW_none, errW_some] <;> rfl), by repeat (first | (with_reducible first | exact HB.out | apply below_alloc | apply pw_below_drewN | apply below_drew1 | refine below_set ?_ GE176.out | refine below_set ?_ GE177.out) | exact HB.out)⟩
                  · rw [if_neg c33] at H
                    have c33b0 : decide (288230376151711744 < a3) = false := decide_eq_false c33
                    clear c33
                    by_cases c36 : a3 < (-288230376151711744)
                    · rw [if_pos c36] at H
                      have c36b0 : decide (a3 < (-288230376151711744)) = true := decide_eq_true c36
                      clear c36
                      obtain rfl := Option.some.inj H
                      have hnb37 := NB177_176.out
                      have hnc37 := NB176_177.out
                      have hcz38_0 : wc.cell? ⟨gb177, 0, none⟩ = some (.int .i64 a1_0) := (blk_cell BK177.out 0).trans rfl
                      have hcz38_1 : wc.cell? ⟨gb177, 1, none⟩ = some (.bool a1_1) := (blk_cell BK177.out 1).trans rfl
                      have hfz38_0 := blk_frozen BK177.out 0
                      have hfz38_1 := blk_frozen BK177.out 1
                      go_wp2
                      refine wp_loop_rounds 4 ?_; rw [rounds_succ]
                      go_wp2
                      rw [rounds_succ]
                      go_wp2
                      rw [rounds_succ]
                      go_wp2
                      go_ret
                      exact ⟨by first | rfl | (simp [errW_none, errW_some] <;> rfl) | (simp [*, errW_none, errW_some] <;> rfl), by repeat (first | (with_reducible first | exact HB.out | apply below_alloc | apply pw_below_drewN | apply below_drew1 | refine below_set ?_ GE176.out | refine below_set ?_ GE177.out) | exact HB.out)⟩
                    · rw [if_neg c36] at H
                      have c36b0 : decide (a3 < (-288230376151711744)) = false := decide_eq_false c36
                      clear c36
                      replace H := Option.bind_eq_some_iff.mp H
                      obtain ⟨⟨t180, t181⟩, A390, H⟩ := H
                      replace H : (if (wrap64 ((wrap64 (t180 - a1_0)) - a2)) > a0_8 then (some false) else (if (wrap64 ((wrap64 (t180 - a1_0)) - a2)) < (wrap64 (-a0_8)) then (some false) else (if (wrap64 (a1_0 + a2)) ≤ a3 then (if t180 ≥ (wrap64 (a1_0 + a2)) then (if t180 ≤ a3 then (some true) else (if (wrap64 (a1_0 + a2)) ≥ a3 then (if t180 ≤ (wrap64 (a1_0 + a2)) then (some (decide (t180 ≥ a3))) else (some false)) else (some false))) else (if (wrap64 (a1_0 + a2)) ≥ a3 then (if t180 ≤ (wrap64 (a1_0 + a2)) then (some (decide (t180 ≥ a3))) else (some false)) else (some false))) else (if (wrap64 (a1_0 + a2)) ≥ a3 then (if t180 ≤ (wrap64 (a1_0 + a2)) then (some (decide (t180 ≥ a3))) else (some false)) else (some false))))) = some r := H
                      have A39 := Aside0.mk A390
                      clear A390
                      by_cases c40 : (wrap64 ((wrap64 (t180 - a1_0)) - a2)) > a0_8
                      · rw [if_pos c40] at H
                        have c40b0 : decide (a0_8 < (wrap64 ((wrap64 (t180 - a1_0)) - a2))) = true := decide_eq_true c40
                        clear c40
                        exact absurd ((Option.some.inj H).trans hT.out) (by decide)
                      · rw [if_neg c40] at H
                        have c40b0 : decide (a0_8 < (wrap64 ((wrap64 (t180 - a1_0)) - a2))) = false := decide_eq_false c40
                        clear c40
                        by_cases c41 : (wrap64 ((wrap64 (t180 - a1_0)) - a2)) < (wrap64 (-a0_8))
                        · rw [if_pos c41] at H
                          have c41b0 : decide ((wrap64 ((wrap64 (t180 - a1_0)) - a2)) < (wrap64 (-a0_8))) = true := decide_eq_true c41
                          clear c41
                          exact absurd ((Option.some.inj H).trans hT.out) (by decide)
                        · rw [if_neg c41] at H
                          have c41b0 : decide ((wrap64 ((wrap64 (t180 - a1_0)) - a2)) < (wrap64 (-a0_8))) = false := decide_eq_false c41
                          clear c41
                          by_cases c42 : (wrap64 (a1_0 + a2)) ≤ a3
                          · rw [if_pos c42] at H
                            have c42b0 : decide ((wrap64 (a1_0 + a2)) ≤ a3) = true := decide_eq_true c42
                            clear c42
                            by_cases c43 : t180 ≥ (wrap64 (a1_0 + a2))
                            · rw [if_pos c43] at H
                              have c43b0 : decide ((wrap64 (a1_0 + a2)) ≤ t180) = true := decide_eq_true c43
                              clear c43
                              by_cases c44 : t180 ≤ a3
                              · rw [if_pos c44] at H
                                have c44b0 : decide (t180 ≤ a3) = true := decide_eq_true c44
                                clear c44
                                obtain rfl := Option.some.inj H
                                have hnb45 := NB177_176.out
                                have hnc45 := NB176_177.out
                                have hcz46_0 : wc.cell? ⟨gb177, 0, none⟩ = some (.int .i64 a1_0) := (blk_cell BK177.out 0).trans rfl
                                have hcz46_1 : wc.cell? ⟨gb177, 1, none⟩ = some (.bool a1_1) := (blk_cell BK177.out 1).trans rfl
                                have hfz46_0 := blk_frozen BK177.out 0
                                have hfz46_1 := blk_frozen BK177.out 1
                                have hcz47_0 : wc.cell? ⟨gb176, 0, none⟩ = some (.int .i64 a0_0) := (blk_cell BK176.out 0).trans rfl
                                have hcz47_1 : wc.cell? ⟨gb176, 1, none⟩ = some (.int .i64 a0_1) := (blk_cell BK176.out 1).trans rfl
                                have hcz47_2 : wc.cell? ⟨gb176, 2, none⟩ = some (.int .i64 a0_2) := (blk_cell BK176.out 2).trans rfl
                                have hcz47_3 : wc.cell? ⟨gb176, 3, none⟩ = some (.int .i64 a0_3) := (blk_cell BK176.out 3).trans rfl
                                have hcz47_4 : wc.cell? ⟨gb176, 4, none⟩ = some (.int .i64 a0_4) := (blk_cell BK176.out 4).trans rfl
                                have hcz47_5 : wc.cell? ⟨gb176, 5, none⟩ = some (.int .i64 a0_5) := (blk_cell BK176.out 5).trans rfl
                                have hcz47_6 : wc.cell? ⟨gb176, 6, none⟩ = some (.int .i64 a0_6) := (blk_cell BK176.out 6).trans rfl
                                have hcz47_7 : wc.cell? ⟨gb176, 7, none⟩ = some (.int .i64 a0_7) := (blk_cell BK176.out 7).trans rfl
                                have hcz47_8 : wc.cell? ⟨gb176, 8, none⟩ = some (.int .i64 a0_8) := (blk_cell BK176.out 8).trans rfl
                                have hcz47_9 : wc.cell? ⟨gb176, 9, none⟩ = some (.int .i64 a0_9) := (blk_cell BK176.out 9).trans rfl
                                have hcz47_10 : wc.cell? ⟨gb176, 10, none⟩ = some (.int .i64 a0_10) := (blk_cell BK176.out 10).trans rfl
                                have hcz47_11 : wc.cell? ⟨gb176, 11, none⟩ = some (.int .i64 a0_11) := (blk_cell BK176.out 11).trans rfl
                                have hfz47_0 := blk_frozen BK176.out 0
                                have hfz47_1 := blk_frozen BK176.out 1
                                have hfz47_2 := blk_frozen BK176.out 2
                                have hfz47_3 := blk_frozen BK176.out 3
                                have hfz47_4 := blk_frozen BK176.out 4
                                have hfz47_5 := blk_frozen BK176.out 5
                                have hfz47_6 := blk_frozen BK176.out 6
                                have hfz47_7 := blk_frozen BK176.out 7
                                have hfz47_8 := blk_frozen BK176.out 8
                                have hfz47_9 := blk_frozen BK176.out 9
                                have hfz47_10 := blk_frozen BK176.out 10
                                have hfz47_11 := blk_frozen BK176.out 11
                                go_wp2
                                refine wp_loop_rounds 4 ?_; rw [rounds_succ]
                                go_wp2
                                rw [rounds_succ]
                                go_wp2
                                rw [rounds_succ]
                                go_wp2
                                rw [rounds_succ]
                                go_wp2_with (first | ((with_reducible refine gate_callee (f := 16) rfl ?_); refine goesL_ (some 43) rfl rfl Try.func16 (by kernel_rfl) rfl #[.agg #[.int .i64 a1_0, .bool a1_1], .agg #[.int .i64 a0_0, .int .i64 a0_1, .int .i64 a0_2, .int .i64 a0_3, .int .i64 a0_4, .int .i64 a0_5, .int .i64 a0_6, .int .i64 a0_7, .int .i64 a0_8, .int .i64 a0_9, .int .i64 a0_10, .int .i64 a0_11], .int .i64 a2, .int .i64 a3, .bool false] rfl (by (try simp only [List.map_toArray, List.map_cons, List.map_nil]); first | done | rfl | (simp only [List.length_drop, List.length_take]; rfl)) ?_; (with_reducible refine (slew_Clock_Step.calls kj6 a1_0 a1_1 a0_0 a0_1 a0_2 a0_3 a0_4 a0_5 a0_6 a0_7 a0_8 a0_9 a0_10 a0_11 a2 a3 false t180 t181 _ A39.out).mono ?_); rintro e w48 ⟨rfl, hb⟩; refine ⟨_, rfl, ?_⟩; have n0_ := Aside0.mk (blk_below (g := gb176) (o := .cells #[.int .i64 a0_0, .int .i64 a0_1, .int .i64 a0_2, .int .i64 a0_3, .int .i64 a0_4, .int .i64 a0_5, .int .i64 a0_6, .int .i64 a0_7, .int .i64 a0_8, .int .i64 a0_9, .int .i64 a0_10, .int .i64 a0_11] 23 (0, 0)) (by (with_reducible repeat (first | refine blk_drewN ?_ _ | refine blk_drew ?_ | refine blk_alloc ?_ _)); exact BK176.out) hb); have n1_ := Aside0.mk (blk_below (g := gb177) (o := .cells #[.int .i64 a1_0, .bool a1_1] 25 (0, 0)) (by (with_reducible repeat (first | refine blk_drewN ?_ _ | refine blk_drew ?_ | refine blk_alloc ?_ _)); exact BK177.out) hb); have n2_ := Aside0.mk (below_step (by repeat (first | (with_reducible first | exact HB.out | apply below_alloc | apply pw_below_drewN | apply below_drew1 | refine below_set ?_ GE176.out | refine below_set ?_ GE177.out) | exact HB.out)) hb); clear BK176; clear BK177; clear HB; have BK176 := n0_; have BK177 := n1_; have HB := n2_; clear n0_ n1_ n2_; (try clear hb); (try clear hb2); (try clear hk); (try clear hi)) | ((with_reducible refine gate_dst (N := 11) rfl ?_); refine box_event ?hg (N := 11) ?hd (cs := #[.int .i64 0, .bool false]) (t := 25) ?hr ?_; (case hd => rfl); (case hg => rfl); (case hr => first | (go_simp; done) | (go_simp; rfl)); intro gb182 hg w49 hbox hb; have n0_ := Aside0.mk (blk_below (g := gb176) (o := .cells #[.int .i64 a0_0, .int .i64 a0_1, .int .i64 a0_2, .int .i64 a0_3, .int .i64 a0_4, .int .i64 a0_5, .int .i64 a0_6, .int .i64 a0_7, .int .i64 a0_8, .int .i64 a0_9, .int .i64 a0_10, .int .i64 a0_11] 23 (0, 0)) (by (with_reducible repeat (first | refine blk_drewN ?_ _ | refine blk_drew ?_ | refine blk_alloc ?_ _)); exact BK176.out) hb); have n1_ := Aside0.mk (blk_below (g := gb177) (o := .cells #[.int .i64 a1_0, .bool a1_1] 25 (0, 0)) (by (with_reducible repeat (first | refine blk_drewN ?_ _ | refine blk_drew ?_ | refine blk_alloc ?_ _)); exact BK177.out) hb); have n2_ := Aside0.mk (below_step (by repeat (first | (with_reducible first | exact HB.out | apply below_alloc | apply pw_below_drewN | apply below_drew1 | refine below_set ?_ GE176.out | refine below_set ?_ GE177.out) | exact HB.out)) hb); have n3_ := Aside0.mk (hbox); have n4_ := Aside0.mk ((by rw [hg]; exact (below_size (by repeat (first | (with_reducible first | exact HB.out | apply below_alloc | apply pw_below_drewN | apply below_drew1 | refine below_set ?_ GE176.out | refine below_set ?_ GE177.out) | exact HB.out))) : w.heap.size ≤ gb182)); have n5_ := Aside0.mk ((by rw [hg]; exact (below_size (by repeat (first | (with_reducible first | exact HB.out | apply below_alloc | apply pw_below_drewN | apply below_drew1 | refine below_set ?_ GE176.out | refine below_set ?_ GE177.out) | exact HB.out))) : w.heap.size ≤ gb182)); have n6_ := Aside0.mk ((by rw [hg]; exact Nat.ne_of_lt (blk_lt (g := gb176) (o := .cells #[.int .i64 a0_0, .int .i64 a0_1, .int .i64 a0_2, .int .i64 a0_3, .int .i64 a0_4, .int .i64 a0_5, .int .i64 a0_6, .int .i64 a0_7, .int .i64 a0_8, .int .i64 a0_9, .int .i64 a0_10, .int .i64 a0_11] 23 (0, 0)) (by (with_reducible repeat (first | refine blk_drewN ?_ _ | refine blk_drew ?_ | refine blk_alloc ?_ _)); exact BK176.out)) : gb176 ≠ gb182)); have n7_ := Aside0.mk ((by rw [hg]; exact Nat.ne_of_gt (blk_lt (g := gb176) (o := .cells #[.int .i64 a0_0, .int .i64 a0_1, .int .i64 a0_2, .int .i64 a0_3, .int .i64 a0_4, .int .i64 a0_5, .int .i64 a0_6, .int .i64 a0_7, .int .i64 a0_8, .int .i64 a0_9, .int .i64 a0_10, .int .i64 a0_11] 23 (0, 0)) (by (with_reducible repeat (first | refine blk_drewN ?_ _ | refine blk_drew ?_ | refine blk_alloc ?_ _)); exact BK176.out)) : gb182 ≠ gb176)); have n8_ := Aside0.mk ((by rw [hg]; exact Nat.ne_of_lt (blk_lt (g := gb177) (o := .cells #[.int .i64 a1_0, .bool a1_1] 25 (0, 0)) (by (with_reducible repeat (first | refine blk_drewN ?_ _ | refine blk_drew ?_ | refine blk_alloc ?_ _)); exact BK177.out)) : gb177 ≠ gb182)); have n9_ := Aside0.mk ((by rw [hg]; exact Nat.ne_of_gt (blk_lt (g := gb177) (o := .cells #[.int .i64 a1_0, .bool a1_1] 25 (0, 0)) (by (with_reducible repeat (first | refine blk_drewN ?_ _ | refine blk_drew ?_ | refine blk_alloc ?_ _)); exact BK177.out)) : gb182 ≠ gb177)); clear BK176; clear BK177; clear HB; have BK176 := n0_; have BK177 := n1_; have HB := n2_; have BK182 := n3_; have GW182 := n4_; have GE182 := n5_; have NB176_182 := n6_; have NB182_176 := n7_; have NB177_182 := n8_; have NB182_177 := n9_; clear n0_ n1_ n2_ n3_ n4_ n5_ n6_ n7_ n8_ n9_; clear hb hbox hg; have hnb50 := NB182_176.out; have hnc50 := NB176_182.out; have hnb51 := NB182_177.out; have hnc51 := NB177_182.out; have hcz52_0 : w49.cell? ⟨gb182, 0, none⟩ = some (.int .i64 0) := (blk_cell BK182.out 0).trans rfl; have hcz52_1 : w49.cell? ⟨gb182, 1, none⟩ = some (.bool false) := (blk_cell BK182.out 1).trans rfl; have hfz52_0 := blk_frozen BK182.out 0; have hfz52_1 := blk_frozen BK182.out 1; have hcz53_0 : w49.cell? ⟨gb177, 0, none⟩ = some (.int .i64 a1_0) := (blk_cell BK177.out 0).trans rfl; have hcz53_1 : w49.cell? ⟨gb177, 1, none⟩ = some (.bool a1_1) := (blk_cell BK177.out 1).trans rfl; have hfz53_0 := blk_frozen BK177.out 0; have hfz53_1 := blk_frozen BK177.out 1; have hcz54_0 : w49.cell? ⟨gb176, 0, none⟩ = some (.int .i64 a0_0) := (blk_cell BK176.out 0).trans rfl; have hcz54_1 : w49.cell? ⟨gb176, 1, none⟩ = some (.int .i64 a0_1) := (blk_cell BK176.out 1).trans rfl; have hcz54_2 : w49.cell? ⟨gb176, 2, none⟩ = some (.int .i64 a0_2) := (blk_cell BK176.out 2).trans rfl; have hcz54_3 : w49.cell? ⟨gb176, 3, none⟩ = some (.int .i64 a0_3) := (blk_cell BK176.out 3).trans rfl; have hcz54_4 : w49.cell? ⟨gb176, 4, none⟩ = some (.int .i64 a0_4) := (blk_cell BK176.out 4).trans rfl; have hcz54_5 : w49.cell? ⟨gb176, 5, none⟩ = some (.int .i64 a0_5) := (blk_cell BK176.out 5).trans rfl; have hcz54_6 : w49.cell? ⟨gb176, 6, none⟩ = some (.int .i64 a0_6) := (blk_cell BK176.out 6).trans rfl; have hcz54_7 : w49.cell? ⟨gb176, 7, none⟩ = some (.int .i64 a0_7) := (blk_cell BK176.out 7).trans rfl; have hcz54_8 : w49.cell? ⟨gb176, 8, none⟩ = some (.int .i64 a0_8) := (blk_cell BK176.out 8).trans rfl; have hcz54_9 : w49.cell? ⟨gb176, 9, none⟩ = some (.int .i64 a0_9) := (blk_cell BK176.out 9).trans rfl; have hcz54_10 : w49.cell? ⟨gb176, 10, none⟩ = some (.int .i64 a0_10) := (blk_cell BK176.out 10).trans rfl; have hcz54_11 : w49.cell? ⟨gb176, 11, none⟩ = some (.int .i64 a0_11) := (blk_cell BK176.out 11).trans rfl; have hfz54_0 := blk_frozen BK176.out 0; have hfz54_1 := blk_frozen BK176.out 1; have hfz54_2 := blk_frozen BK176.out 2; have hfz54_3 := blk_frozen BK176.out 3; have hfz54_4 := blk_frozen BK176.out 4; have hfz54_5 := blk_frozen BK176.out 5; have hfz54_6 := blk_frozen BK176.out 6; have hfz54_7 := blk_frozen BK176.out 7; have hfz54_8 := blk_frozen BK176.out 8; have hfz54_9 := blk_frozen BK176.out 9; have hfz54_10 := blk_frozen BK176.out 10; have hfz54_11 := blk_frozen BK176.out 11))
                                go_ret
                                exact ⟨by first | rfl | (simp [errW_none, errW_some] <;> rfl) | (simp [*, errW_none, errW_some] <;> rfl), by repeat (first | (with_reducible first | exact HB.out | apply below_alloc | apply pw_below_drewN | apply below_drew1 | refine below_set ?_ GE176.out | refine below_set ?_ GE177.out | refine below_set ?_ GE182.out) | exact HB.out)⟩
                              · rw [if_neg c44] at H
                                have c44b0 : decide (t180 ≤ a3) = false := decide_eq_false c44
                                clear c44
                                by_cases c55 : (wrap64 (a1_0 + a2)) ≥ a3
                                · rw [if_pos c55] at H
                                  have c55b0 : decide (a3 ≤ (wrap64 (a1_0 + a2))) = true := decide_eq_true c55
                                  clear c55
                                  by_cases c56 : t180 ≤ (wrap64 (a1_0 + a2))
                                  · rw [if_pos c56] at H
                                    have c56b0 : decide (t180 ≤ (wrap64 (a1_0 + a2))) = true := decide_eq_true c56
                                    clear c56
                                    obtain rfl := Option.some.inj H
                                    have hnb57 := NB177_176.out
                                    have hnc57 := NB176_177.out
                                    have hcz58_0 : wc.cell? ⟨gb177, 0, none⟩ = some (.int .i64 a1_0) := (blk_cell BK177.out 0).trans rfl
                                    have hcz58_1 : wc.cell? ⟨gb177, 1, none⟩ = some (.bool a1_1) := (blk_cell BK177.out 1).trans rfl
                                    have hfz58_0 := blk_frozen BK177.out 0
                                    have hfz58_1 := blk_frozen BK177.out 1
                                    have hcz59_0 : wc.cell? ⟨gb176, 0, none⟩ = some (.int .i64 a0_0) := (blk_cell BK176.out 0).trans rfl
                                    have hcz59_1 : wc.cell? ⟨gb176, 1, none⟩ = some (.int .i64 a0_1) := (blk_cell BK176.out 1).trans rfl
                                    have hcz59_2 : wc.cell? ⟨gb176, 2, none⟩ = some (.int .i64 a0_2) := (blk_cell BK176.out 2).trans rfl
                                    have hcz59_3 : wc.cell? ⟨gb176, 3, none⟩ = some (.int .i64 a0_3) := (blk_cell BK176.out 3).trans rfl
                                    have hcz59_4 : wc.cell? ⟨gb176, 4, none⟩ = some (.int .i64 a0_4) := (blk_cell BK176.out 4).trans rfl
                                    have hcz59_5 : wc.cell? ⟨gb176, 5, none⟩ = some (.int .i64 a0_5) := (blk_cell BK176.out 5).trans rfl
                                    have hcz59_6 : wc.cell? ⟨gb176, 6, none⟩ = some (.int .i64 a0_6) := (blk_cell BK176.out 6).trans rfl
                                    have hcz59_7 : wc.cell? ⟨gb176, 7, none⟩ = some (.int .i64 a0_7) := (blk_cell BK176.out 7).trans rfl
                                    have hcz59_8 : wc.cell? ⟨gb176, 8, none⟩ = some (.int .i64 a0_8) := (blk_cell BK176.out 8).trans rfl
                                    have hcz59_9 : wc.cell? ⟨gb176, 9, none⟩ = some (.int .i64 a0_9) := (blk_cell BK176.out 9).trans rfl
                                    have hcz59_10 : wc.cell? ⟨gb176, 10, none⟩ = some (.int .i64 a0_10) := (blk_cell BK176.out 10).trans rfl
                                    have hcz59_11 : wc.cell? ⟨gb176, 11, none⟩ = some (.int .i64 a0_11) := (blk_cell BK176.out 11).trans rfl
                                    have hfz59_0 := blk_frozen BK176.out 0
                                    have hfz59_1 := blk_frozen BK176.out 1
                                    have hfz59_2 := blk_frozen BK176.out 2
                                    have hfz59_3 := blk_frozen BK176.out 3
                                    have hfz59_4 := blk_frozen BK176.out 4
                                    have hfz59_5 := blk_frozen BK176.out 5
                                    have hfz59_6 := blk_frozen BK176.out 6
                                    have hfz59_7 := blk_frozen BK176.out 7
                                    have hfz59_8 := blk_frozen BK176.out 8
                                    have hfz59_9 := blk_frozen BK176.out 9
                                    have hfz59_10 := blk_frozen BK176.out 10
                                    have hfz59_11 := blk_frozen BK176.out 11
                                    go_wp2
                                    refine wp_loop_rounds 4 ?_; rw [rounds_succ]
                                    go_wp2
                                    rw [rounds_succ]
                                    go_wp2
                                    rw [rounds_succ]
                                    go_wp2
                                    rw [rounds_succ]
                                    go_wp2_with (first | ((with_reducible refine gate_callee (f := 16) rfl ?_); refine goesL_ (some 43) rfl rfl Try.func16 (by kernel_rfl) rfl #[.agg #[.int .i64 a1_0, .bool a1_1], .agg #[.int .i64 a0_0, .int .i64 a0_1, .int .i64 a0_2, .int .i64 a0_3, .int .i64 a0_4, .int .i64 a0_5, .int .i64 a0_6, .int .i64 a0_7, .int .i64 a0_8, .int .i64 a0_9, .int .i64 a0_10, .int .i64 a0_11], .int .i64 a2, .int .i64 a3, .bool false] rfl (by (try simp only [List.map_toArray, List.map_cons, List.map_nil]); first | done | rfl | (simp only [List.length_drop, List.length_take]; rfl)) ?_; (with_reducible refine (slew_Clock_Step.calls kj6 a1_0 a1_1 a0_0 a0_1 a0_2 a0_3 a0_4 a0_5 a0_6 a0_7 a0_8 a0_9 a0_10 a0_11 a2 a3 false t180 t181 _ A39.out).mono ?_); rintro e w60 ⟨rfl, hb⟩; refine ⟨_, rfl, ?_⟩; have n0_ := Aside0.mk (blk_below (g := gb176) (o := .cells #[.int .i64 a0_0, .int .i64 a0_1, .int .i64 a0_2, .int .i64 a0_3, .int .i64 a0_4, .int .i64 a0_5, .int .i64 a0_6, .int .i64 a0_7, .int .i64 a0_8, .int .i64 a0_9, .int .i64 a0_10, .int .i64 a0_11] 23 (0, 0)) (by (with_reducible repeat (first | refine blk_drewN ?_ _ | refine blk_drew ?_ | refine blk_alloc ?_ _)); exact BK176.out) hb); have n1_ := Aside0.mk (blk_below (g := gb177) (o := .cells #[.int .i64 a1_0, .bool a1_1] 25 (0, 0)) (by (with_reducible repeat (first | refine blk_drewN ?_ _ | refine blk_drew ?_ | refine blk_alloc ?_ _)); exact BK177.out) hb); have n2_ := Aside0.mk (below_step (by repeat (first | (with_reducible first | exact HB.out | apply below_alloc | apply pw_below_drewN | apply below_drew1 | refine below_set ?_ GE176.out | refine below_set ?_ GE177.out) | exact HB.out)) hb); clear BK176; clear BK177; clear HB; have BK176 := n0_; have BK177 := n1_; have HB := n2_; clear n0_ n1_ n2_; (try clear hb); (try clear hb2); (try clear hk); (try clear hi)) | ((with_reducible refine gate_dst (N := 11) rfl ?_); refine box_event ?hg (N := 11) ?hd (cs := #[.int .i64 0, .bool false]) (t := 25) ?hr ?_; (case hd => rfl); (case hg => rfl); (case hr => first | (go_simp; done) | (go_simp; rfl)); intro gb182 hg w61 hbox hb; have n0_ := Aside0.mk (blk_below (g := gb176) (o := .cells #[.int .i64 a0_0, .int .i64 a0_1, .int .i64 a0_2, .int .i64 a0_3, .int .i64 a0_4, .int .i64 a0_5, .int .i64 a0_6, .int .i64 a0_7, .int .i64 a0_8, .int .i64 a0_9, .int .i64 a0_10, .int .i64 a0_11] 23 (0, 0)) (by (with_reducible repeat (first | refine blk_drewN ?_ _ | refine blk_drew ?_ | refine blk_alloc ?_ _)); exact BK176.out) hb); have n1_ := Aside0.mk (blk_below (g := gb177) (o := .cells #[.int .i64 a1_0, .bool a1_1] 25 (0, 0)) (by (with_reducible repeat (first | refine blk_drewN ?_ _ | refine blk_drew ?_ | refine blk_alloc ?_ _)); exact BK177.out) hb); have n2_ := Aside0.mk (below_step (by repeat (first | (with_reducible first | exact HB.out | apply below_alloc | apply pw_below_drewN | apply below_drew1 | refine below_set ?_ GE176.out | refine below_set ?_ GE177.out) | exact HB.out)) hb); have n3_ := Aside0.mk (hbox); have n4_ := Aside0.mk ((by rw [hg]; exact (below_size (by repeat (first | (with_reducible first | exact HB.out | apply below_alloc | apply pw_below_drewN | apply below_drew1 | refine below_set ?_ GE176.out | refine below_set ?_ GE177.out) | exact HB.out))) : w.heap.size ≤ gb182)); have n5_ := Aside0.mk ((by rw [hg]; exact (below_size (by repeat (first | (with_reducible first | exact HB.out | apply below_alloc | apply pw_below_drewN | apply below_drew1 | refine below_set ?_ GE176.out | refine below_set ?_ GE177.out) | exact HB.out))) : w.heap.size ≤ gb182)); have n6_ := Aside0.mk ((by rw [hg]; exact Nat.ne_of_lt (blk_lt (g := gb176) (o := .cells #[.int .i64 a0_0, .int .i64 a0_1, .int .i64 a0_2, .int .i64 a0_3, .int .i64 a0_4, .int .i64 a0_5, .int .i64 a0_6, .int .i64 a0_7, .int .i64 a0_8, .int .i64 a0_9, .int .i64 a0_10, .int .i64 a0_11] 23 (0, 0)) (by (with_reducible repeat (first | refine blk_drewN ?_ _ | refine blk_drew ?_ | refine blk_alloc ?_ _)); exact BK176.out)) : gb176 ≠ gb182)); have n7_ := Aside0.mk ((by rw [hg]; exact Nat.ne_of_gt (blk_lt (g := gb176) (o := .cells #[.int .i64 a0_0, .int .i64 a0_1, .int .i64 a0_2, .int .i64 a0_3, .int .i64 a0_4, .int .i64 a0_5, .int .i64 a0_6, .int .i64 a0_7, .int .i64 a0_8, .int .i64 a0_9, .int .i64 a0_10, .int .i64 a0_11] 23 (0, 0)) (by (with_reducible repeat (first | refine blk_drewN ?_ _ | refine blk_drew ?_ | refine blk_alloc ?_ _)); exact BK176.out)) : gb182 ≠ gb176)); have n8_ := Aside0.mk ((by rw [hg]; exact Nat.ne_of_lt (blk_lt (g := gb177) (o := .cells #[.int .i64 a1_0, .bool a1_1] 25 (0, 0)) (by (with_reducible repeat (first | refine blk_drewN ?_ _ | refine blk_drew ?_ | refine blk_alloc ?_ _)); exact BK177.out)) : gb177 ≠ gb182)); have n9_ := Aside0.mk ((by rw [hg]; exact Nat.ne_of_gt (blk_lt (g := gb177) (o := .cells #[.int .i64 a1_0, .bool a1_1] 25 (0, 0)) (by (with_reducible repeat (first | refine blk_drewN ?_ _ | refine blk_drew ?_ | refine blk_alloc ?_ _)); exact BK177.out)) : gb182 ≠ gb177)); clear BK176; clear BK177; clear HB; have BK176 := n0_; have BK177 := n1_; have HB := n2_; have BK182 := n3_; have GW182 := n4_; have GE182 := n5_; have NB176_182 := n6_; have NB182_176 := n7_; have NB177_182 := n8_; have NB182_177 := n9_; clear n0_ n1_ n2_ n3_ n4_ n5_ n6_ n7_ n8_ n9_; clear hb hbox hg; have hnb62 := NB182_176.out; have hnc62 := NB176_182.out; have hnb63 := NB182_177.out; have hnc63 := NB177_182.out; have hcz64_0 : w61.cell? ⟨gb182, 0, none⟩ = some (.int .i64 0) := (blk_cell BK182.out 0).trans rfl; have hcz64_1 : w61.cell? ⟨gb182, 1, none⟩ = some (.bool false) := (blk_cell BK182.out 1).trans rfl; have hfz64_0 := blk_frozen BK182.out 0; have hfz64_1 := blk_frozen BK182.out 1; have hcz65_0 : w61.cell? ⟨gb177, 0, none⟩ = some (.int .i64 a1_0) := (blk_cell BK177.out 0).trans rfl; have hcz65_1 : w61.cell? ⟨gb177, 1, none⟩ = some (.bool a1_1) := (blk_cell BK177.out 1).trans rfl; have hfz65_0 := blk_frozen BK177.out 0; have hfz65_1 := blk_frozen BK177.out 1; have hcz66_0 : w61.cell? ⟨gb176, 0, none⟩ = some (.int .i64 a0_0) := (blk_cell BK176.out 0).trans rfl; have hcz66_1 : w61.cell? ⟨gb176, 1, none⟩ = some (.int .i64 a0_1) := (blk_cell BK176.out 1).trans rfl; have hcz66_2 : w61.cell? ⟨gb176, 2, none⟩ = some (.int .i64 a0_2) := (blk_cell BK176.out 2).trans rfl; have hcz66_3 : w61.cell? ⟨gb176, 3, none⟩ = some (.int .i64 a0_3) := (blk_cell BK176.out 3).trans rfl; have hcz66_4 : w61.cell? ⟨gb176, 4, none⟩ = some (.int .i64 a0_4) := (blk_cell BK176.out 4).trans rfl; have hcz66_5 : w61.cell? ⟨gb176, 5, none⟩ = some (.int .i64 a0_5) := (blk_cell BK176.out 5).trans rfl; have hcz66_6 : w61.cell? ⟨gb176, 6, none⟩ = some (.int .i64 a0_6) := (blk_cell BK176.out 6).trans rfl; have hcz66_7 : w61.cell? ⟨gb176, 7, none⟩ = some (.int .i64 a0_7) := (blk_cell BK176.out 7).trans rfl; have hcz66_8 : w61.cell? ⟨gb176, 8, none⟩ = some (.int .i64 a0_8) := (blk_cell BK176.out 8).trans rfl; have hcz66_9 : w61.cell? ⟨gb176, 9, none⟩ = some (.int .i64 a0_9) := (blk_cell BK176.out 9).trans rfl; have hcz66_10 : w61.cell? ⟨gb176, 10, none⟩ = some (.int .i64 a0_10) := (blk_cell BK176.out 10).trans rfl; have hcz66_11 : w61.cell? ⟨gb176, 11, none⟩ = some (.int .i64 a0_11) := (blk_cell BK176.out 11).trans rfl; have hfz66_0 := blk_frozen BK176.out 0; have hfz66_1 := blk_frozen BK176.out 1; have hfz66_2 := blk_frozen BK176.out 2; have hfz66_3 := blk_frozen BK176.out 3; have hfz66_4 := blk_frozen BK176.out 4; have hfz66_5 := blk_frozen BK176.out 5; have hfz66_6 := blk_frozen BK176.out 6; have hfz66_7 := blk_frozen BK176.out 7; have hfz66_8 := blk_frozen BK176.out 8; have hfz66_9 := blk_frozen BK176.out 9; have hfz66_10 := blk_frozen BK176.out 10; have hfz66_11 := blk_frozen BK176.out 11))
                                    go_ret
                                    exact ⟨by first | rfl | (simp [errW_none, errW_some] <;> rfl) | (simp [*, errW_none, errW_some] <;> rfl), by repeat (first | (with_reducible first | exact HB.out | apply below_alloc | apply pw_below_drewN | apply below_drew1 | refine below_set ?_ GE176.out | refine below_set ?_ GE177.out | refine below_set ?_ GE182.out) | exact HB.out)⟩
                                  · rw [if_neg c56] at H
                                    have c56b0 : decide (t180 ≤ (wrap64 (a1_0 + a2))) = false := decide_eq_false c56
                                    clear c56
                                    exact absurd ((Option.some.inj H).trans hT.out) (by decide)
                                · rw [if_neg c55] at H
                                  have c55b0 : decide (a3 ≤ (wrap64 (a1_0 + a2))) = false := decide_eq_false c55
                                  clear c55
                                  exact absurd ((Option.some.inj H).trans hT.out) (by decide)
                            · rw [if_neg c43] at H
                              have c43b0 : decide ((wrap64 (a1_0 + a2)) ≤ t180) = false := decide_eq_false c43
                              clear c43
                              by_cases c67 : (wrap64 (a1_0 + a2)) ≥ a3
                              · rw [if_pos c67] at H
                                have c67b0 : decide (a3 ≤ (wrap64 (a1_0 + a2))) = true := decide_eq_true c67
                                clear c67
                                by_cases c68 : t180 ≤ (wrap64 (a1_0 + a2))
                                · rw [if_pos c68] at H
                                  have c68b0 : decide (t180 ≤ (wrap64 (a1_0 + a2))) = true := decide_eq_true c68
                                  clear c68
                                  obtain rfl := Option.some.inj H
                                  have hnb69 := NB177_176.out
                                  have hnc69 := NB176_177.out
                                  have hcz70_0 : wc.cell? ⟨gb177, 0, none⟩ = some (.int .i64 a1_0) := (blk_cell BK177.out 0).trans rfl
                                  have hcz70_1 : wc.cell? ⟨gb177, 1, none⟩ = some (.bool a1_1) := (blk_cell BK177.out 1).trans rfl
                                  have hfz70_0 := blk_frozen BK177.out 0
                                  have hfz70_1 := blk_frozen BK177.out 1
                                  have hcz71_0 : wc.cell? ⟨gb176, 0, none⟩ = some (.int .i64 a0_0) := (blk_cell BK176.out 0).trans rfl
                                  have hcz71_1 : wc.cell? ⟨gb176, 1, none⟩ = some (.int .i64 a0_1) := (blk_cell BK176.out 1).trans rfl
                                  have hcz71_2 : wc.cell? ⟨gb176, 2, none⟩ = some (.int .i64 a0_2) := (blk_cell BK176.out 2).trans rfl
                                  have hcz71_3 : wc.cell? ⟨gb176, 3, none⟩ = some (.int .i64 a0_3) := (blk_cell BK176.out 3).trans rfl
                                  have hcz71_4 : wc.cell? ⟨gb176, 4, none⟩ = some (.int .i64 a0_4) := (blk_cell BK176.out 4).trans rfl
                                  have hcz71_5 : wc.cell? ⟨gb176, 5, none⟩ = some (.int .i64 a0_5) := (blk_cell BK176.out 5).trans rfl
                                  have hcz71_6 : wc.cell? ⟨gb176, 6, none⟩ = some (.int .i64 a0_6) := (blk_cell BK176.out 6).trans rfl
                                  have hcz71_7 : wc.cell? ⟨gb176, 7, none⟩ = some (.int .i64 a0_7) := (blk_cell BK176.out 7).trans rfl
                                  have hcz71_8 : wc.cell? ⟨gb176, 8, none⟩ = some (.int .i64 a0_8) := (blk_cell BK176.out 8).trans rfl
                                  have hcz71_9 : wc.cell? ⟨gb176, 9, none⟩ = some (.int .i64 a0_9) := (blk_cell BK176.out 9).trans rfl
                                  have hcz71_10 : wc.cell? ⟨gb176, 10, none⟩ = some (.int .i64 a0_10) := (blk_cell BK176.out 10).trans rfl
                                  have hcz71_11 : wc.cell? ⟨gb176, 11, none⟩ = some (.int .i64 a0_11) := (blk_cell BK176.out 11).trans rfl
                                  have hfz71_0 := blk_frozen BK176.out 0
                                  have hfz71_1 := blk_frozen BK176.out 1
                                  have hfz71_2 := blk_frozen BK176.out 2
                                  have hfz71_3 := blk_frozen BK176.out 3
                                  have hfz71_4 := blk_frozen BK176.out 4
                                  have hfz71_5 := blk_frozen BK176.out 5
                                  have hfz71_6 := blk_frozen BK176.out 6
                                  have hfz71_7 := blk_frozen BK176.out 7
                                  have hfz71_8 := blk_frozen BK176.out 8
                                  have hfz71_9 := blk_frozen BK176.out 9
                                  have hfz71_10 := blk_frozen BK176.out 10
                                  have hfz71_11 := blk_frozen BK176.out 11
                                  go_wp2
                                  refine wp_loop_rounds 4 ?_; rw [rounds_succ]
                                  go_wp2
                                  rw [rounds_succ]
                                  go_wp2
                                  rw [rounds_succ]
                                  go_wp2
                                  rw [rounds_succ]
                                  go_wp2_with (first | ((with_reducible refine gate_callee (f := 16) rfl ?_); refine goesL_ (some 43) rfl rfl Try.func16 (by kernel_rfl) rfl #[.agg #[.int .i64 a1_0, .bool a1_1], .agg #[.int .i64 a0_0, .int .i64 a0_1, .int .i64 a0_2, .int .i64 a0_3, .int .i64 a0_4, .int .i64 a0_5, .int .i64 a0_6, .int .i64 a0_7, .int .i64 a0_8, .int .i64 a0_9, .int .i64 a0_10, .int .i64 a0_11], .int .i64 a2, .int .i64 a3, .bool false] rfl (by (try simp only [List.map_toArray, List.map_cons, List.map_nil]); first | done | rfl | (simp only [List.length_drop, List.length_take]; rfl)) ?_; (with_reducible refine (slew_Clock_Step.calls kj6 a1_0 a1_1 a0_0 a0_1 a0_2 a0_3 a0_4 a0_5 a0_6 a0_7 a0_8 a0_9 a0_10 a0_11 a2 a3 false t180 t181 _ A39.out).mono ?_); rintro e w72 ⟨rfl, hb⟩; refine ⟨_, rfl, ?_⟩; have n0_ := Aside0.mk (blk_below (g := gb176) (o := .cells #[.int .i64 a0_0, .int .i64 a0_1, .int .i64 a0_2, .int .i64 a0_3, .int .i64 a0_4, .int .i64 a0_5, .int .i64 a0_6, .int .i64 a0_7, .int .i64 a0_8, .int .i64 a0_9, .int .i64 a0_10, .int .i64 a0_11] 23 (0, 0)) (by (with_reducible repeat (first | refine blk_drewN ?_ _ | refine blk_drew ?_ | refine blk_alloc ?_ _)); exact BK176.out) hb); have n1_ := Aside0.mk (blk_below (g := gb177) (o := .cells #[.int .i64 a1_0, .bool a1_1] 25 (0, 0)) (by (with_reducible repeat (first | refine blk_drewN ?_ _ | refine blk_drew ?_ | refine blk_alloc ?_ _)); exact BK177.out) hb); have n2_ := Aside0.mk (below_step (by repeat (first | (with_reducible first | exact HB.out | apply below_alloc | apply pw_below_drewN | apply below_drew1 | refine below_set ?_ GE176.out | refine below_set ?_ GE177.out) | exact HB.out)) hb); clear BK176; clear BK177; clear HB; have BK176 := n0_; have BK177 := n1_; have HB := n2_; clear n0_ n1_ n2_; (try clear hb); (try clear hb2); (try clear hk); (try clear hi)) | ((with_reducible refine gate_dst (N := 11) rfl ?_); refine box_event ?hg (N := 11) ?hd (cs := #[.int .i64 0, .bool false]) (t := 25) ?hr ?_; (case hd => rfl); (case hg => rfl); (case hr => first | (go_simp; done) | (go_simp; rfl)); intro gb182 hg w73 hbox hb; have n0_ := Aside0.mk (blk_below (g := gb176) (o := .cells #[.int .i64 a0_0, .int .i64 a0_1, .int .i64 a0_2, .int .i64 a0_3, .int .i64 a0_4, .int .i64 a0_5, .int .i64 a0_6, .int .i64 a0_7, .int .i64 a0_8, .int .i64 a0_9, .int .i64 a0_10, .int .i64 a0_11] 23 (0, 0)) (by (with_reducible repeat (first | refine blk_drewN ?_ _ | refine blk_drew ?_ | refine blk_alloc ?_ _)); exact BK176.out) hb); have n1_ := Aside0.mk (blk_below (g := gb177) (o := .cells #[.int .i64 a1_0, .bool a1_1] 25 (0, 0)) (by (with_reducible repeat (first | refine blk_drewN ?_ _ | refine blk_drew ?_ | refine blk_alloc ?_ _)); exact BK177.out) hb); have n2_ := Aside0.mk (below_step (by repeat (first | (with_reducible first | exact HB.out | apply below_alloc | apply pw_below_drewN | apply below_drew1 | refine below_set ?_ GE176.out | refine below_set ?_ GE177.out) | exact HB.out)) hb); have n3_ := Aside0.mk (hbox); have n4_ := Aside0.mk ((by rw [hg]; exact (below_size (by repeat (first | (with_reducible first | exact HB.out | apply below_alloc | apply pw_below_drewN | apply below_drew1 | refine below_set ?_ GE176.out | refine below_set ?_ GE177.out) | exact HB.out))) : w.heap.size ≤ gb182)); have n5_ := Aside0.mk ((by rw [hg]; exact (below_size (by repeat (first | (with_reducible first | exact HB.out | apply below_alloc | apply pw_below_drewN | apply below_drew1 | refine below_set ?_ GE176.out | refine below_set ?_ GE177.out) | exact HB.out))) : w.heap.size ≤ gb182)); have n6_ := Aside0.mk ((by rw [hg]; exact Nat.ne_of_lt (blk_lt (g := gb176) (o := .cells #[.int .i64 a0_0, .int .i64 a0_1, .int .i64 a0_2, .int .i64 a0_3, .int .i64 a0_4, .int .i64 a0_5, .int .i64 a0_6, .int .i64 a0_7, .int .i64 a0_8, .int .i64 a0_9, .int .i64 a0_10, .int .i64 a0_11] 23 (0, 0)) (by (with_reducible repeat (first | refine blk_drewN ?_ _ | refine blk_drew ?_ | refine blk_alloc ?_ _)); exact BK176.out)) : gb176 ≠ gb182)); have n7_ := Aside0.mk ((by rw [hg]; exact Nat.ne_of_gt (blk_lt (g := gb176) (o := .cells #[.int .i64 a0_0, .int .i64 a0_1, .int .i64 a0_2, .int .i64 a0_3, .int .i64 a0_4, .int .i64 a0_5, .int .i64 a0_6, .int .i64 a0_7, .int .i64 a0_8, .int .i64 a0_9, .int .i64 a0_10, .int .i64 a0_11] 23 (0, 0)) (by (with_reducible repeat (first | refine blk_drewN ?_ _ | refine blk_drew ?_ | refine blk_alloc ?_ _)); exact BK176.out)) : gb182 ≠ gb176)); have n8_ := Aside0.mk ((by rw [hg]; exact Nat.ne_of_lt (blk_lt (g := gb177) (o := .cells #[.int .i64 a1_0, .bool a1_1] 25 (0, 0)) (by (with_reducible repeat (first | refine blk_drewN ?_ _ | refine blk_drew ?_ | refine blk_alloc ?_ _)); exact BK177.out)) : gb177 ≠ gb182)); have n9_ := Aside0.mk ((by rw [hg]; exact Nat.ne_of_gt (blk_lt (g := gb177) (o := .cells #[.int .i64 a1_0, .bool a1_1] 25 (0, 0)) (by (with_reducible repeat (first | refine blk_drewN ?_ _ | refine blk_drew ?_ | refine blk_alloc ?_ _)); exact BK177.out)) : gb182 ≠ gb177)); clear BK176; clear BK177; clear HB; have BK176 := n0_; have BK177 := n1_; have HB := n2_; have BK182 := n3_; have GW182 := n4_; have GE182 := n5_; have NB176_182 := n6_; have NB182_176 := n7_; have NB177_182 := n8_; have NB182_177 := n9_; clear n0_ n1_ n2_ n3_ n4_ n5_ n6_ n7_ n8_ n9_; clear hb hbox hg; have hnb74 := NB182_176.out; have hnc74 := NB176_182.out; have hnb75 := NB182_177.out; have hnc75 := NB177_182.out; have hcz76_0 : w73.cell? ⟨gb182, 0, none⟩ = some (.int .i64 0) := (blk_cell BK182.out 0).trans rfl; have hcz76_1 : w73.cell? ⟨gb182, 1, none⟩ = some (.bool false) := (blk_cell BK182.out 1).trans rfl; have hfz76_0 := blk_frozen BK182.out 0; have hfz76_1 := blk_frozen BK182.out 1; have hcz77_0 : w73.cell? ⟨gb177, 0, none⟩ = some (.int .i64 a1_0) := (blk_cell BK177.out 0).trans rfl; have hcz77_1 : w73.cell? ⟨gb177, 1, none⟩ = some (.bool a1_1) := (blk_cell BK177.out 1).trans rfl; have hfz77_0 := blk_frozen BK177.out 0; have hfz77_1 := blk_frozen BK177.out 1; have hcz78_0 : w73.cell? ⟨gb176, 0, none⟩ = some (.int .i64 a0_0) := (blk_cell BK176.out 0).trans rfl; have hcz78_1 : w73.cell? ⟨gb176, 1, none⟩ = some (.int .i64 a0_1) := (blk_cell BK176.out 1).trans rfl; have hcz78_2 : w73.cell? ⟨gb176, 2, none⟩ = some (.int .i64 a0_2) := (blk_cell BK176.out 2).trans rfl; have hcz78_3 : w73.cell? ⟨gb176, 3, none⟩ = some (.int .i64 a0_3) := (blk_cell BK176.out 3).trans rfl; have hcz78_4 : w73.cell? ⟨gb176, 4, none⟩ = some (.int .i64 a0_4) := (blk_cell BK176.out 4).trans rfl; have hcz78_5 : w73.cell? ⟨gb176, 5, none⟩ = some (.int .i64 a0_5) := (blk_cell BK176.out 5).trans rfl; have hcz78_6 : w73.cell? ⟨gb176, 6, none⟩ = some (.int .i64 a0_6) := (blk_cell BK176.out 6).trans rfl; have hcz78_7 : w73.cell? ⟨gb176, 7, none⟩ = some (.int .i64 a0_7) := (blk_cell BK176.out 7).trans rfl; have hcz78_8 : w73.cell? ⟨gb176, 8, none⟩ = some (.int .i64 a0_8) := (blk_cell BK176.out 8).trans rfl; have hcz78_9 : w73.cell? ⟨gb176, 9, none⟩ = some (.int .i64 a0_9) := (blk_cell BK176.out 9).trans rfl; have hcz78_10 : w73.cell? ⟨gb176, 10, none⟩ = some (.int .i64 a0_10) := (blk_cell BK176.out 10).trans rfl; have hcz78_11 : w73.cell? ⟨gb176, 11, none⟩ = some (.int .i64 a0_11) := (blk_cell BK176.out 11).trans rfl; have hfz78_0 := blk_frozen BK176.out 0; have hfz78_1 := blk_frozen BK176.out 1; have hfz78_2 := blk_frozen BK176.out 2; have hfz78_3 := blk_frozen BK176.out 3; have hfz78_4 := blk_frozen BK176.out 4; have hfz78_5 := blk_frozen BK176.out 5; have hfz78_6 := blk_frozen BK176.out 6; have hfz78_7 := blk_frozen BK176.out 7; have hfz78_8 := blk_frozen BK176.out 8; have hfz78_9 := blk_frozen BK176.out 9; have hfz78_10 := blk_frozen BK176.out 10; have hfz78_11 := blk_frozen BK176.out 11))
                                  go_ret
                                  exact ⟨by first | rfl | (simp [errW_none, errW_some] <;> rfl) | (simp [*, errW_none, errW_some] <;> rfl), by repeat (first | (with_reducible first | exact HB.out | apply below_alloc | apply pw_below_drewN | apply below_drew1 | refine below_set ?_ GE176.out | refine below_set ?_ GE177.out | refine below_set ?_ GE182.out) | exact HB.out)⟩
                                · rw [if_neg c68] at H
                                  have c68b0 : decide (t180 ≤ (wrap64 (a1_0 + a2))) = false := decide_eq_false c68
                                  clear c68
                                  exact absurd ((Option.some.inj H).trans hT.out) (by decide)
                              · rw [if_neg c67] at H
                                have c67b0 : decide (a3 ≤ (wrap64 (a1_0 + a2))) = false := decide_eq_false c67
                                clear c67
                                exact absurd ((Option.some.inj H).trans hT.out) (by decide)
                          · rw [if_neg c42] at H
                            have c42b0 : decide ((wrap64 (a1_0 + a2)) ≤ a3) = false := decide_eq_false c42
                            clear c42
                            by_cases c79 : (wrap64 (a1_0 + a2)) ≥ a3
                            · rw [if_pos c79] at H
                              have c79b0 : decide (a3 ≤ (wrap64 (a1_0 + a2))) = true := decide_eq_true c79
                              clear c79
                              by_cases c80 : t180 ≤ (wrap64 (a1_0 + a2))
                              · rw [if_pos c80] at H
                                have c80b0 : decide (t180 ≤ (wrap64 (a1_0 + a2))) = true := decide_eq_true c80
                                clear c80
                                obtain rfl := Option.some.inj H
                                have hnb81 := NB177_176.out
                                have hnc81 := NB176_177.out
                                have hcz82_0 : wc.cell? ⟨gb177, 0, none⟩ = some (.int .i64 a1_0) := (blk_cell BK177.out 0).trans rfl
                                have hcz82_1 : wc.cell? ⟨gb177, 1, none⟩ = some (.bool a1_1) := (blk_cell BK177.out 1).trans rfl
                                have hfz82_0 := blk_frozen BK177.out 0
                                have hfz82_1 := blk_frozen BK177.out 1
                                have hcz83_0 : wc.cell? ⟨gb176, 0, none⟩ = some (.int .i64 a0_0) := (blk_cell BK176.out 0).trans rfl
                                have hcz83_1 : wc.cell? ⟨gb176, 1, none⟩ = some (.int .i64 a0_1) := (blk_cell BK176.out 1).trans rfl
                                have hcz83_2 : wc.cell? ⟨gb176, 2, none⟩ = some (.int .i64 a0_2) := (blk_cell BK176.out 2).trans rfl
                                have hcz83_3 : wc.cell? ⟨gb176, 3, none⟩ = some (.int .i64 a0_3) := (blk_cell BK176.out 3).trans rfl
                                have hcz83_4 : wc.cell? ⟨gb176, 4, none⟩ = some (.int .i64 a0_4) := (blk_cell BK176.out 4).trans rfl
                                have hcz83_5 : wc.cell? ⟨gb176, 5, none⟩ = some (.int .i64 a0_5) := (blk_cell BK176.out 5).trans rfl
                                have hcz83_6 : wc.cell? ⟨gb176, 6, none⟩ = some (.int .i64 a0_6) := (blk_cell BK176.out 6).trans rfl
                                have hcz83_7 : wc.cell? ⟨gb176, 7, none⟩ = some (.int .i64 a0_7) := (blk_cell BK176.out 7).trans rfl
                                have hcz83_8 : wc.cell? ⟨gb176, 8, none⟩ = some (.int .i64 a0_8) := (blk_cell BK176.out 8).trans rfl
                                have hcz83_9 : wc.cell? ⟨gb176, 9, none⟩ = some (.int .i64 a0_9) := (blk_cell BK176.out 9).trans rfl
                                have hcz83_10 : wc.cell? ⟨gb176, 10, none⟩ = some (.int .i64 a0_10) := (blk_cell BK176.out 10).trans rfl
                                have hcz83_11 : wc.cell? ⟨gb176, 11, none⟩ = some (.int .i64 a0_11) := (blk_cell BK176.out 11).trans rfl
                                have hfz83_0 := blk_frozen BK176.out 0
                                have hfz83_1 := blk_frozen BK176.out 1
                                have hfz83_2 := blk_frozen BK176.out 2
                                have hfz83_3 := blk_frozen BK176.out 3
                                have hfz83_4 := blk_frozen BK176.out 4
                                have hfz83_5 := blk_frozen BK176.out 5
                                have hfz83_6 := blk_frozen BK176.out 6
                                have hfz83_7 := blk_frozen BK176.out 7
                                have hfz83_8 := blk_frozen BK176.out 8
                                have hfz83_9 := blk_frozen BK176.out 9
                                have hfz83_10 := blk_frozen BK176.out 10
                                have hfz83_11 := blk_frozen BK176.out 11
                                go_wp2
                                refine wp_loop_rounds 4 ?_; rw [rounds_succ]
                                go_wp2
                                rw [rounds_succ]
                                go_wp2
                                rw [rounds_succ]
                                go_wp2
                                rw [rounds_succ]
                                go_wp2_with (first | ((with_reducible refine gate_callee (f := 16) rfl ?_); refine goesL_ (some 43) rfl rfl Try.func16 (by kernel_rfl) rfl #[.agg #[.int .i64 a1_0, .bool a1_1], .agg #[.int .i64 a0_0, .int .i64 a0_1, .int .i64 a0_2, .int .i64 a0_3, .int .i64 a0_4, .int .i64 a0_5, .int .i64 a0_6, .int .i64 a0_7, .int .i64 a0_8, .int .i64 a0_9, .int .i64 a0_10, .int .i64 a0_11], .int .i64 a2, .int .i64 a3, .bool false] rfl (by (try simp only [List.map_toArray, List.map_cons, List.map_nil]); first | done | rfl | (simp only [List.length_drop, List.length_take]; rfl)) ?_; (with_reducible refine (slew_Clock_Step.calls kj6 a1_0 a1_1 a0_0 a0_1 a0_2 a0_3 a0_4 a0_5 a0_6 a0_7 a0_8 a0_9 a0_10 a0_11 a2 a3 false t180 t181 _ A39.out).mono ?_); rintro e w84 ⟨rfl, hb⟩; refine ⟨_, rfl, ?_⟩; have n0_ := Aside0.mk (blk_below (g := gb176) (o := .cells #[.int .i64 a0_0, .int .i64 a0_1, .int .i64 a0_2, .int .i64 a0_3, .int .i64 a0_4, .int .i64 a0_5, .int .i64 a0_6, .int .i64 a0_7, .int .i64 a0_8, .int .i64 a0_9, .int .i64 a0_10, .int .i64 a0_11] 23 (0, 0)) (by (with_reducible repeat (first | refine blk_drewN ?_ _ | refine blk_drew ?_ | refine blk_alloc ?_ _)); exact BK176.out) hb); have n1_ := Aside0.mk (blk_below (g := gb177) (o := .cells #[.int .i64 a1_0, .bool a1_1] 25 (0, 0)) (by (with_reducible repeat (first | refine blk_drewN ?_ _ | refine blk_drew ?_ | refine blk_alloc ?_ _)); exact BK177.out) hb); have n2_ := Aside0.mk (below_step (by repeat (first | (with_reducible first | exact HB.out | apply below_alloc | apply pw_below_drewN | apply below_drew1 | refine below_set ?_ GE176.out | refine below_set ?_ GE177.out) | exact HB.out)) hb); clear BK176; clear BK177; clear HB; have BK176 := n0_; have BK177 := n1_; have HB := n2_; clear n0_ n1_ n2_; (try clear hb); (try clear hb2); (try clear hk); (try clear hi)) | ((with_reducible refine gate_dst (N := 11) rfl ?_); refine box_event ?hg (N := 11) ?hd (cs := #[.int .i64 0, .bool false]) (t := 25) ?hr ?_; (case hd => rfl); (case hg => rfl); (case hr => first | (go_simp; done) | (go_simp; rfl)); intro gb182 hg w85 hbox hb; have n0_ := Aside0.mk (blk_below (g := gb176) (o := .cells #[.int .i64 a0_0, .int .i64 a0_1, .int .i64 a0_2, .int .i64 a0_3, .int .i64 a0_4, .int .i64 a0_5, .int .i64 a0_6, .int .i64 a0_7, .int .i64 a0_8, .int .i64 a0_9, .int .i64 a0_10, .int .i64 a0_11] 23 (0, 0)) (by (with_reducible repeat (first | refine blk_drewN ?_ _ | refine blk_drew ?_ | refine blk_alloc ?_ _)); exact BK176.out) hb); have n1_ := Aside0.mk (blk_below (g := gb177) (o := .cells #[.int .i64 a1_0, .bool a1_1] 25 (0, 0)) (by (with_reducible repeat (first | refine blk_drewN ?_ _ | refine blk_drew ?_ | refine blk_alloc ?_ _)); exact BK177.out) hb); have n2_ := Aside0.mk (below_step (by repeat (first | (with_reducible first | exact HB.out | apply below_alloc | apply pw_below_drewN | apply below_drew1 | refine below_set ?_ GE176.out | refine below_set ?_ GE177.out) | exact HB.out)) hb); have n3_ := Aside0.mk (hbox); have n4_ := Aside0.mk ((by rw [hg]; exact (below_size (by repeat (first | (with_reducible first | exact HB.out | apply below_alloc | apply pw_below_drewN | apply below_drew1 | refine below_set ?_ GE176.out | refine below_set ?_ GE177.out) | exact HB.out))) : w.heap.size ≤ gb182)); have n5_ := Aside0.mk ((by rw [hg]; exact (below_size (by repeat (first | (with_reducible first | exact HB.out | apply below_alloc | apply pw_below_drewN | apply below_drew1 | refine below_set ?_ GE176.out | refine below_set ?_ GE177.out) | exact HB.out))) : w.heap.size ≤ gb182)); have n6_ := Aside0.mk ((by rw [hg]; exact Nat.ne_of_lt (blk_lt (g := gb176) (o := .cells #[.int .i64 a0_0, .int .i64 a0_1, .int .i64 a0_2, .int .i64 a0_3, .int .i64 a0_4, .int .i64 a0_5, .int .i64 a0_6, .int .i64 a0_7, .int .i64 a0_8, .int .i64 a0_9, .int .i64 a0_10, .int .i64 a0_11] 23 (0, 0)) (by (with_reducible repeat (first | refine blk_drewN ?_ _ | refine blk_drew ?_ | refine blk_alloc ?_ _)); exact BK176.out)) : gb176 ≠ gb182)); have n7_ := Aside0.mk ((by rw [hg]; exact Nat.ne_of_gt (blk_lt (g := gb176) (o := .cells #[.int .i64 a0_0, .int .i64 a0_1, .int .i64 a0_2, .int .i64 a0_3, .int .i64 a0_4, .int .i64 a0_5, .int .i64 a0_6, .int .i64 a0_7, .int .i64 a0_8, .int .i64 a0_9, .int .i64 a0_10, .int .i64 a0_11] 23 (0, 0)) (by (with_reducible repeat (first | refine blk_drewN ?_ _ | refine blk_drew ?_ | refine blk_alloc ?_ _)); exact BK176.out)) : gb182 ≠ gb176)); have n8_ := Aside0.mk ((by rw [hg]; exact Nat.ne_of_lt (blk_lt (g := gb177) (o := .cells #[.int .i64 a1_0, .bool a1_1] 25 (0, 0)) (by (with_reducible repeat (first | refine blk_drewN ?_ _ | refine blk_drew ?_ | refine blk_alloc ?_ _)); exact BK177.out)) : gb177 ≠ gb182)); have n9_ := Aside0.mk ((by rw [hg]; exact Nat.ne_of_gt (blk_lt (g := gb177) (o := .cells #[.int .i64 a1_0, .bool a1_1] 25 (0, 0)) (by (with_reducible repeat (first | refine blk_drewN ?_ _ | refine blk_drew ?_ | refine blk_alloc ?_ _)); exact BK177.out)) : gb182 ≠ gb177)); clear BK176; clear BK177; clear HB; have BK176 := n0_; have BK177 := n1_; have HB := n2_; have BK182 := n3_; have GW182 := n4_; have GE182 := n5_; have NB176_182 := n6_; have NB182_176 := n7_; have NB177_182 := n8_; have NB182_177 := n9_; clear n0_ n1_ n2_ n3_ n4_ n5_ n6_ n7_ n8_ n9_; clear hb hbox hg; have hnb86 := NB182_176.out; have hnc86 := NB176_182.out; have hnb87 := NB182_177.out; have hnc87 := NB177_182.out; have hcz88_0 : w85.cell? ⟨gb182, 0, none⟩ = some (.int .i64 0) := (blk_cell BK182.out 0).trans rfl; have hcz88_1 : w85.cell? ⟨gb182, 1, none⟩ = some (.bool false) := (blk_cell BK182.out 1).trans rfl; have hfz88_0 := blk_frozen BK182.out 0; have hfz88_1 := blk_frozen BK182.out 1; have hcz89_0 : w85.cell? ⟨gb177, 0, none⟩ = some (.int .i64 a1_0) := (blk_cell BK177.out 0).trans rfl; have hcz89_1 : w85.cell? ⟨gb177, 1, none⟩ = some (.bool a1_1) := (blk_cell BK177.out 1).trans rfl; have hfz89_0 := blk_frozen BK177.out 0; have hfz89_1 := blk_frozen BK177.out 1; have hcz90_0 : w85.cell? ⟨gb176, 0, none⟩ = some (.int .i64 a0_0) := (blk_cell BK176.out 0).trans rfl; have hcz90_1 : w85.cell? ⟨gb176, 1, none⟩ = some (.int .i64 a0_1) := (blk_cell BK176.out 1).trans rfl; have hcz90_2 : w85.cell? ⟨gb176, 2, none⟩ = some (.int .i64 a0_2) := (blk_cell BK176.out 2).trans rfl; have hcz90_3 : w85.cell? ⟨gb176, 3, none⟩ = some (.int .i64 a0_3) := (blk_cell BK176.out 3).trans rfl; have hcz90_4 : w85.cell? ⟨gb176, 4, none⟩ = some (.int .i64 a0_4) := (blk_cell BK176.out 4).trans rfl; have hcz90_5 : w85.cell? ⟨gb176, 5, none⟩ = some (.int .i64 a0_5) := (blk_cell BK176.out 5).trans rfl; have hcz90_6 : w85.cell? ⟨gb176, 6, none⟩ = some (.int .i64 a0_6) := (blk_cell BK176.out 6).trans rfl; have hcz90_7 : w85.cell? ⟨gb176, 7, none⟩ = some (.int .i64 a0_7) := (blk_cell BK176.out 7).trans rfl; have hcz90_8 : w85.cell? ⟨gb176, 8, none⟩ = some (.int .i64 a0_8) := (blk_cell BK176.out 8).trans rfl; have hcz90_9 : w85.cell? ⟨gb176, 9, none⟩ = some (.int .i64 a0_9) := (blk_cell BK176.out 9).trans rfl; have hcz90_10 : w85.cell? ⟨gb176, 10, none⟩ = some (.int .i64 a0_10) := (blk_cell BK176.out 10).trans rfl; have hcz90_11 : w85.cell? ⟨gb176, 11, none⟩ = some (.int .i64 a0_11) := (blk_cell BK176.out 11).trans rfl; have hfz90_0 := blk_frozen BK176.out 0; have hfz90_1 := blk_frozen BK176.out 1; have hfz90_2 := blk_frozen BK176.out 2; have hfz90_3 := blk_frozen BK176.out 3; have hfz90_4 := blk_frozen BK176.out 4; have hfz90_5 := blk_frozen BK176.out 5; have hfz90_6 := blk_frozen BK176.out 6; have hfz90_7 := blk_frozen BK176.out 7; have hfz90_8 := blk_frozen BK176.out 8; have hfz90_9 := blk_frozen BK176.out 9; have hfz90_10 := blk_frozen BK176.out 10; have hfz90_11 := blk_frozen BK176.out 11))
                                go_ret
                                exact ⟨by first | rfl | (simp [errW_none, errW_some] <;> rfl) | (simp [*, errW_none, errW_some] <;> rfl), by repeat (first | (with_reducible first | exact HB.out | apply below_alloc | apply pw_below_drewN | apply below_drew1 | refine below_set ?_ GE176.out | refine below_set ?_ GE177.out | refine below_set ?_ GE182.out) | exact HB.out)⟩
                              · rw [if_neg c80] at H
                                have c80b0 : decide (t180 ≤ (wrap64 (a1_0 + a2))) = false := decide_eq_false c80
                                clear c80
                                exact absurd ((Option.some.inj H).trans hT.out) (by decide)
                            · rw [if_neg c79] at H
                              have c79b0 : decide (a3 ≤ (wrap64 (a1_0 + a2))) = false := decide_eq_false c79
                              clear c79
                              exact absurd ((Option.some.inj H).trans hT.out) (by decide)
  · replace c6 := Bool.eq_false_iff.mpr c6
    subst c6
    have H1 : (some false) = some r := by rw [if_neg (show ¬ (false = true) by decide)] at H; exact H
    clear H
    have H := H1
    clear H1
    exact absurd ((Option.some.inj H).trans hT.out) (by decide)

end Go.Proofs.Ytopnmlambbimpaa.Q
