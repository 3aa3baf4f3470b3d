/- The calls of these Go functions answer what the Lean functions beside them answer; written by a program (wip/pr2.py, out of the print of the loaded program); under no condition but those that stand in the theorems. -/
import Derived.Test.YtopnmlambbimpaaQx0
import Derived.Test.YtopnmlambbimpaaQx2
import Derived.Test.YtopnmlambbimpaaQx7
import Derived.Test.YtopnmlambbimpaaQx12
import Derived.Test.YtopnmlambbimpaaQx13
import Derived.Test.YtopnmlambbimpaaQx14
import Derived.Test.YtopnmlambbimpaaQx19
namespace Go.Proofs.Ytopnmlambbimpaa.Q
open Go.RowKit Go.Proofs.YtopnmlambbimpaaW.PrintWords Go.Proofs.YtopnmlambbimpaaW.PrintLast Go.Proofs.YtopnmlambbimpaaW.PrintMore
attribute [local go_sem] max2_int min2_int max_two min_two max_three min_three max_four min_four   -- for this text's walks alone
set_option linter.unusedVariables false
set_option linter.unusedSimpArgs false

/-! ### clepsydralaw04_LimitClear: function 8 -/
def clepsydralaw04_LimitClear.j0 : Nat → Int → Int → Bool → Int → Int → Int → Int → Int → Int → Int → Int → Int → Int → Int → Int → Option (Bool)
  | 0, _, _, _, _, _, _, _, _, _, _, _, _, _, _, _ => none
  | k + 1, x1, x2, x29, x328000, x328001, x328002, x328003, x328004, x328005, x328006, x328007, x328008, x328009, x328010, x328011 => if x29 = true then (some true) else ((limit_Hop.f k x328000 x328001 x328002 x328003 x328004 x328005 x328006 x328007 x328008 x328009 x328010 x328011).bind fun t330 => (if t330 = (wrap64 (x328006 + (wrap64 (2 * x328004)))) then ((limit_Gate.f k x328000 x328001 x328002 x328003 x328004 x328005 x328006 x328007 x328008 x328009 x328010 x328011).bind fun t331 => (if t331 = (wrap64 (2 * (wrap64 ((wrap64 (2 * x328007)) + (wrap64 (x328006 + (wrap64 (2 * x328004)))))))) then ((limit_Width.f k x328000 x328001 x328002 x328003 x328004 x328005 x328006 x328007 x328008 x328009 x328010 x328011 x1 x2).bind fun t332 => ((sat_Clip.f k (wrap64 ((wrap64 ((wrap64 (2 * (wrap64 ((wrap64 (2 * x328007)) + (wrap64 (x328006 + (wrap64 (2 * x328004)))))))) + (wrap64 ((wrap64 (2 * x328004)) * x1)))) + (wrap64 ((wrap64 (x2 + 1)) * (wrap64 (x328006 + (wrap64 (2 * x328004))))))))).bind fun t333 => (if t332 = t333 then (if (wrap64 ((wrap64 ((wrap64 (2 * (wrap64 ((wrap64 (2 * x328007)) + (wrap64 (x328006 + (wrap64 (2 * x328004)))))))) + (wrap64 ((wrap64 (2 * x328004)) * x1)))) + (wrap64 ((wrap64 (x2 + 1)) * (wrap64 (x328006 + (wrap64 (2 * x328004)))))))) ≤ 2305843009213693952 then (some (decide ((wrap64 ((wrap64 ((wrap64 (2 * (wrap64 ((wrap64 (2 * x328007)) + (wrap64 (x328006 + (wrap64 (2 * x328004)))))))) + (wrap64 ((wrap64 (2 * x328004)) * x1)))) + (wrap64 ((wrap64 (x2 + 1)) * (wrap64 (x328006 + (wrap64 (2 * x328004)))))))) ≥ 0))) else (some false)) else (some false)))) else (some false))) else (some false)))
def clepsydralaw04_LimitClear.f (k : Nat) (a0_0 : Int) (a0_1 : Int) (a0_2 : Int) (a0_3 : Int) (a0_4 : Int) (a0_5 : Int) (a0_6 : Int) (a0_7 : Int) (a0_8 : Int) (a0_9 : Int) (a0_10 : Int) (a0_11 : Int) (a1 : Int) (a2 : Int) : Option (Bool) := (clepsydralaw04_alive.f k).bind fun t328 => (if t328 = true then ((limit_Check.f k a0_0 a0_1 a0_2 a0_3 a0_4 a0_5 a0_6 a0_7 a0_8 a0_9 a0_10 a0_11).bind fun t329 => (if t329 = 0 then (if a1 < 0 then (clepsydralaw04_LimitClear.j0 k a1 a2 true a0_0 a0_1 a0_2 a0_3 a0_4 a0_5 a0_6 a0_7 a0_8 a0_9 a0_10 a0_11) else (if a1 > 1048576 then (clepsydralaw04_LimitClear.j0 k a1 a2 true a0_0 a0_1 a0_2 a0_3 a0_4 a0_5 a0_6 a0_7 a0_8 a0_9 a0_10 a0_11) else (if a2 < 0 then (clepsydralaw04_LimitClear.j0 k a1 a2 true a0_0 a0_1 a0_2 a0_3 a0_4 a0_5 a0_6 a0_7 a0_8 a0_9 a0_10 a0_11) else (clepsydralaw04_LimitClear.j0 k a1 a2 (decide (a2 > 1048576)) a0_0 a0_1 a0_2 a0_3 a0_4 a0_5 a0_6 a0_7 a0_8 a0_9 a0_10 a0_11)))) else (clepsydralaw04_LimitClear.j0 k a1 a2 true a0_0 a0_1 a0_2 a0_3 a0_4 a0_5 a0_6 a0_7 a0_8 a0_9 a0_10 a0_11))) else (some false))
theorem clepsydralaw04_LimitClear.mono_l : ∀ k, (∀ y0 y1 y2 y3 y4 y5 y6 y7 y8 y9 y10 y11 y12 y13 y14, LeO (clepsydralaw04_LimitClear.j0 k y0 y1 y2 y3 y4 y5 y6 y7 y8 y9 y10 y11 y12 y13 y14) (clepsydralaw04_LimitClear.j0 (k + 1) y0 y1 y2 y3 y4 y5 y6 y7 y8 y9 y10 y11 y12 y13 y14))
  | 0 => fun _ _ _ _ _ _ _ _ _ _ _ _ _ _ _ r h => by simp [clepsydralaw04_LimitClear.j0] at h
  | k + 1 => by
    have ih0 := clepsydralaw04_LimitClear.mono_l k
    · intro y0 y1 y2 y3 y4 y5 y6 y7 y8 y9 y10 y11 y12 y13 y14
      unfold clepsydralaw04_LimitClear.j0
      repeat' first
      | (with_reducible exact ih0 _ _ _ _ _ _ _ _ _ _ _ _ _ _ _)
      | (with_reducible exact clepsydralaw04_alive.mono _)
      | (with_reducible exact limit_Check.mono _ _ _ _ _ _ _ _ _ _ _ _ _)
      | (with_reducible exact limit_Gate.mono _ _ _ _ _ _ _ _ _ _ _ _ _)
      | (with_reducible exact limit_Hop.mono _ _ _ _ _ _ _ _ _ _ _ _ _)
      | (with_reducible exact limit_Width.mono _ _ _ _ _ _ _ _ _ _ _ _ _ _ _)
      | (with_reducible exact sat_Clip.mono _ _)
      | (with_reducible exact LeO.refl _)
      | (with_reducible exact LeO.none _)
      | (with_reducible refine LeO.ite ?_ ?_)
      | (with_reducible refine LeO.bind ?_ (fun _ => ?_))
      | exact ih0 _ _ _ _ _ _ _ _ _ _ _ _ _ _ _
      | exact clepsydralaw04_alive.mono _
      | exact limit_Check.mono _ _ _ _ _ _ _ _ _ _ _ _ _
      | exact limit_Gate.mono _ _ _ _ _ _ _ _ _ _ _ _ _
      | exact limit_Hop.mono _ _ _ _ _ _ _ _ _ _ _ _ _
      | exact limit_Width.mono _ _ _ _ _ _ _ _ _ _ _ _ _ _ _
      | exact sat_Clip.mono _ _
      | exact LeO.none _
      | refine LeO.ite ?_ ?_
      | refine LeO.bind ?_ (fun _ => ?_)
theorem clepsydralaw04_LimitClear.mono : ∀ a0 a1 a2 a3 a4 a5 a6 a7 a8 a9 a10 a11 a12 a13 k, LeO (clepsydralaw04_LimitClear.f k a0 a1 a2 a3 a4 a5 a6 a7 a8 a9 a10 a11 a12 a13) (clepsydralaw04_LimitClear.f (k + 1) a0 a1 a2 a3 a4 a5 a6 a7 a8 a9 a10 a11 a12 a13) := by
  intro a0 a1 a2 a3 a4 a5 a6 a7 a8 a9 a10 a11 a12 a13 k
  have ih0 := clepsydralaw04_LimitClear.mono_l k
  unfold clepsydralaw04_LimitClear.f
  repeat' first
      | (with_reducible exact ih0 _ _ _ _ _ _ _ _ _ _ _ _ _ _ _)
      | (with_reducible exact clepsydralaw04_alive.mono _)
      | (with_reducible exact limit_Check.mono _ _ _ _ _ _ _ _ _ _ _ _ _)
      | (with_reducible exact limit_Gate.mono _ _ _ _ _ _ _ _ _ _ _ _ _)
      | (with_reducible exact limit_Hop.mono _ _ _ _ _ _ _ _ _ _ _ _ _)
      | (with_reducible exact limit_Width.mono _ _ _ _ _ _ _ _ _ _ _ _ _ _ _)
      | (with_reducible exact sat_Clip.mono _ _)
      | (with_reducible exact LeO.refl _)
      | (with_reducible exact LeO.none _)
      | (with_reducible refine LeO.ite ?_ ?_)
      | (with_reducible refine LeO.bind ?_ (fun _ => ?_))
      | exact ih0 _ _ _ _ _ _ _ _ _ _ _ _ _ _ _
      | exact clepsydralaw04_alive.mono _
      | exact limit_Check.mono _ _ _ _ _ _ _ _ _ _ _ _ _
      | exact limit_Gate.mono _ _ _ _ _ _ _ _ _ _ _ _ _
      | exact limit_Hop.mono _ _ _ _ _ _ _ _ _ _ _ _ _
      | exact limit_Width.mono _ _ _ _ _ _ _ _ _ _ _ _ _ _ _
      | exact sat_Clip.mono _ _
      | exact LeO.none _
      | refine LeO.ite ?_ ?_
      | refine LeO.bind ?_ (fun _ => ?_)
def clepsydralaw04_LimitClear.T7 : Bool × List (List Nat × List Nat) := (true, [([], []), ([0], [0]), ([], []), ([1, 2], [1, 2]), ([3, 1], [3]), ([4], [4]), ([5, 4, 4], [4, 5]), ([4], [4]), ([7, 4], [4, 7]), ([8, 4], [4, 8]), ([4], [4]), ([9, 10, 4], [4, 9, 10]), ([11, 4], [4, 11]), ([6, 12, 4], [4, 6, 12]), ([4, 13], [4, 13]), ([14, 6], [14]), ([15], [15]), ([15], [15]), ([15], [15]), ([16, 17, 18, 15, 15], [15, 16, 17, 18]), ([15], [15]), ([20, 19, 15], [15, 20]), ([19, 21, 15], [15, 19, 21]), ([15, 22], [15, 22]), ([23, 21], [23]), ([24], [24]), ([25, 24], [24, 25]), ([24, 26], [24, 26]), ([27, 24], [27]), ([28], [28]), ([29, 28], [28, 29]), ([28, 30], [28, 30]), ([31, 28, 0, 1, 2, 3, 4, 5, 6, 7, 8, 9, 10, 11, 12, 13, 14, 15, 16, 17, 18, 19, 20, 21, 22, 23, 24, 25, 26, 27, 28, 29, 30, 31], [31])])
def clepsydralaw04_LimitClear.B7 : List Nat := [0, 1, 0, 7, 15, 31, 63, 31, 159, 415, 31, 1951, 3999, 8191, 16383, 32767, 65535, 65535, 65535, 524287, 65535, 2097151, 4194303, 8388607, 16777215, 33554431, 67108863, 134217727, 268435455, 536870911, 1073741823, 2147483647, 4294967295]
theorem clepsydralaw04_LimitClear.tab7 : rtab .any (opsOf Try.f8 7) = clepsydralaw04_LimitClear.T7 := by kernel_rfl
theorem clepsydralaw04_LimitClear.bits7 : waitsOk clepsydralaw04_LimitClear.T7.2 clepsydralaw04_LimitClear.B7 = true := by kernel_rfl
set_option maxHeartbeats 8000000 in
set_option maxRecDepth 100000 in
theorem clepsydralaw04_LimitClear.calls (k : Nat) (a0_0 : Int) (a0_1 : Int) (a0_2 : Int) (a0_3 : Int) (a0_4 : Int) (a0_5 : Int) (a0_6 : Int) (a0_7 : Int) (a0_8 : Int) (a0_9 : Int) (a0_10 : Int) (a0_11 : Int) (a1 : Int) (a2 : Int) (r : Bool) (w : World) (hT : Aside0 (r = true)) (h : clepsydralaw04_LimitClear.f k a0_0 a0_1 a0_2 a0_3 a0_4 a0_5 a0_6 a0_7 a0_8 a0_9 a0_10 a0_11 a1 a2 = some r) :
    Calls Try.prog 8 #[.agg #[.int .i64 a0_0, .int .i64 a0_1, .int .i64 a0_2, .int .i64 a0_3, .int .i64 a0_4, .int .i64 a0_5, .int .i64 a0_6, .int .i64 a0_7, .int .i64 a0_8, .int .i64 a0_9, .int .i64 a0_10, .int .i64 a0_11], .int .i64 a1, .int .i64 a2] w fun e w' => e = .returned (.bool r) ∧ Below w.heap.size w w' := by
  have hu23 := Try.underlying23
  have HB := Aside0.mk (Below.refl w.heap.size w)
  have H : ((clepsydralaw04_alive.f k).bind fun t328 => (if t328 = true then ((limit_Check.f k a0_0 a0_1 a0_2 a0_3 a0_4 a0_5 a0_6 a0_7 a0_8 a0_9 a0_10 a0_11).bind fun t329 => (if t329 = 0 then (if a1 < 0 then (clepsydralaw04_LimitClear.j0 k a1 a2 true a0_0 a0_1 a0_2 a0_3 a0_4 a0_5 a0_6 a0_7 a0_8 a0_9 a0_10 a0_11) else (if a1 > 1048576 then (clepsydralaw04_LimitClear.j0 k a1 a2 true a0_0 a0_1 a0_2 a0_3 a0_4 a0_5 a0_6 a0_7 a0_8 a0_9 a0_10 a0_11) else (if a2 < 0 then (clepsydralaw04_LimitClear.j0 k a1 a2 true a0_0 a0_1 a0_2 a0_3 a0_4 a0_5 a0_6 a0_7 a0_8 a0_9 a0_10 a0_11) else (clepsydralaw04_LimitClear.j0 k a1 a2 (decide (a2 > 1048576)) a0_0 a0_1 a0_2 a0_3 a0_4 a0_5 a0_6 a0_7 a0_8 a0_9 a0_10 a0_11)))) else (clepsydralaw04_LimitClear.j0 k a1 a2 true a0_0 a0_1 a0_2 a0_3 a0_4 a0_5 a0_6 a0_7 a0_8 a0_9 a0_10 a0_11))) else (some false))) = some r := h
  clear h
  replace H := Option.bind_eq_some_iff.mp H
  obtain ⟨t328, A40, H⟩ := H
  replace H : (if t328 = true then ((limit_Check.f k a0_0 a0_1 a0_2 a0_3 a0_4 a0_5 a0_6 a0_7 a0_8 a0_9 a0_10 a0_11).bind fun t329 => (if t329 = 0 then (if a1 < 0 then (clepsydralaw04_LimitClear.j0 k a1 a2 true a0_0 a0_1 a0_2 a0_3 a0_4 a0_5 a0_6 a0_7 a0_8 a0_9 a0_10 a0_11) else (if a1 > 1048576 then (clepsydralaw04_LimitClear.j0 k a1 a2 true a0_0 a0_1 a0_2 a0_3 a0_4 a0_5 a0_6 a0_7 a0_8 a0_9 a0_10 a0_11) else (if a2 < 0 then (clepsydralaw04_LimitClear.j0 k a1 a2 true a0_0 a0_1 a0_2 a0_3 a0_4 a0_5 a0_6 a0_7 a0_8 a0_9 a0_10 a0_11) else (clepsydralaw04_LimitClear.j0 k a1 a2 (decide (a2 > 1048576)) a0_0 a0_1 a0_2 a0_3 a0_4 a0_5 a0_6 a0_7 a0_8 a0_9 a0_10 a0_11)))) else (clepsydralaw04_LimitClear.j0 k a1 a2 true a0_0 a0_1 a0_2 a0_3 a0_4 a0_5 a0_6 a0_7 a0_8 a0_9 a0_10 a0_11))) else (some false)) = some r := H
  have A4 := Aside0.mk A40
  clear A40
  by_cases c5 : t328 = true
  · subst c5
    have H1 : ((limit_Check.f k a0_0 a0_1 a0_2 a0_3 a0_4 a0_5 a0_6 a0_7 a0_8 a0_9 a0_10 a0_11).bind fun t329 => (if t329 = 0 then (if a1 < 0 then (clepsydralaw04_LimitClear.j0 k a1 a2 true a0_0 a0_1 a0_2 a0_3 a0_4 a0_5 a0_6 a0_7 a0_8 a0_9 a0_10 a0_11) else (if a1 > 1048576 then (clepsydralaw04_LimitClear.j0 k a1 a2 true a0_0 a0_1 a0_2 a0_3 a0_4 a0_5 a0_6 a0_7 a0_8 a0_9 a0_10 a0_11) else (if a2 < 0 then (clepsydralaw04_LimitClear.j0 k a1 a2 true a0_0 a0_1 a0_2 a0_3 a0_4 a0_5 a0_6 a0_7 a0_8 a0_9 a0_10 a0_11) else (clepsydralaw04_LimitClear.j0 k a1 a2 (decide (a2 > 1048576)) a0_0 a0_1 a0_2 a0_3 a0_4 a0_5 a0_6 a0_7 a0_8 a0_9 a0_10 a0_11)))) else (clepsydralaw04_LimitClear.j0 k a1 a2 true a0_0 a0_1 a0_2 a0_3 a0_4 a0_5 a0_6 a0_7 a0_8 a0_9 a0_10 a0_11))) = some r := by rw [if_pos rfl] at H; exact H
    clear H
    have H := H1
    clear H1
    have HC6 := Aside0.mk H
    clear H
    go_enter Try.func8, Try.ntmps8
    go_upto_region 3 with (first | ((with_reducible refine gate_dst (N := 3) rfl ?_); refine box_event ?hg (N := 3) ?hd (cs := #[.int .i64 a0_0, .int .i64 a0_1, .int .i64 a0_2, .int .i64 a0_3, .int .i64 a0_4, .int .i64 a0_5, .int .i64 a0_6, .int .i64 a0_7, .int .i64 a0_8, .int .i64 a0_9, .int .i64 a0_10, .int .i64 a0_11]) (t := 23) ?hr ?_; (case hd => rfl); (case hg => rfl); (case hr => first | (go_simp; done) | (go_simp; rfl)); intro gb327 hg w7 hbox hb; have n0_ := Aside0.mk (below_step (by repeat (first | (with_reducible first | exact HB.out | apply below_alloc | apply pw_below_drewN | apply below_drew1) | exact HB.out)) hb); have n1_ := Aside0.mk (hbox); have n2_ := Aside0.mk ((by rw [hg]; exact (below_size (by repeat (first | (with_reducible first | exact HB.out | apply below_alloc | apply pw_below_drewN | apply below_drew1) | exact HB.out))) : w.heap.size ≤ gb327)); have n3_ := Aside0.mk ((by rw [hg]; exact (below_size (by repeat (first | (with_reducible first | exact HB.out | apply below_alloc | apply pw_below_drewN | apply below_drew1) | exact HB.out))) : w.heap.size ≤ gb327)); clear HB; have HB := n0_; have BK327 := n1_; have GW327 := n2_; have GE327 := n3_; clear n0_ n1_ n2_ n3_; clear hb hbox hg) | ((with_reducible refine gate_callee (f := 19) rfl ?_); refine goesL_ (some 9) rfl rfl Try.func19 (by kernel_rfl) rfl #[] rfl (by (try simp only [List.map_toArray, List.map_cons, List.map_nil]); first | done | rfl | (simp only [List.length_drop, List.length_take]; rfl)) ?_; (with_reducible refine (clepsydralaw04_alive.calls k  true _ A4.out).mono ?_); rintro e w8 ⟨rfl, hb⟩; refine ⟨_, rfl, ?_⟩; have n0_ := Aside0.mk (blk_below (g := gb327) (o := .cells #[.int .i64 a0_0, .int .i64 a0_1, .int .i64 a0_2, .int .i64 a0_3, .int .i64 a0_4, .int .i64 a0_5, .int .i64 a0_6, .int .i64 a0_7, .int .i64 a0_8, .int .i64 a0_9, .int .i64 a0_10, .int .i64 a0_11] 23 (0, 0)) (by (with_reducible repeat (first | refine blk_drewN ?_ _ | refine blk_drew ?_ | refine blk_alloc ?_ _)); exact BK327.out) hb); have n1_ := Aside0.mk (below_step (by repeat (first | (with_reducible first | exact HB.out | apply below_alloc | apply pw_below_drewN | apply below_drew1 | refine below_set ?_ GE327.out) | exact HB.out)) hb); clear BK327; clear HB; have BK327 := n0_; have HB := n1_; clear n0_ n1_; (try clear hb); (try clear hb2); (try clear hk); (try clear hi)))
    (try simp only [Act.put, List.setIfInBounds_toArray, List.set_cons_zero, List.set_cons_succ])
    go_cut [29] (fun v29 wc => ∃ (kq : Nat) (x29_5 : Bool), v29 = .bool x29_5 ∧ Aside0 (clepsydralaw04_LimitClear.j0 kq a1 a2 x29_5 a0_0 a0_1 a0_2 a0_3 a0_4 a0_5 a0_6 a0_7 a0_8 a0_9 a0_10 a0_11 = some r) ∧ Aside0 (kq ≤ k) ∧ Aside0 (wc.heap[gb327]? = some (.cells #[.int .i64 a0_0, .int .i64 a0_1, .int .i64 a0_2, .int .i64 a0_3, .int .i64 a0_4, .int .i64 a0_5, .int .i64 a0_6, .int .i64 a0_7, .int .i64 a0_8, .int .i64 a0_9, .int .i64 a0_10, .int .i64 a0_11] 23 (0, 0))) ∧ Aside0 (Below w.heap.size w wc))
    case first =>
      have H := HC6.out
      clear HC6
      replace H := Option.bind_eq_some_iff.mp H
      obtain ⟨t329, A90, H⟩ := H
      replace H : (if t329 = 0 then (if a1 < 0 then (clepsydralaw04_LimitClear.j0 k a1 a2 true a0_0 a0_1 a0_2 a0_3 a0_4 a0_5 a0_6 a0_7 a0_8 a0_9 a0_10 a0_11) else (if a1 > 1048576 then (clepsydralaw04_LimitClear.j0 k a1 a2 true a0_0 a0_1 a0_2 a0_3 a0_4 a0_5 a0_6 a0_7 a0_8 a0_9 a0_10 a0_11) else (if a2 < 0 then (clepsydralaw04_LimitClear.j0 k a1 a2 true a0_0 a0_1 a0_2 a0_3 a0_4 a0_5 a0_6 a0_7 a0_8 a0_9 a0_10 a0_11) else (clepsydralaw04_LimitClear.j0 k a1 a2 (decide (a2 > 1048576)) a0_0 a0_1 a0_2 a0_3 a0_4 a0_5 a0_6 a0_7 a0_8 a0_9 a0_10 a0_11)))) else (clepsydralaw04_LimitClear.j0 k a1 a2 true a0_0 a0_1 a0_2 a0_3 a0_4 a0_5 a0_6 a0_7 a0_8 a0_9 a0_10 a0_11)) = some r := H
      have A9 := Aside0.mk A90
      clear A90
      by_cases c10 : t329 = 0
      · rw [if_pos c10] at H
        have c10b0 : (t329 == 0) = true := beq_iff_eq.mpr c10
        have c10b1 : (t329 != 0) = false := bne_eq_false_iff_eq.mpr c10
        clear c10
        (first | rw [c10b0] | (simp only [i64_w, i32_w]; rw [c10b0]) | skip)
        by_cases c11 : a1 < 0
        · rw [if_pos c11] at H
          have c11b0 : decide (a1 < 0) = true := decide_eq_true c11
          clear c11
          have H' := Aside0.mk H
          clear H
          have hcz12_0 : w8.cell? ⟨gb327, 0, none⟩ = some (.int .i64 a0_0) := (blk_cell BK327.out 0).trans rfl
          have hcz12_1 : w8.cell? ⟨gb327, 1, none⟩ = some (.int .i64 a0_1) := (blk_cell BK327.out 1).trans rfl
          have hcz12_2 : w8.cell? ⟨gb327, 2, none⟩ = some (.int .i64 a0_2) := (blk_cell BK327.out 2).trans rfl
          have hcz12_3 : w8.cell? ⟨gb327, 3, none⟩ = some (.int .i64 a0_3) := (blk_cell BK327.out 3).trans rfl
          have hcz12_4 : w8.cell? ⟨gb327, 4, none⟩ = some (.int .i64 a0_4) := (blk_cell BK327.out 4).trans rfl
          have hcz12_5 : w8.cell? ⟨gb327, 5, none⟩ = some (.int .i64 a0_5) := (blk_cell BK327.out 5).trans rfl
          have hcz12_6 : w8.cell? ⟨gb327, 6, none⟩ = some (.int .i64 a0_6) := (blk_cell BK327.out 6).trans rfl
          have hcz12_7 : w8.cell? ⟨gb327, 7, none⟩ = some (.int .i64 a0_7) := (blk_cell BK327.out 7).trans rfl
          have hcz12_8 : w8.cell? ⟨gb327, 8, none⟩ = some (.int .i64 a0_8) := (blk_cell BK327.out 8).trans rfl
          have hcz12_9 : w8.cell? ⟨gb327, 9, none⟩ = some (.int .i64 a0_9) := (blk_cell BK327.out 9).trans rfl
          have hcz12_10 : w8.cell? ⟨gb327, 10, none⟩ = some (.int .i64 a0_10) := (blk_cell BK327.out 10).trans rfl
          have hcz12_11 : w8.cell? ⟨gb327, 11, none⟩ = some (.int .i64 a0_11) := (blk_cell BK327.out 11).trans rfl
          have hfz12_0 := blk_frozen BK327.out 0
          have hfz12_1 := blk_frozen BK327.out 1
          have hfz12_2 := blk_frozen BK327.out 2
          have hfz12_3 := blk_frozen BK327.out 3
          have hfz12_4 := blk_frozen BK327.out 4
          have hfz12_5 := blk_frozen BK327.out 5
          have hfz12_6 := blk_frozen BK327.out 6
          have hfz12_7 := blk_frozen BK327.out 7
          have hfz12_8 := blk_frozen BK327.out 8
          have hfz12_9 := blk_frozen BK327.out 9
          have hfz12_10 := blk_frozen BK327.out 10
          have hfz12_11 := blk_frozen BK327.out 11
          go_wp2_with (first | ((with_reducible refine gate_callee (f := 18) rfl ?_); refine goesL_ (some 12) rfl rfl Try.func18 (by kernel_rfl) rfl #[.agg #[.int .i64 a0_0, .int .i64 a0_1, .int .i64 a0_2, .int .i64 a0_3, .int .i64 a0_4, .int .i64 a0_5, .int .i64 a0_6, .int .i64 a0_7, .int .i64 a0_8, .int .i64 a0_9, .int .i64 a0_10, .int .i64 a0_11]] rfl (by (try simp only [List.map_toArray, List.map_cons, List.map_nil]); first | done | rfl | (simp only [List.length_drop, List.length_take]; rfl)) ?_; (with_reducible refine (limit_Check.calls k a0_0 a0_1 a0_2 a0_3 a0_4 a0_5 a0_6 a0_7 a0_8 a0_9 a0_10 a0_11 t329 _ A9.out).mono ?_); rintro e w13 ⟨rfl, hb⟩; refine ⟨_, rfl, ?_⟩; have n0_ := Aside0.mk (blk_below (g := gb327) (o := .cells #[.int .i64 a0_0, .int .i64 a0_1, .int .i64 a0_2, .int .i64 a0_3, .int .i64 a0_4, .int .i64 a0_5, .int .i64 a0_6, .int .i64 a0_7, .int .i64 a0_8, .int .i64 a0_9, .int .i64 a0_10, .int .i64 a0_11] 23 (0, 0)) (by (with_reducible repeat (first | refine blk_drewN ?_ _ | refine blk_drew ?_ | refine blk_alloc ?_ _)); exact BK327.out) hb); have n1_ := Aside0.mk (below_step (by repeat (first | (with_reducible first | exact HB.out | apply below_alloc | apply pw_below_drewN | apply below_drew1 | refine below_set ?_ GE327.out) | exact HB.out)) hb); clear BK327; clear HB; have BK327 := n0_; have HB := n1_; clear n0_ n1_; (try clear hb); (try clear hb2); (try clear hk); (try clear hi)))
          go_meet
          case rel => exact ⟨_, (true), (by first | rfl | (simp; done) | (simp [*]; done) | (simp [Int.tdiv_eq_ediv_of_nonneg]; done) | (simp [Go.RowKit.wrap64]; done) | (simp [*, Go.RowKit.wrap64]; done)), H', ⟨by first | omega | exact Nat.le_refl _⟩, ⟨by (with_reducible repeat (first | refine blk_drewN ?_ _ | refine blk_drew ?_ | refine blk_alloc ?_ _)); exact BK327.out⟩, ⟨by repeat (first | (with_reducible first | exact HB.out | apply below_alloc | apply pw_below_drewN | apply below_drew1 | refine below_set ?_ GE327.out) | exact HB.out)⟩⟩
        · rw [if_neg c11] at H
          have c11b0 : decide (a1 < 0) = false := decide_eq_false c11
          clear c11
          by_cases c14 : a1 > 1048576
          · rw [if_pos c14] at H
            have c14b0 : decide (1048576 < a1) = true := decide_eq_true c14
            clear c14
            have H' := Aside0.mk H
            clear H
            have hcz15_0 : w8.cell? ⟨gb327, 0, none⟩ = some (.int .i64 a0_0) := (blk_cell BK327.out 0).trans rfl
            have hcz15_1 : w8.cell? ⟨gb327, 1, none⟩ = some (.int .i64 a0_1) := (blk_cell BK327.out 1).trans rfl
            have hcz15_2 : w8.cell? ⟨gb327, 2, none⟩ = some (.int .i64 a0_2) := (blk_cell BK327.out 2).trans rfl
            have hcz15_3 : w8.cell? ⟨gb327, 3, none⟩ = some (.int .i64 a0_3) := (blk_cell BK327.out 3).trans rfl
            have hcz15_4 : w8.cell? ⟨gb327, 4, none⟩ = some (.int .i64 a0_4) := (blk_cell BK327.out 4).trans rfl
            have hcz15_5 : w8.cell? ⟨gb327, 5, none⟩ = some (.int .i64 a0_5) := (blk_cell BK327.out 5).trans rfl
            have hcz15_6 : w8.cell? ⟨gb327, 6, none⟩ = some (.int .i64 a0_6) := (blk_cell BK327.out 6).trans rfl
            have hcz15_7 : w8.cell? ⟨gb327, 7, none⟩ = some (.int .i64 a0_7) := (blk_cell BK327.out 7).trans rfl
            have hcz15_8 : w8.cell? ⟨gb327, 8, none⟩ = some (.int .i64 a0_8) := (blk_cell BK327.out 8).trans rfl
            have hcz15_9 : w8.cell? ⟨gb327, 9, none⟩ = some (.int .i64 a0_9) := (blk_cell BK327.out 9).trans rfl
            have hcz15_10 : w8.cell? ⟨gb327, 10, none⟩ = some (.int .i64 a0_10) := (blk_cell BK327.out 10).trans rfl
            have hcz15_11 : w8.cell? ⟨gb327, 11, none⟩ = some (.int .i64 a0_11) := (blk_cell BK327.out 11).trans rfl
            have hfz15_0 := blk_frozen BK327.out 0
            have hfz15_1 := blk_frozen BK327.out 1
            have hfz15_2 := blk_frozen BK327.out 2
            have hfz15_3 := blk_frozen BK327.out 3
            have hfz15_4 := blk_frozen BK327.out 4
            have hfz15_5 := blk_frozen BK327.out 5
            have hfz15_6 := blk_frozen BK327.out 6
            have hfz15_7 := blk_frozen BK327.out 7
            have hfz15_8 := blk_frozen BK327.out 8
            have hfz15_9 := blk_frozen BK327.out 9
            have hfz15_10 := blk_frozen BK327.out 10
            have hfz15_11 := blk_frozen BK327.out 11
            go_wp2_with (first | ((with_reducible refine gate_callee (f := 18) rfl ?_); refine goesL_ (some 12) rfl rfl Try.func18 (by kernel_rfl) rfl #[.agg #[.int .i64 a0_0, .int .i64 a0_1, .int .i64 a0_2, .int .i64 a0_3, .int .i64 a0_4, .int .i64 a0_5, .int .i64 a0_6, .int .i64 a0_7, .int .i64 a0_8, .int .i64 a0_9, .int .i64 a0_10, .int .i64 a0_11]] rfl (by (try simp only [List.map_toArray, List.map_cons, List.map_nil]); first | done | rfl | (simp only [List.length_drop, List.length_take]; rfl)) ?_; (with_reducible refine (limit_Check.calls k a0_0 a0_1 a0_2 a0_3 a0_4 a0_5 a0_6 a0_7 a0_8 a0_9 a0_10 a0_11 t329 _ A9.out).mono ?_); rintro e w16 ⟨rfl, hb⟩; refine ⟨_, rfl, ?_⟩; have n0_ := Aside0.mk (blk_below (g := gb327) (o := .cells #[.int .i64 a0_0, .int .i64 a0_1, .int .i64 a0_2, .int .i64 a0_3, .int .i64 a0_4, .int .i64 a0_5, .int .i64 a0_6, .int .i64 a0_7, .int .i64 a0_8, .int .i64 a0_9, .int .i64 a0_10, .int .i64 a0_11] 23 (0, 0)) (by (with_reducible repeat (first | refine blk_drewN ?_ _ | refine blk_drew ?_ | refine blk_alloc ?_ _)); exact BK327.out) hb); have n1_ := Aside0.mk (below_step (by repeat (first | (with_reducible first | exact HB.out | apply below_alloc | apply pw_below_drewN | apply below_drew1 | refine below_set ?_ GE327.out) | exact HB.out)) hb); clear BK327; clear HB; have BK327 := n0_; have HB := n1_; clear n0_ n1_; (try clear hb); (try clear hb2); (try clear hk); (try clear hi)))
            go_meet
            case rel => exact ⟨_, (true), (by first | rfl | (simp; done) | (simp [*]; done) | (simp [Int.tdiv_eq_ediv_of_nonneg]; done) | (simp [Go.RowKit.wrap64]; done) | (simp [*, Go.RowKit.wrap64]; done)), H', ⟨by first | omega | exact Nat.le_refl _⟩, ⟨by (with_reducible repeat (first | refine blk_drewN ?_ _ | refine blk_drew ?_ | refine blk_alloc ?_ _)); exact BK327.out⟩, ⟨by repeat (first | (with_reducible first | exact HB.out | apply below_alloc | apply pw_below_drewN | apply below_drew1 | refine below_set ?_ GE327.out) | exact HB.out)⟩⟩
          · rw [if_neg c14] at H
            have c14b0 : decide (1048576 < a1) = false := decide_eq_false c14
            clear c14
            by_cases c17 : a2 < 0
            · rw [if_pos c17] at H
              have c17b0 : decide (a2 < 0) = true := decide_eq_true c17
              clear c17
              have H' := Aside0.mk H
              clear H
              have hcz18_0 : w8.cell? ⟨gb327, 0, none⟩ = some (.int .i64 a0_0) := (blk_cell BK327.out 0).trans rfl
              have hcz18_1 : w8.cell? ⟨gb327, 1, none⟩ = some (.int .i64 a0_1) := (blk_cell BK327.out 1).trans rfl
              have hcz18_2 : w8.cell? ⟨gb327, 2, none⟩ = some (.int .i64 a0_2) := (blk_cell BK327.out 2).trans rfl
              have hcz18_3 : w8.cell? ⟨gb327, 3, none⟩ = some (.int .i64 a0_3) := (blk_cell BK327.out 3).trans rfl
              have hcz18_4 : w8.cell? ⟨gb327, 4, none⟩ = some (.int .i64 a0_4) := (blk_cell BK327.out 4).trans rfl
              have hcz18_5 : w8.cell? ⟨gb327, 5, none⟩ = some (.int .i64 a0_5) := (blk_cell BK327.out 5).trans rfl
              have hcz18_6 : w8.cell? ⟨gb327, 6, none⟩ = some (.int .i64 a0_6) := (blk_cell BK327.out 6).trans rfl
              have hcz18_7 : w8.cell? ⟨gb327, 7, none⟩ = some (.int .i64 a0_7) := (blk_cell BK327.out 7).trans rfl
              have hcz18_8 : w8.cell? ⟨gb327, 8, none⟩ = some (.int .i64 a0_8) := (blk_cell BK327.out 8).trans rfl
              have hcz18_9 : w8.cell? ⟨gb327, 9, none⟩ = some (.int .i64 a0_9) := (blk_cell BK327.out 9).trans rfl
              have hcz18_10 : w8.cell? ⟨gb327, 10, none⟩ = some (.int .i64 a0_10) := (blk_cell BK327.out 10).trans rfl
              have hcz18_11 : w8.cell? ⟨gb327, 11, none⟩ = some (.int .i64 a0_11) := (blk_cell BK327.out 11).trans rfl
              have hfz18_0 := blk_frozen BK327.out 0
              have hfz18_1 := blk_frozen BK327.out 1
              have hfz18_2 := blk_frozen BK327.out 2
              have hfz18_3 := blk_frozen BK327.out 3
              have hfz18_4 := blk_frozen BK327.out 4
              have hfz18_5 := blk_frozen BK327.out 5
              have hfz18_6 := blk_frozen BK327.out 6
              have hfz18_7 := blk_frozen BK327.out 7
              have hfz18_8 := blk_frozen BK327.out 8
              have hfz18_9 := blk_frozen BK327.out 9
              have hfz18_10 := blk_frozen BK327.out 10
              have hfz18_11 := blk_frozen BK327.out 11
              go_wp2_with (first | ((with_reducible refine gate_callee (f := 18) rfl ?_); refine goesL_ (some 12) rfl rfl Try.func18 (by kernel_rfl) rfl #[.agg #[.int .i64 a0_0, .int .i64 a0_1, .int .i64 a0_2, .int .i64 a0_3, .int .i64 a0_4, .int .i64 a0_5, .int .i64 a0_6, .int .i64 a0_7, .int .i64 a0_8, .int .i64 a0_9, .int .i64 a0_10, .int .i64 a0_11]] rfl (by (try simp only [List.map_toArray, List.map_cons, List.map_nil]); first | done | rfl | (simp only [List.length_drop, List.length_take]; rfl)) ?_; (with_reducible refine (limit_Check.calls k a0_0 a0_1 a0_2 a0_3 a0_4 a0_5 a0_6 a0_7 a0_8 a0_9 a0_10 a0_11 t329 _ A9.out).mono ?_); rintro e w19 ⟨rfl, hb⟩; refine ⟨_, rfl, ?_⟩; have n0_ := Aside0.mk (blk_below (g := gb327) (o := .cells #[.int .i64 a0_0, .int .i64 a0_1, .int .i64 a0_2, .int .i64 a0_3, .int .i64 a0_4, .int .i64 a0_5, .int .i64 a0_6, .int .i64 a0_7, .int .i64 a0_8, .int .i64 a0_9, .int .i64 a0_10, .int .i64 a0_11] 23 (0, 0)) (by (with_reducible repeat (first | refine blk_drewN ?_ _ | refine blk_drew ?_ | refine blk_alloc ?_ _)); exact BK327.out) hb); have n1_ := Aside0.mk (below_step (by repeat (first | (with_reducible first | exact HB.out | apply below_alloc | apply pw_below_drewN | apply below_drew1 | refine below_set ?_ GE327.out) | exact HB.out)) hb); clear BK327; clear HB; have BK327 := n0_; have HB := n1_; clear n0_ n1_; (try clear hb); (try clear hb2); (try clear hk); (try clear hi)))
              go_meet
              case rel => exact ⟨_, (true), (by first | rfl | (simp; done) | (simp [*]; done) | (simp [Int.tdiv_eq_ediv_of_nonneg]; done) | (simp [Go.RowKit.wrap64]; done) | (simp [*, Go.RowKit.wrap64]; done)), H', ⟨by first | omega | exact Nat.le_refl _⟩, ⟨by (with_reducible repeat (first | refine blk_drewN ?_ _ | refine blk_drew ?_ | refine blk_alloc ?_ _)); exact BK327.out⟩, ⟨by repeat (first | (with_reducible first | exact HB.out | apply below_alloc | apply pw_below_drewN | apply below_drew1 | refine below_set ?_ GE327.out) | exact HB.out)⟩⟩
            · rw [if_neg c17] at H
              have c17b0 : decide (a2 < 0) = false := decide_eq_false c17
              clear c17
              have H' := Aside0.mk H
              clear H
              have hcz20_0 : w8.cell? ⟨gb327, 0, none⟩ = some (.int .i64 a0_0) := (blk_cell BK327.out 0).trans rfl
              have hcz20_1 : w8.cell? ⟨gb327, 1, none⟩ = some (.int .i64 a0_1) := (blk_cell BK327.out 1).trans rfl
              have hcz20_2 : w8.cell? ⟨gb327, 2, none⟩ = some (.int .i64 a0_2) := (blk_cell BK327.out 2).trans rfl
              have hcz20_3 : w8.cell? ⟨gb327, 3, none⟩ = some (.int .i64 a0_3) := (blk_cell BK327.out 3).trans rfl
              have hcz20_4 : w8.cell? ⟨gb327, 4, none⟩ = some (.int .i64 a0_4) := (blk_cell BK327.out 4).trans rfl
              have hcz20_5 : w8.cell? ⟨gb327, 5, none⟩ = some (.int .i64 a0_5) := (blk_cell BK327.out 5).trans rfl
              have hcz20_6 : w8.cell? ⟨gb327, 6, none⟩ = some (.int .i64 a0_6) := (blk_cell BK327.out 6).trans rfl
              have hcz20_7 : w8.cell? ⟨gb327, 7, none⟩ = some (.int .i64 a0_7) := (blk_cell BK327.out 7).trans rfl
              have hcz20_8 : w8.cell? ⟨gb327, 8, none⟩ = some (.int .i64 a0_8) := (blk_cell BK327.out 8).trans rfl
              have hcz20_9 : w8.cell? ⟨gb327, 9, none⟩ = some (.int .i64 a0_9) := (blk_cell BK327.out 9).trans rfl
              have hcz20_10 : w8.cell? ⟨gb327, 10, none⟩ = some (.int .i64 a0_10) := (blk_cell BK327.out 10).trans rfl
              have hcz20_11 : w8.cell? ⟨gb327, 11, none⟩ = some (.int .i64 a0_11) := (blk_cell BK327.out 11).trans rfl
              have hfz20_0 := blk_frozen BK327.out 0
              have hfz20_1 := blk_frozen BK327.out 1
              have hfz20_2 := blk_frozen BK327.out 2
              have hfz20_3 := blk_frozen BK327.out 3
              have hfz20_4 := blk_frozen BK327.out 4
              have hfz20_5 := blk_frozen BK327.out 5
              have hfz20_6 := blk_frozen BK327.out 6
              have hfz20_7 := blk_frozen BK327.out 7
              have hfz20_8 := blk_frozen BK327.out 8
              have hfz20_9 := blk_frozen BK327.out 9
              have hfz20_10 := blk_frozen BK327.out 10
              have hfz20_11 := blk_frozen BK327.out 11
              go_wp2_with (first | ((with_reducible refine gate_callee (f := 18) rfl ?_); refine goesL_ (some 12) rfl rfl Try.func18 (by kernel_rfl) rfl #[.agg #[.int .i64 a0_0, .int .i64 a0_1, .int .i64 a0_2, .int .i64 a0_3, .int .i64 a0_4, .int .i64 a0_5, .int .i64 a0_6, .int .i64 a0_7, .int .i64 a0_8, .int .i64 a0_9, .int .i64 a0_10, .int .i64 a0_11]] rfl (by (try simp only [List.map_toArray, List.map_cons, List.map_nil]); first | done | rfl | (simp only [List.length_drop, List.length_take]; rfl)) ?_; (with_reducible refine (limit_Check.calls k a0_0 a0_1 a0_2 a0_3 a0_4 a0_5 a0_6 a0_7 a0_8 a0_9 a0_10 a0_11 t329 _ A9.out).mono ?_); rintro e w21 ⟨rfl, hb⟩; refine ⟨_, rfl, ?_⟩; have n0_ := Aside0.mk (blk_below (g := gb327) (o := .cells #[.int .i64 a0_0, .int .i64 a0_1, .int .i64 a0_2, .int .i64 a0_3, .int .i64 a0_4, .int .i64 a0_5, .int .i64 a0_6, .int .i64 a0_7, .int .i64 a0_8, .int .i64 a0_9, .int .i64 a0_10, .int .i64 a0_11] 23 (0, 0)) (by (with_reducible repeat (first | refine blk_drewN ?_ _ | refine blk_drew ?_ | refine blk_alloc ?_ _)); exact BK327.out) hb); have n1_ := Aside0.mk (below_step (by repeat (first | (with_reducible first | exact HB.out | apply below_alloc | apply pw_below_drewN | apply below_drew1 | refine below_set ?_ GE327.out) | exact HB.out)) hb); clear BK327; clear HB; have BK327 := n0_; have HB := n1_; clear n0_ n1_; (try clear hb); (try clear hb2); (try clear hk); (try clear hi)))
              go_meet
              case rel => exact ⟨_, (decide (a2 > 1048576)), (by first | rfl | (simp; done) | (simp [*]; done) | (simp [Int.tdiv_eq_ediv_of_nonneg]; done) | (simp [Go.RowKit.wrap64]; done) | (simp [*, Go.RowKit.wrap64]; done)), H', ⟨by first | omega | exact Nat.le_refl _⟩, ⟨by (with_reducible repeat (first | refine blk_drewN ?_ _ | refine blk_drew ?_ | refine blk_alloc ?_ _)); exact BK327.out⟩, ⟨by repeat (first | (with_reducible first | exact HB.out | apply below_alloc | apply pw_below_drewN | apply below_drew1 | refine below_set ?_ GE327.out) | exact HB.out)⟩⟩
      · rw [if_neg c10] at H
        have c10b0 : (t329 == 0) = false := beq_eq_false_iff_ne.mpr c10
        have c10b1 : (t329 != 0) = true := bne_iff_ne.mpr c10
        (first | rw [c10b0] | (simp only [i64_w, i32_w]; rw [c10b0]) | skip)
        have H' := Aside0.mk H
        clear H
        have hcz22_0 : w8.cell? ⟨gb327, 0, none⟩ = some (.int .i64 a0_0) := (blk_cell BK327.out 0).trans rfl
        have hcz22_1 : w8.cell? ⟨gb327, 1, none⟩ = some (.int .i64 a0_1) := (blk_cell BK327.out 1).trans rfl
        have hcz22_2 : w8.cell? ⟨gb327, 2, none⟩ = some (.int .i64 a0_2) := (blk_cell BK327.out 2).trans rfl
        have hcz22_3 : w8.cell? ⟨gb327, 3, none⟩ = some (.int .i64 a0_3) := (blk_cell BK327.out 3).trans rfl
        have hcz22_4 : w8.cell? ⟨gb327, 4, none⟩ = some (.int .i64 a0_4) := (blk_cell BK327.out 4).trans rfl
        have hcz22_5 : w8.cell? ⟨gb327, 5, none⟩ = some (.int .i64 a0_5) := (blk_cell BK327.out 5).trans rfl
        have hcz22_6 : w8.cell? ⟨gb327, 6, none⟩ = some (.int .i64 a0_6) := (blk_cell BK327.out 6).trans rfl
        have hcz22_7 : w8.cell? ⟨gb327, 7, none⟩ = some (.int .i64 a0_7) := (blk_cell BK327.out 7).trans rfl
        have hcz22_8 : w8.cell? ⟨gb327, 8, none⟩ = some (.int .i64 a0_8) := (blk_cell BK327.out 8).trans rfl
        have hcz22_9 : w8.cell? ⟨gb327, 9, none⟩ = some (.int .i64 a0_9) := (blk_cell BK327.out 9).trans rfl
        have hcz22_10 : w8.cell? ⟨gb327, 10, none⟩ = some (.int .i64 a0_10) := (blk_cell BK327.out 10).trans rfl
        have hcz22_11 : w8.cell? ⟨gb327, 11, none⟩ = some (.int .i64 a0_11) := (blk_cell BK327.out 11).trans rfl
        have hfz22_0 := blk_frozen BK327.out 0
        have hfz22_1 := blk_frozen BK327.out 1
        have hfz22_2 := blk_frozen BK327.out 2
        have hfz22_3 := blk_frozen BK327.out 3
        have hfz22_4 := blk_frozen BK327.out 4
        have hfz22_5 := blk_frozen BK327.out 5
        have hfz22_6 := blk_frozen BK327.out 6
        have hfz22_7 := blk_frozen BK327.out 7
        have hfz22_8 := blk_frozen BK327.out 8
        have hfz22_9 := blk_frozen BK327.out 9
        have hfz22_10 := blk_frozen BK327.out 10
        have hfz22_11 := blk_frozen BK327.out 11
        go_wp2_with (first | ((with_reducible refine gate_callee (f := 18) rfl ?_); refine goesL_ (some 12) rfl rfl Try.func18 (by kernel_rfl) rfl #[.agg #[.int .i64 a0_0, .int .i64 a0_1, .int .i64 a0_2, .int .i64 a0_3, .int .i64 a0_4, .int .i64 a0_5, .int .i64 a0_6, .int .i64 a0_7, .int .i64 a0_8, .int .i64 a0_9, .int .i64 a0_10, .int .i64 a0_11]] rfl (by (try simp only [List.map_toArray, List.map_cons, List.map_nil]); first | done | rfl | (simp only [List.length_drop, List.length_take]; rfl)) ?_; (with_reducible refine (limit_Check.calls k a0_0 a0_1 a0_2 a0_3 a0_4 a0_5 a0_6 a0_7 a0_8 a0_9 a0_10 a0_11 t329 _ A9.out).mono ?_); rintro e w23 ⟨rfl, hb⟩; refine ⟨_, rfl, ?_⟩; have n0_ := Aside0.mk (blk_below (g := gb327) (o := .cells #[.int .i64 a0_0, .int .i64 a0_1, .int .i64 a0_2, .int .i64 a0_3, .int .i64 a0_4, .int .i64 a0_5, .int .i64 a0_6, .int .i64 a0_7, .int .i64 a0_8, .int .i64 a0_9, .int .i64 a0_10, .int .i64 a0_11] 23 (0, 0)) (by (with_reducible repeat (first | refine blk_drewN ?_ _ | refine blk_drew ?_ | refine blk_alloc ?_ _)); exact BK327.out) hb); have n1_ := Aside0.mk (below_step (by repeat (first | (with_reducible first | exact HB.out | apply below_alloc | apply pw_below_drewN | apply below_drew1 | refine below_set ?_ GE327.out) | exact HB.out)) hb); clear BK327; clear HB; have BK327 := n0_; have HB := n1_; clear n0_ n1_; (try clear hb); (try clear hb2); (try clear hk); (try clear hi)))
        go_meet
        case rel => exact ⟨_, (true), (by first | rfl | (simp; done) | (simp [*]; done) | (simp [Int.tdiv_eq_ediv_of_nonneg]; done) | (simp [Go.RowKit.wrap64]; done) | (simp [*, Go.RowKit.wrap64]; done)), H', ⟨by first | omega | exact Nat.le_refl _⟩, ⟨by (with_reducible repeat (first | refine blk_drewN ?_ _ | refine blk_drew ?_ | refine blk_alloc ?_ _)); exact BK327.out⟩, ⟨by repeat (first | (with_reducible first | exact HB.out | apply below_alloc | apply pw_below_drewN | apply below_drew1 | refine below_set ?_ GE327.out) | exact HB.out)⟩⟩
    case rest =>
      clear HC6
      try clear c1
      try clear p2
      try clear c5
      try clear c8
      try clear c10
      try clear c10b0
      try clear c10b1
      try clear c11
      try clear c11b0
      try clear c14
      try clear c14b0
      try clear c17
      try clear c17b0
      try clear c18
      try clear c19
      try clear hcz12_0
      try clear hcz12_1
      try clear hcz12_10
      try clear hcz12_11
      try clear hcz12_2
      try clear hcz12_3
      try clear hcz12_4
      try clear hcz12_5
      try clear hcz12_6
      try clear hcz12_7
      try clear hcz12_8
      try clear hcz12_9
      try clear hcz15_0
      try clear hcz15_1
      try clear hcz15_10
      try clear hcz15_11
      try clear hcz15_2
      try clear hcz15_3
      try clear hcz15_4
      try clear hcz15_5
      try clear hcz15_6
      try clear hcz15_7
      try clear hcz15_8
      try clear hcz15_9
      try clear hcz18_0
      try clear hcz18_1
      try clear hcz18_10
      try clear hcz18_11
      try clear hcz18_2
      try clear hcz18_3
      try clear hcz18_4
      try clear hcz18_5
      try clear hcz18_6
      try clear hcz18_7
      try clear hcz18_8
      try clear hcz18_9
      try clear hcz20_0
      try clear hcz20_1
      try clear hcz20_10
      try clear hcz20_11
      try clear hcz20_2
      try clear hcz20_3
      try clear hcz20_4
      try clear hcz20_5
      try clear hcz20_6
      try clear hcz20_7
      try clear hcz20_8
      try clear hcz20_9
      try clear hcz22_0
      try clear hcz22_1
      try clear hcz22_10
      try clear hcz22_11
      try clear hcz22_2
      try clear hcz22_3
      try clear hcz22_4
      try clear hcz22_5
      try clear hcz22_6
      try clear hcz22_7
      try clear hcz22_8
      try clear hcz22_9
      try clear hfz12_0
      try clear hfz12_1
      try clear hfz12_10
      try clear hfz12_11
      try clear hfz12_2
      try clear hfz12_3
      try clear hfz12_4
      try clear hfz12_5
      try clear hfz12_6
      try clear hfz12_7
      try clear hfz12_8
      try clear hfz12_9
      try clear hfz15_0
      try clear hfz15_1
      try clear hfz15_10
      try clear hfz15_11
      try clear hfz15_2
      try clear hfz15_3
      try clear hfz15_4
      try clear hfz15_5
      try clear hfz15_6
      try clear hfz15_7
      try clear hfz15_8
      try clear hfz15_9
      try clear hfz18_0
      try clear hfz18_1
      try clear hfz18_10
      try clear hfz18_11
      try clear hfz18_2
      try clear hfz18_3
      try clear hfz18_4
      try clear hfz18_5
      try clear hfz18_6
      try clear hfz18_7
      try clear hfz18_8
      try clear hfz18_9
      try clear hfz20_0
      try clear hfz20_1
      try clear hfz20_10
      try clear hfz20_11
      try clear hfz20_2
      try clear hfz20_3
      try clear hfz20_4
      try clear hfz20_5
      try clear hfz20_6
      try clear hfz20_7
      try clear hfz20_8
      try clear hfz20_9
      try clear hfz22_0
      try clear hfz22_1
      try clear hfz22_10
      try clear hfz22_11
      try clear hfz22_2
      try clear hfz22_3
      try clear hfz22_4
      try clear hfz22_5
      try clear hfz22_6
      try clear hfz22_7
      try clear hfz22_8
      try clear hfz22_9
      obtain ⟨kq, x29_5, rfl, HA, HJ5, BK327, HB⟩ := hcut
      cases kq with
      | zero => exact absurd HA.out (by simp [clepsydralaw04_LimitClear.j0])
      | succ kj5 =>
        have H := HA.out
        clear HA
        simp only [clepsydralaw04_LimitClear.j0] at H
        by_cases c24 : x29_5 = true
        · subst c24
          have H1 : (some true) = some r := by rw [if_pos rfl] at H; exact H
          clear H
          have H := H1
          clear H1
          obtain rfl := Option.some.inj H
          go_wp2
          go_ret
          exact ⟨by first | rfl | (simp [errW_none, errW_some] <;> rfl) | (simp [*, errW_none, errW_some] <;> rfl), by repeat (first | (with_reducible first | exact HB.out | apply below_alloc | apply pw_below_drewN | apply below_drew1 | refine below_set ?_ GE327.out) | exact HB.out)⟩
        · replace c24 := Bool.eq_false_iff.mpr c24
          subst c24
          have H1 : ((limit_Hop.f kj5 a0_0 a0_1 a0_2 a0_3 a0_4 a0_5 a0_6 a0_7 a0_8 a0_9 a0_10 a0_11).bind fun t330 => (if t330 = (wrap64 (a0_6 + (wrap64 (2 * a0_4)))) then ((limit_Gate.f kj5 a0_0 a0_1 a0_2 a0_3 a0_4 a0_5 a0_6 a0_7 a0_8 a0_9 a0_10 a0_11).bind fun t331 => (if t331 = (wrap64 (2 * (wrap64 ((wrap64 (2 * a0_7)) + (wrap64 (a0_6 + (wrap64 (2 * a0_4)))))))) then ((limit_Width.f kj5 a0_0 a0_1 a0_2 a0_3 a0_4 a0_5 a0_6 a0_7 a0_8 a0_9 a0_10 a0_11 a1 a2).bind fun t332 => ((sat_Clip.f kj5 (wrap64 ((wrap64 ((wrap64 (2 * (wrap64 ((wrap64 (2 * a0_7)) + (wrap64 (a0_6 + (wrap64 (2 * a0_4)))))))) + (wrap64 ((wrap64 (2 * a0_4)) * a1)))) + (wrap64 ((wrap64 (a2 + 1)) * (wrap64 (a0_6 + (wrap64 (2 * a0_4))))))))).bind fun t333 => (if t332 = t333 then (if (wrap64 ((wrap64 ((wrap64 (2 * (wrap64 ((wrap64 (2 * a0_7)) + (wrap64 (a0_6 + (wrap64 (2 * a0_4)))))))) + (wrap64 ((wrap64 (2 * a0_4)) * a1)))) + (wrap64 ((wrap64 (a2 + 1)) * (wrap64 (a0_6 + (wrap64 (2 * a0_4)))))))) ≤ 2305843009213693952 then (some (decide ((wrap64 ((wrap64 ((wrap64 (2 * (wrap64 ((wrap64 (2 * a0_7)) + (wrap64 (a0_6 + (wrap64 (2 * a0_4)))))))) + (wrap64 ((wrap64 (2 * a0_4)) * a1)))) + (wrap64 ((wrap64 (a2 + 1)) * (wrap64 (a0_6 + (wrap64 (2 * a0_4)))))))) ≥ 0))) else (some false)) else (some false)))) else (some false))) else (some false))) = some r := by rw [if_neg (show ¬ (false = true) by decide)] at H; exact H
          clear H
          have H := H1
          clear H1
          replace H := Option.bind_eq_some_iff.mp H
          obtain ⟨t330, A250, H⟩ := H
          replace H : (if t330 = (wrap64 (a0_6 + (wrap64 (2 * a0_4)))) then ((limit_Gate.f kj5 a0_0 a0_1 a0_2 a0_3 a0_4 a0_5 a0_6 a0_7 a0_8 a0_9 a0_10 a0_11).bind fun t331 => (if t331 = (wrap64 (2 * (wrap64 ((wrap64 (2 * a0_7)) + (wrap64 (a0_6 + (wrap64 (2 * a0_4)))))))) then ((limit_Width.f kj5 a0_0 a0_1 a0_2 a0_3 a0_4 a0_5 a0_6 a0_7 a0_8 a0_9 a0_10 a0_11 a1 a2).bind fun t332 => ((sat_Clip.f kj5 (wrap64 ((wrap64 ((wrap64 (2 * (wrap64 ((wrap64 (2 * a0_7)) + (wrap64 (a0_6 + (wrap64 (2 * a0_4)))))))) + (wrap64 ((wrap64 (2 * a0_4)) * a1)))) + (wrap64 ((wrap64 (a2 + 1)) * (wrap64 (a0_6 + (wrap64 (2 * a0_4))))))))).bind fun t333 => (if t332 = t333 then (if (wrap64 ((wrap64 ((wrap64 (2 * (wrap64 ((wrap64 (2 * a0_7)) + (wrap64 (a0_6 + (wrap64 (2 * a0_4)))))))) + (wrap64 ((wrap64 (2 * a0_4)) * a1)))) + (wrap64 ((wrap64 (a2 + 1)) * (wrap64 (a0_6 + (wrap64 (2 * a0_4)))))))) ≤ 2305843009213693952 then (some (decide ((wrap64 ((wrap64 ((wrap64 (2 * (wrap64 ((wrap64 (2 * a0_7)) + (wrap64 (a0_6 + (wrap64 (2 * a0_4)))))))) + (wrap64 ((wrap64 (2 * a0_4)) * a1)))) + (wrap64 ((wrap64 (a2 + 1)) * (wrap64 (a0_6 + (wrap64 (2 * a0_4)))))))) ≥ 0))) else (some false)) else (some false)))) else (some false))) else (some false)) = some r := H
          have A25 := Aside0.mk A250
          clear A250
          by_cases c26 : t330 = (wrap64 (a0_6 + (wrap64 (2 * a0_4))))
          · rw [if_pos c26] at H
            have c26b0 : (t330 == (wrap64 (a0_6 + (wrap64 (2 * a0_4))))) = true := beq_iff_eq.mpr c26
            have c26b1 : (t330 != (wrap64 (a0_6 + (wrap64 (2 * a0_4))))) = false := bne_eq_false_iff_eq.mpr c26
            clear c26
            replace H := Option.bind_eq_some_iff.mp H
            obtain ⟨t331, A270, H⟩ := H
            replace H : (if t331 = (wrap64 (2 * (wrap64 ((wrap64 (2 * a0_7)) + (wrap64 (a0_6 + (wrap64 (2 * a0_4)))))))) then ((limit_Width.f kj5 a0_0 a0_1 a0_2 a0_3 a0_4 a0_5 a0_6 a0_7 a0_8 a0_9 a0_10 a0_11 a1 a2).bind fun t332 => ((sat_Clip.f kj5 (wrap64 ((wrap64 ((wrap64 (2 * (wrap64 ((wrap64 (2 * a0_7)) + (wrap64 (a0_6 + (wrap64 (2 * a0_4)))))))) + (wrap64 ((wrap64 (2 * a0_4)) * a1)))) + (wrap64 ((wrap64 (a2 + 1)) * (wrap64 (a0_6 + (wrap64 (2 * a0_4))))))))).bind fun t333 => (if t332 = t333 then (if (wrap64 ((wrap64 ((wrap64 (2 * (wrap64 ((wrap64 (2 * a0_7)) + (wrap64 (a0_6 + (wrap64 (2 * a0_4)))))))) + (wrap64 ((wrap64 (2 * a0_4)) * a1)))) + (wrap64 ((wrap64 (a2 + 1)) * (wrap64 (a0_6 + (wrap64 (2 * a0_4)))))))) ≤ 2305843009213693952 then (some (decide ((wrap64 ((wrap64 ((wrap64 (2 * (wrap64 ((wrap64 (2 * a0_7)) + (wrap64 (a0_6 + (wrap64 (2 * a0_4)))))))) + (wrap64 ((wrap64 (2 * a0_4)) * a1)))) + (wrap64 ((wrap64 (a2 + 1)) * (wrap64 (a0_6 + (wrap64 (2 * a0_4)))))))) ≥ 0))) else (some false)) else (some false)))) else (some false)) = some r := H
            have A27 := Aside0.mk A270
            clear A270
            by_cases c28 : t331 = (wrap64 (2 * (wrap64 ((wrap64 (2 * a0_7)) + (wrap64 (a0_6 + (wrap64 (2 * a0_4))))))))
            · rw [if_pos c28] at H
              have c28b0 : (t331 == (wrap64 (2 * (wrap64 ((wrap64 (2 * a0_7)) + (wrap64 (a0_6 + (wrap64 (2 * a0_4))))))))) = true := beq_iff_eq.mpr c28
              have c28b1 : (t331 != (wrap64 (2 * (wrap64 ((wrap64 (2 * a0_7)) + (wrap64 (a0_6 + (wrap64 (2 * a0_4))))))))) = false := bne_eq_false_iff_eq.mpr c28
              clear c28
              replace H := Option.bind_eq_some_iff.mp H
              obtain ⟨t332, A290, H⟩ := H
              replace H : ((sat_Clip.f kj5 (wrap64 ((wrap64 ((wrap64 (2 * (wrap64 ((wrap64 (2 * a0_7)) + (wrap64 (a0_6 + (wrap64 (2 * a0_4)))))))) + (wrap64 ((wrap64 (2 * a0_4)) * a1)))) + (wrap64 ((wrap64 (a2 + 1)) * (wrap64 (a0_6 + (wrap64 (2 * a0_4))))))))).bind fun t333 => (if t332 = t333 then (if (wrap64 ((wrap64 ((wrap64 (2 * (wrap64 ((wrap64 (2 * a0_7)) + (wrap64 (a0_6 + (wrap64 (2 * a0_4)))))))) + (wrap64 ((wrap64 (2 * a0_4)) * a1)))) + (wrap64 ((wrap64 (a2 + 1)) * (wrap64 (a0_6 + (wrap64 (2 * a0_4)))))))) ≤ 2305843009213693952 then (some (decide ((wrap64 ((wrap64 ((wrap64 (2 * (wrap64 ((wrap64 (2 * a0_7)) + (wrap64 (a0_6 + (wrap64 (2 * a0_4)))))))) + (wrap64 ((wrap64 (2 * a0_4)) * a1)))) + (wrap64 ((wrap64 (a2 + 1)) * (wrap64 (a0_6 + (wrap64 (2 * a0_4)))))))) ≥ 0))) else (some false)) else (some false))) = some r := H
              have A29 := Aside0.mk A290
              clear A290
              replace H := Option.bind_eq_some_iff.mp H
              obtain ⟨t333, A300, H⟩ := H
              replace H : (if t332 = t333 then (if (wrap64 ((wrap64 ((wrap64 (2 * (wrap64 ((wrap64 (2 * a0_7)) + (wrap64 (a0_6 + (wrap64 (2 * a0_4)))))))) + (wrap64 ((wrap64 (2 * a0_4)) * a1)))) + (wrap64 ((wrap64 (a2 + 1)) * (wrap64 (a0_6 + (wrap64 (2 * a0_4)))))))) ≤ 2305843009213693952 then (some (decide ((wrap64 ((wrap64 ((wrap64 (2 * (wrap64 ((wrap64 (2 * a0_7)) + (wrap64 (a0_6 + (wrap64 (2 * a0_4)))))))) + (wrap64 ((wrap64 (2 * a0_4)) * a1)))) + (wrap64 ((wrap64 (a2 + 1)) * (wrap64 (a0_6 + (wrap64 (2 * a0_4)))))))) ≥ 0))) else (some false)) else (some false)) = some r := H
              have A30 := Aside0.mk A300
              clear A300
              by_cases c31 : t332 = t333
              · rw [if_pos c31] at H
                have c31b0 : (t332 == t333) = true := beq_iff_eq.mpr c31
                have c31b1 : (t332 != t333) = false := bne_eq_false_iff_eq.mpr c31
                clear c31
                by_cases c32 : (wrap64 ((wrap64 ((wrap64 (2 * (wrap64 ((wrap64 (2 * a0_7)) + (wrap64 (a0_6 + (wrap64 (2 * a0_4)))))))) + (wrap64 ((wrap64 (2 * a0_4)) * a1)))) + (wrap64 ((wrap64 (a2 + 1)) * (wrap64 (a0_6 + (wrap64 (2 * a0_4)))))))) ≤ 2305843009213693952
                · rw [if_pos c32] at H
                  have c32b0 : decide ((wrap64 ((wrap64 ((wrap64 (2 * (wrap64 ((wrap64 (2 * a0_7)) + (wrap64 (a0_6 + (wrap64 (2 * a0_4)))))))) + (wrap64 ((wrap64 (2 * a0_4)) * a1)))) + (wrap64 ((wrap64 (a2 + 1)) * (wrap64 (a0_6 + (wrap64 (2 * a0_4)))))))) ≤ 2305843009213693952) = true := decide_eq_true c32
                  clear c32
                  obtain rfl := Option.some.inj H
                  have hcz33_0 : wc.cell? ⟨gb327, 0, none⟩ = some (.int .i64 a0_0) := (blk_cell BK327.out 0).trans rfl
                  have hcz33_1 : wc.cell? ⟨gb327, 1, none⟩ = some (.int .i64 a0_1) := (blk_cell BK327.out 1).trans rfl
                  have hcz33_2 : wc.cell? ⟨gb327, 2, none⟩ = some (.int .i64 a0_2) := (blk_cell BK327.out 2).trans rfl
                  have hcz33_3 : wc.cell? ⟨gb327, 3, none⟩ = some (.int .i64 a0_3) := (blk_cell BK327.out 3).trans rfl
                  have hcz33_4 : wc.cell? ⟨gb327, 4, none⟩ = some (.int .i64 a0_4) := (blk_cell BK327.out 4).trans rfl
                  have hcz33_5 : wc.cell? ⟨gb327, 5, none⟩ = some (.int .i64 a0_5) := (blk_cell BK327.out 5).trans rfl
                  have hcz33_6 : wc.cell? ⟨gb327, 6, none⟩ = some (.int .i64 a0_6) := (blk_cell BK327.out 6).trans rfl
                  have hcz33_7 : wc.cell? ⟨gb327, 7, none⟩ = some (.int .i64 a0_7) := (blk_cell BK327.out 7).trans rfl
                  have hcz33_8 : wc.cell? ⟨gb327, 8, none⟩ = some (.int .i64 a0_8) := (blk_cell BK327.out 8).trans rfl
                  have hcz33_9 : wc.cell? ⟨gb327, 9, none⟩ = some (.int .i64 a0_9) := (blk_cell BK327.out 9).trans rfl
                  have hcz33_10 : wc.cell? ⟨gb327, 10, none⟩ = some (.int .i64 a0_10) := (blk_cell BK327.out 10).trans rfl
                  have hcz33_11 : wc.cell? ⟨gb327, 11, none⟩ = some (.int .i64 a0_11) := (blk_cell BK327.out 11).trans rfl
                  have hfz33_0 := blk_frozen BK327.out 0
                  have hfz33_1 := blk_frozen BK327.out 1
                  have hfz33_2 := blk_frozen BK327.out 2
                  have hfz33_3 := blk_frozen BK327.out 3
                  have hfz33_4 := blk_frozen BK327.out 4
                  have hfz33_5 := blk_frozen BK327.out 5
                  have hfz33_6 := blk_frozen BK327.out 6
                  have hfz33_7 := blk_frozen BK327.out 7
                  have hfz33_8 := blk_frozen BK327.out 8
                  have hfz33_9 := blk_frozen BK327.out 9
                  have hfz33_10 := blk_frozen BK327.out 10
                  have hfz33_11 := blk_frozen BK327.out 11
                  try go_wp2
                  have n0_ := Aside0.mk (blk_drew BK327.out)
                  have n1_ := Aside0.mk (below_drew1 HB.out)
                  clear BK327
                  clear HB
                  have BK327 := n0_
                  have HB := n1_
                  clear n0_ n1_
                  refine start_ (n := 33) (S := fun w' => w'.cell? ⟨gb327, 0, none⟩ = some (.int .i64 a0_0) ∧ w'.cell? ⟨gb327, 1, none⟩ = some (.int .i64 a0_1) ∧ w'.cell? ⟨gb327, 2, none⟩ = some (.int .i64 a0_2) ∧ w'.cell? ⟨gb327, 3, none⟩ = some (.int .i64 a0_3) ∧ w'.cell? ⟨gb327, 4, none⟩ = some (.int .i64 a0_4) ∧ w'.cell? ⟨gb327, 5, none⟩ = some (.int .i64 a0_5) ∧ w'.cell? ⟨gb327, 6, none⟩ = some (.int .i64 a0_6) ∧ w'.cell? ⟨gb327, 7, none⟩ = some (.int .i64 a0_7) ∧ w'.cell? ⟨gb327, 8, none⟩ = some (.int .i64 a0_8) ∧ w'.cell? ⟨gb327, 9, none⟩ = some (.int .i64 a0_9) ∧ w'.cell? ⟨gb327, 10, none⟩ = some (.int .i64 a0_10) ∧ w'.cell? ⟨gb327, 11, none⟩ = some (.int .i64 a0_11)) (ds := []) #[false, false, false, false, false, false, false, false, false, false, false, false, false, false, false, false, false, false, false, false, false, false, false, false, false, false, false, false, false, false, false, false, false] (by kernel_rfl) rfl rfl ⟨(blk_cell BK327.out 0).trans rfl, (blk_cell BK327.out 1).trans rfl, (blk_cell BK327.out 2).trans rfl, (blk_cell BK327.out 3).trans rfl, (blk_cell BK327.out 4).trans rfl, (blk_cell BK327.out 5).trans rfl, (blk_cell BK327.out 6).trans rfl, (blk_cell BK327.out 7).trans rfl, (blk_cell BK327.out 8).trans rfl, (blk_cell BK327.out 9).trans rfl, (blk_cell BK327.out 10).trans rfl, (blk_cell BK327.out 11).trans rfl⟩ (fun hHeld => ?_); refine with_tabW clepsydralaw04_LimitClear.tab7 clepsydralaw04_LimitClear.bits7 (fun HT_ HW_ => ?_)
                  generalize wc.drew = w34 at BK327 HB hHeld ⊢
                  refine pure_ (i := 2) (N := some 55) (v := ?_) (a' := ?_) #[false, false, true, false, false, false, false, false, false, false, false, false, false, false, false, false, false, false, false, false, false, false, false, false, false, false, false, false, false, false, false, false, false] rfl rfl (any_of HT_.out (by kernel_rfl)) (fun _ _ _ h => h) (Or.inl ⟨by rfl, ?_⟩) ?_ ?_
                  rotate_left
                  · intro w'
                    go_simp
                    with_reducible rfl
                  rotate_left
                  · simp only [Act.put, List.setIfInBounds_toArray, List.set_cons_zero, List.set_cons_succ, i64_w, i32_w]
                    rfl
                  refine take_ (i := 0) (N := some 53) (v := ?_) (a' := ?_) #[true, false, true, false, false, false, false, false, false, false, false, false, false, false, false, false, false, false, false, false, false, false, false, false, false, false, false, false, false, false, false, false, false] rfl rfl (take_ofW HT_.out HW_.out (by kernel_rfl)) (fun _ _ _ h => h) (Or.inl ⟨by rfl, ?_⟩) hHeld ?_ ?_
                  rotate_left
                  · rintro w' ⟨s0, s1, s2, s3, s4, s5, s6, s7, s8, s9, s10, s11⟩
                    go_simp
                    with_reducible rfl
                  rotate_left
                  · simp only [Act.put, List.setIfInBounds_toArray, List.set_cons_zero, List.set_cons_succ, i64_w, i32_w]
                    rfl
                  refine one_ (i := 1) (N := some 54) #[true, true, true, false, false, false, false, false, false, false, false, false, false, false, false, false, false, false, false, false, false, false, false, false, false, false, false, false, false, false, false, false, false] rfl rfl (one_of HT_.out (by kernel_rfl)) (by decide) (fun K hK => ?_)
                  refine goes_ Try.func20 (by kernel_rfl) rfl #[.agg #[.int .i64 a0_0, .int .i64 a0_1, .int .i64 a0_2, .int .i64 a0_3, .int .i64 a0_4, .int .i64 a0_5, .int .i64 a0_6, .int .i64 a0_7, .int .i64 a0_8, .int .i64 a0_9, .int .i64 a0_10, .int .i64 a0_11]] (by rfl) rfl rfl (by (try simp only [List.map_toArray, List.map_cons, List.map_nil]); first | done | rfl | (simp only [List.length_drop, List.length_take]; rfl)) ?_
                  with_reducible refine (limit_Hop.calls kj5 a0_0 a0_1 a0_2 a0_3 a0_4 a0_5 a0_6 a0_7 a0_8 a0_9 a0_10 a0_11 t330 _ A25.out).mono ?_
                  rintro e w35 ⟨rfl, hb⟩
                  refine ⟨_, rfl, ?_⟩
                  have n0_ := Aside0.mk (blk_below (g := gb327) (o := .cells #[.int .i64 a0_0, .int .i64 a0_1, .int .i64 a0_2, .int .i64 a0_3, .int .i64 a0_4, .int .i64 a0_5, .int .i64 a0_6, .int .i64 a0_7, .int .i64 a0_8, .int .i64 a0_9, .int .i64 a0_10, .int .i64 a0_11] 23 (0, 0)) (by (with_reducible repeat (first | refine blk_drewN ?_ _ | refine blk_drew ?_ | refine blk_alloc ?_ _)); exact BK327.out) hb)
                  have n1_ := Aside0.mk (below_step (by repeat (first | (with_reducible first | exact HB.out | apply below_alloc | apply pw_below_drewN | apply below_drew1 | refine below_set ?_ GE327.out) | exact HB.out)) hb)
                  clear BK327
                  clear HB
                  have BK327 := n0_
                  have HB := n1_
                  clear n0_ n1_
                  (try clear hb)
                  (try clear hb2)
                  (try clear hk)
                  (try clear hi)
                  refine hK.out _ _ ⟨(blk_cell BK327.out 0).trans rfl, (blk_cell BK327.out 1).trans rfl, (blk_cell BK327.out 2).trans rfl, (blk_cell BK327.out 3).trans rfl, (blk_cell BK327.out 4).trans rfl, (blk_cell BK327.out 5).trans rfl, (blk_cell BK327.out 6).trans rfl, (blk_cell BK327.out 7).trans rfl, (blk_cell BK327.out 8).trans rfl, (blk_cell BK327.out 9).trans rfl, (blk_cell BK327.out 10).trans rfl, (blk_cell BK327.out 11).trans rfl⟩ (fun hHeld => ?_)
                  clear hK K
                  refine norm_ (a' := ?_) ?_ ?_
                  rotate_left
                  · show Act.put _ (some 54) _ = _
                    simp only [Act.put, List.setIfInBounds_toArray, List.set_cons_zero, List.set_cons_succ, i64_w, i32_w]
                    rfl
                  refine pure_ (i := 3) (N := some 56) (v := ?_) (a' := ?_) #[true, true, true, true, false, false, false, false, false, false, false, false, false, false, false, false, false, false, false, false, false, false, false, false, false, false, false, false, false, false, false, false, false] rfl rfl (any_of HT_.out (by kernel_rfl)) (fun _ _ _ h => h) (Or.inl ⟨by rfl, ?_⟩) ?_ ?_
                  rotate_left
                  · intro w'
                    go_simp
                    with_reducible rfl
                  rotate_left
                  · simp only [Act.put, List.setIfInBounds_toArray, List.set_cons_zero, List.set_cons_succ, i64_w, i32_w]
                    rfl
                  refine pure_ (i := 4) (N := some 57) (v := ?_) (a' := ?_) #[true, true, true, true, true, false, false, false, false, false, false, false, false, false, false, false, false, false, false, false, false, false, false, false, false, false, false, false, false, false, false, false, false] rfl rfl (any_of HT_.out (by kernel_rfl)) (fun _ _ _ h => h) (Or.inl ⟨by rfl, ?_⟩) ?_ ?_
                  rotate_left
                  · intro w'
                    go_simp
                    with_reducible rfl
                  rotate_left
                  · simp only [Act.put, List.setIfInBounds_toArray, List.set_cons_zero, List.set_cons_succ, i64_w, i32_w]
                    rfl
                  refine pure_ (i := 7) (N := some 60) (v := ?_) (a' := ?_) #[true, true, true, true, true, false, false, true, false, false, false, false, false, false, false, false, false, false, false, false, false, false, false, false, false, false, false, false, false, false, false, false, false] rfl rfl (any_of HT_.out (by kernel_rfl)) (fun _ _ _ h => h) (Or.inl ⟨by rfl, ?_⟩) ?_ ?_
                  rotate_left
                  · intro w'
                    go_simp
                    with_reducible rfl
                  rotate_left
                  · simp only [Act.put, List.setIfInBounds_toArray, List.set_cons_zero, List.set_cons_succ, i64_w, i32_w]
                    rfl
                  refine pure_ (i := 10) (N := some 63) (v := ?_) (a' := ?_) #[true, true, true, true, true, false, false, true, false, false, true, false, false, false, false, false, false, false, false, false, false, false, false, false, false, false, false, false, false, false, false, false, false] rfl rfl (any_of HT_.out (by kernel_rfl)) (fun _ _ _ h => h) (Or.inl ⟨by rfl, ?_⟩) ?_ ?_
                  rotate_left
                  · intro w'
                    go_simp
                    with_reducible rfl
                  rotate_left
                  · simp only [Act.put, List.setIfInBounds_toArray, List.set_cons_zero, List.set_cons_succ, i64_w, i32_w]
                    rfl
                  refine take_ (i := 5) (N := some 58) (v := ?_) (a' := ?_) #[true, true, true, true, true, true, false, true, false, false, true, false, false, false, false, false, false, false, false, false, false, false, false, false, false, false, false, false, false, false, false, false, false] rfl rfl (take_ofW HT_.out HW_.out (by kernel_rfl)) (fun _ _ _ h => h) (Or.inl ⟨by rfl, ?_⟩) hHeld ?_ ?_
                  rotate_left
                  · rintro w' ⟨s0, s1, s2, s3, s4, s5, s6, s7, s8, s9, s10, s11⟩
                    go_simp
                    with_reducible rfl
                  rotate_left
                  · simp only [Act.put, List.setIfInBounds_toArray, List.set_cons_zero, List.set_cons_succ, i64_w, i32_w]
                    rfl
                  refine take_ (i := 8) (N := some 61) (v := ?_) (a' := ?_) #[true, true, true, true, true, true, false, true, true, false, true, false, false, false, false, false, false, false, false, false, false, false, false, false, false, false, false, false, false, false, false, false, false] rfl rfl (take_ofW HT_.out HW_.out (by kernel_rfl)) (fun _ _ _ h => h) (Or.inl ⟨by rfl, ?_⟩) hHeld ?_ ?_
                  rotate_left
                  · rintro w' ⟨s0, s1, s2, s3, s4, s5, s6, s7, s8, s9, s10, s11⟩
                    go_simp
                    with_reducible rfl
                  rotate_left
                  · simp only [Act.put, List.setIfInBounds_toArray, List.set_cons_zero, List.set_cons_succ, i64_w, i32_w]
                    rfl
                  refine pure_ (i := 9) (N := some 62) (v := ?_) (a' := ?_) #[true, true, true, true, true, true, false, true, true, true, true, false, false, false, false, false, false, false, false, false, false, false, false, false, false, false, false, false, false, false, false, false, false] rfl rfl (any_of HT_.out (by kernel_rfl)) (fun _ _ _ h => h) (Or.inl ⟨by rfl, ?_⟩) ?_ ?_
                  rotate_left
                  · intro w'
                    go_simp
                    with_reducible rfl
                  rotate_left
                  · simp only [Act.put, List.setIfInBounds_toArray, List.set_cons_zero, List.set_cons_succ, i64_w, i32_w]
                    rfl
                  refine pure_ (i := 11) (N := some 64) (v := ?_) (a' := ?_) #[true, true, true, true, true, true, false, true, true, true, true, true, false, false, false, false, false, false, false, false, false, false, false, false, false, false, false, false, false, false, false, false, false] rfl rfl (any_of HT_.out (by kernel_rfl)) (fun _ _ _ h => h) (Or.inl ⟨by rfl, ?_⟩) ?_ ?_
                  rotate_left
                  · intro w'
                    go_simp
                    with_reducible rfl
                  rotate_left
                  · simp only [Act.put, List.setIfInBounds_toArray, List.set_cons_zero, List.set_cons_succ, i64_w, i32_w]
                    rfl
                  refine pure_ (i := 12) (N := some 65) (v := ?_) (a' := ?_) #[true, true, true, true, true, true, false, true, true, true, true, true, true, false, false, false, false, false, false, false, false, false, false, false, false, false, false, false, false, false, false, false, false] rfl rfl (any_of HT_.out (by kernel_rfl)) (fun _ _ _ h => h) (Or.inl ⟨by rfl, ?_⟩) ?_ ?_
                  rotate_left
                  · intro w'
                    go_simp
                    with_reducible rfl
                  rotate_left
                  · simp only [Act.put, List.setIfInBounds_toArray, List.set_cons_zero, List.set_cons_succ, i64_w, i32_w]
                    rfl
                  refine one_ (i := 6) (N := some 59) #[true, true, true, true, true, true, true, true, true, true, true, true, true, false, false, false, false, false, false, false, false, false, false, false, false, false, false, false, false, false, false, false, false] rfl rfl (one_of HT_.out (by kernel_rfl)) (by decide) (fun K hK => ?_)
                  refine goes_ Try.func21 (by kernel_rfl) rfl #[.agg #[.int .i64 a0_0, .int .i64 a0_1, .int .i64 a0_2, .int .i64 a0_3, .int .i64 a0_4, .int .i64 a0_5, .int .i64 a0_6, .int .i64 a0_7, .int .i64 a0_8, .int .i64 a0_9, .int .i64 a0_10, .int .i64 a0_11]] (by rfl) rfl rfl (by (try simp only [List.map_toArray, List.map_cons, List.map_nil]); first | done | rfl | (simp only [List.length_drop, List.length_take]; rfl)) ?_
                  with_reducible refine (limit_Gate.calls kj5 a0_0 a0_1 a0_2 a0_3 a0_4 a0_5 a0_6 a0_7 a0_8 a0_9 a0_10 a0_11 t331 _ A27.out).mono ?_
                  rintro e w36 ⟨rfl, hb⟩
                  refine ⟨_, rfl, ?_⟩
                  have n0_ := Aside0.mk (blk_below (g := gb327) (o := .cells #[.int .i64 a0_0, .int .i64 a0_1, .int .i64 a0_2, .int .i64 a0_3, .int .i64 a0_4, .int .i64 a0_5, .int .i64 a0_6, .int .i64 a0_7, .int .i64 a0_8, .int .i64 a0_9, .int .i64 a0_10, .int .i64 a0_11] 23 (0, 0)) (by (with_reducible repeat (first | refine blk_drewN ?_ _ | refine blk_drew ?_ | refine blk_alloc ?_ _)); exact BK327.out) hb)
                  have n1_ := Aside0.mk (below_step (by repeat (first | (with_reducible first | exact HB.out | apply below_alloc | apply pw_below_drewN | apply below_drew1 | refine below_set ?_ GE327.out) | exact HB.out)) hb)
                  clear BK327
                  clear HB
                  have BK327 := n0_
                  have HB := n1_
                  clear n0_ n1_
                  (try clear hb)
                  (try clear hb2)
                  (try clear hk)
                  (try clear hi)
                  refine hK.out _ _ ⟨(blk_cell BK327.out 0).trans rfl, (blk_cell BK327.out 1).trans rfl, (blk_cell BK327.out 2).trans rfl, (blk_cell BK327.out 3).trans rfl, (blk_cell BK327.out 4).trans rfl, (blk_cell BK327.out 5).trans rfl, (blk_cell BK327.out 6).trans rfl, (blk_cell BK327.out 7).trans rfl, (blk_cell BK327.out 8).trans rfl, (blk_cell BK327.out 9).trans rfl, (blk_cell BK327.out 10).trans rfl, (blk_cell BK327.out 11).trans rfl⟩ (fun hHeld => ?_)
                  clear hK K
                  refine norm_ (a' := ?_) ?_ ?_
                  rotate_left
                  · show Act.put _ (some 59) _ = _
                    simp only [Act.put, List.setIfInBounds_toArray, List.set_cons_zero, List.set_cons_succ, i64_w, i32_w]
                    rfl
                  refine pure_ (i := 13) (N := some 66) (v := ?_) (a' := ?_) #[true, true, true, true, true, true, true, true, true, true, true, true, true, true, false, false, false, false, false, false, false, false, false, false, false, false, false, false, false, false, false, false, false] rfl rfl (any_of HT_.out (by kernel_rfl)) (fun _ _ _ h => h) (Or.inl ⟨by rfl, ?_⟩) ?_ ?_
                  rotate_left
                  · intro w'
                    go_simp
                    with_reducible rfl
                  rotate_left
                  · simp only [Act.put, List.setIfInBounds_toArray, List.set_cons_zero, List.set_cons_succ, i64_w, i32_w]
                    rfl
                  refine pure_ (i := 14) (N := some 67) (v := ?_) (a' := ?_) #[true, true, true, true, true, true, true, true, true, true, true, true, true, true, true, false, false, false, false, false, false, false, false, false, false, false, false, false, false, false, false, false, false] rfl rfl (any_of HT_.out (by kernel_rfl)) (fun _ _ _ h => h) (Or.inl ⟨by rfl, ?_⟩) ?_ ?_
                  rotate_left
                  · intro w'
                    go_simp
                    with_reducible rfl
                  rotate_left
                  · simp only [Act.put, List.setIfInBounds_toArray, List.set_cons_zero, List.set_cons_succ, i64_w, i32_w]
                    rfl
                  refine pure_ (i := 15) (N := some 68) (v := ?_) (a' := ?_) #[true, true, true, true, true, true, true, true, true, true, true, true, true, true, true, true, false, false, false, false, false, false, false, false, false, false, false, false, false, false, false, false, false] rfl rfl (any_of HT_.out (by kernel_rfl)) (fun _ _ _ h => h) (Or.inl ⟨by rfl, ?_⟩) ?_ ?_
                  rotate_left
                  · intro w'
                    go_simp
                    with_reducible rfl
                  rotate_left
                  · simp only [Act.put, List.setIfInBounds_toArray, List.set_cons_zero, List.set_cons_succ, i64_w, i32_w]
                    rfl
                  refine pure_ (i := 17) (N := some 70) (v := ?_) (a' := ?_) #[true, true, true, true, true, true, true, true, true, true, true, true, true, true, true, true, false, true, false, false, false, false, false, false, false, false, false, false, false, false, false, false, false] rfl rfl (any_of HT_.out (by kernel_rfl)) (fun _ _ _ h => h) (Or.inl ⟨by rfl, ?_⟩) ?_ ?_
                  rotate_left
                  · intro w'
                    go_simp
                    with_reducible rfl
                  rotate_left
                  · simp only [Act.put, List.setIfInBounds_toArray, List.set_cons_zero, List.set_cons_succ, i64_w, i32_w]
                    rfl
                  refine pure_ (i := 18) (N := some 71) (v := ?_) (a' := ?_) #[true, true, true, true, true, true, true, true, true, true, true, true, true, true, true, true, false, true, true, false, false, false, false, false, false, false, false, false, false, false, false, false, false] rfl rfl (any_of HT_.out (by kernel_rfl)) (fun _ _ _ h => h) (Or.inl ⟨by rfl, ?_⟩) ?_ ?_
                  rotate_left
                  · intro w'
                    go_simp
                    with_reducible rfl
                  rotate_left
                  · simp only [Act.put, List.setIfInBounds_toArray, List.set_cons_zero, List.set_cons_succ, i64_w, i32_w]
                    rfl
                  refine pure_ (i := 20) (N := some 73) (v := ?_) (a' := ?_) #[true, true, true, true, true, true, true, true, true, true, true, true, true, true, true, true, false, true, true, false, true, false, false, false, false, false, false, false, false, false, false, false, false] rfl rfl (any_of HT_.out (by kernel_rfl)) (fun _ _ _ h => h) (Or.inl ⟨by rfl, ?_⟩) ?_ ?_
                  rotate_left
                  · intro w'
                    go_simp
                    with_reducible rfl
                  rotate_left
                  · simp only [Act.put, List.setIfInBounds_toArray, List.set_cons_zero, List.set_cons_succ, i64_w, i32_w]
                    rfl
                  refine take_ (i := 16) (N := some 69) (v := ?_) (a' := ?_) #[true, true, true, true, true, true, true, true, true, true, true, true, true, true, true, true, true, true, true, false, true, false, false, false, false, false, false, false, false, false, false, false, false] rfl rfl (take_ofW HT_.out HW_.out (by kernel_rfl)) (fun _ _ _ h => h) (Or.inl ⟨by rfl, ?_⟩) hHeld ?_ ?_
                  rotate_left
                  · rintro w' ⟨s0, s1, s2, s3, s4, s5, s6, s7, s8, s9, s10, s11⟩
                    go_simp
                    with_reducible rfl
                  rotate_left
                  · simp only [Act.put, List.setIfInBounds_toArray, List.set_cons_zero, List.set_cons_succ, i64_w, i32_w]
                    rfl
                  refine one_ (i := 19) (N := some 72) #[true, true, true, true, true, true, true, true, true, true, true, true, true, true, true, true, true, true, true, true, true, false, false, false, false, false, false, false, false, false, false, false, false] rfl rfl (one_of HT_.out (by kernel_rfl)) (by decide) (fun K hK => ?_)
                  refine goes_ Try.func22 (by kernel_rfl) rfl #[.agg #[.int .i64 a0_0, .int .i64 a0_1, .int .i64 a0_2, .int .i64 a0_3, .int .i64 a0_4, .int .i64 a0_5, .int .i64 a0_6, .int .i64 a0_7, .int .i64 a0_8, .int .i64 a0_9, .int .i64 a0_10, .int .i64 a0_11], .int .i64 a1, .int .i64 a2] (by rfl) rfl rfl (by (try simp only [List.map_toArray, List.map_cons, List.map_nil]); first | done | rfl | (simp only [List.length_drop, List.length_take]; rfl)) ?_
                  with_reducible refine (limit_Width.calls kj5 a0_0 a0_1 a0_2 a0_3 a0_4 a0_5 a0_6 a0_7 a0_8 a0_9 a0_10 a0_11 a1 a2 t332 _ A29.out).mono ?_
                  rintro e w37 ⟨rfl, hb⟩
                  refine ⟨_, rfl, ?_⟩
                  have n0_ := Aside0.mk (blk_below (g := gb327) (o := .cells #[.int .i64 a0_0, .int .i64 a0_1, .int .i64 a0_2, .int .i64 a0_3, .int .i64 a0_4, .int .i64 a0_5, .int .i64 a0_6, .int .i64 a0_7, .int .i64 a0_8, .int .i64 a0_9, .int .i64 a0_10, .int .i64 a0_11] 23 (0, 0)) (by (with_reducible repeat (first | refine blk_drewN ?_ _ | refine blk_drew ?_ | refine blk_alloc ?_ _)); exact BK327.out) hb)
                  have n1_ := Aside0.mk (below_step (by repeat (first | (with_reducible first | exact HB.out | apply below_alloc | apply pw_below_drewN | apply below_drew1 | refine below_set ?_ GE327.out) | exact HB.out)) hb)
                  clear BK327
                  clear HB
                  have BK327 := n0_
                  have HB := n1_
                  clear n0_ n1_
                  (try clear hb)
                  (try clear hb2)
                  (try clear hk)
                  (try clear hi)
                  refine hK.out _ _ ⟨(blk_cell BK327.out 0).trans rfl, (blk_cell BK327.out 1).trans rfl, (blk_cell BK327.out 2).trans rfl, (blk_cell BK327.out 3).trans rfl, (blk_cell BK327.out 4).trans rfl, (blk_cell BK327.out 5).trans rfl, (blk_cell BK327.out 6).trans rfl, (blk_cell BK327.out 7).trans rfl, (blk_cell BK327.out 8).trans rfl, (blk_cell BK327.out 9).trans rfl, (blk_cell BK327.out 10).trans rfl, (blk_cell BK327.out 11).trans rfl⟩ (fun hHeld => ?_)
                  clear hK K
                  refine norm_ (a' := ?_) ?_ ?_
                  rotate_left
                  · show Act.put _ (some 72) _ = _
                    simp only [Act.put, List.setIfInBounds_toArray, List.set_cons_zero, List.set_cons_succ, i64_w, i32_w]
                    rfl
                  refine one_ (i := 21) (N := some 74) #[true, true, true, true, true, true, true, true, true, true, true, true, true, true, true, true, true, true, true, true, true, true, false, false, false, false, false, false, false, false, false, false, false] rfl rfl (one_of HT_.out (by kernel_rfl)) (by decide) (fun K hK => ?_)
                  refine goes_ Try.func23 (by kernel_rfl) rfl #[.int .i64 (wrap64 ((wrap64 ((wrap64 (2 * (wrap64 ((wrap64 (2 * a0_7)) + (wrap64 (a0_6 + (wrap64 (2 * a0_4)))))))) + (wrap64 ((wrap64 (2 * a0_4)) * a1)))) + (wrap64 ((wrap64 (a2 + 1)) * (wrap64 (a0_6 + (wrap64 (2 * a0_4))))))))] (by rfl) rfl rfl (by (try simp only [List.map_toArray, List.map_cons, List.map_nil]); first | done | rfl | (simp only [List.length_drop, List.length_take]; rfl)) ?_
                  with_reducible refine (sat_Clip.calls kj5 (wrap64 ((wrap64 ((wrap64 (2 * (wrap64 ((wrap64 (2 * a0_7)) + (wrap64 (a0_6 + (wrap64 (2 * a0_4)))))))) + (wrap64 ((wrap64 (2 * a0_4)) * a1)))) + (wrap64 ((wrap64 (a2 + 1)) * (wrap64 (a0_6 + (wrap64 (2 * a0_4)))))))) t333 _ A30.out).mono ?_
                  rintro e w' ⟨rfl, ⟨nd, rfl⟩⟩
                  refine ⟨_, rfl, ?_⟩
                  refine hK.out _ _ ⟨(blk_cell BK327.out 0).trans rfl, (blk_cell BK327.out 1).trans rfl, (blk_cell BK327.out 2).trans rfl, (blk_cell BK327.out 3).trans rfl, (blk_cell BK327.out 4).trans rfl, (blk_cell BK327.out 5).trans rfl, (blk_cell BK327.out 6).trans rfl, (blk_cell BK327.out 7).trans rfl, (blk_cell BK327.out 8).trans rfl, (blk_cell BK327.out 9).trans rfl, (blk_cell BK327.out 10).trans rfl, (blk_cell BK327.out 11).trans rfl⟩ (fun hHeld => ?_)
                  clear hK K
                  refine norm_ (a' := ?_) ?_ ?_
                  rotate_left
                  · show Act.put _ (some 74) _ = _
                    simp only [Act.put, List.setIfInBounds_toArray, List.set_cons_zero, List.set_cons_succ, i64_w, i32_w]
                    rfl
                  refine pure_ (i := 22) (N := some 75) (v := ?_) (a' := ?_) #[true, true, true, true, true, true, true, true, true, true, true, true, true, true, true, true, true, true, true, true, true, true, true, false, false, false, false, false, false, false, false, false, false] rfl rfl (any_of HT_.out (by kernel_rfl)) (fun _ _ _ h => h) (Or.inl ⟨by rfl, ?_⟩) ?_ ?_
                  rotate_left
                  · intro w'
                    go_simp
                    with_reducible rfl
                  rotate_left
                  · simp only [Act.put, List.setIfInBounds_toArray, List.set_cons_zero, List.set_cons_succ, i64_w, i32_w]
                    rfl
                  refine pure_ (i := 23) (N := some 76) (v := ?_) (a' := ?_) #[true, true, true, true, true, true, true, true, true, true, true, true, true, true, true, true, true, true, true, true, true, true, true, true, false, false, false, false, false, false, false, false, false] rfl rfl (any_of HT_.out (by kernel_rfl)) (fun _ _ _ h => h) (Or.inl ⟨by rfl, ?_⟩) ?_ ?_
                  rotate_left
                  · intro w'
                    go_simp
                    with_reducible rfl
                  rotate_left
                  · simp only [Act.put, List.setIfInBounds_toArray, List.set_cons_zero, List.set_cons_succ, i64_w, i32_w]
                    rfl
                  refine pure_ (i := 24) (N := some 77) (v := ?_) (a' := ?_) #[true, true, true, true, true, true, true, true, true, true, true, true, true, true, true, true, true, true, true, true, true, true, true, true, true, false, false, false, false, false, false, false, false] rfl rfl (any_of HT_.out (by kernel_rfl)) (fun _ _ _ h => h) (Or.inl ⟨by rfl, ?_⟩) ?_ ?_
                  rotate_left
                  · intro w'
                    go_simp
                    with_reducible rfl
                  rotate_left
                  · simp only [Act.put, List.setIfInBounds_toArray, List.set_cons_zero, List.set_cons_succ, i64_w, i32_w]
                    rfl
                  refine pure_ (i := 25) (N := some 78) (v := ?_) (a' := ?_) #[true, true, true, true, true, true, true, true, true, true, true, true, true, true, true, true, true, true, true, true, true, true, true, true, true, true, false, false, false, false, false, false, false] rfl rfl (any_of HT_.out (by kernel_rfl)) (fun _ _ _ h => h) (Or.inl ⟨by rfl, ?_⟩) ?_ ?_
                  rotate_left
                  · intro w'
                    go_simp
                    with_reducible rfl
                  rotate_left
                  · simp only [Act.put, List.setIfInBounds_toArray, List.set_cons_zero, List.set_cons_succ, i64_w, i32_w]
                    rfl
                  refine pure_ (i := 26) (N := some 79) (v := ?_) (a' := ?_) #[true, true, true, true, true, true, true, true, true, true, true, true, true, true, true, true, true, true, true, true, true, true, true, true, true, true, true, false, false, false, false, false, false] rfl rfl (any_of HT_.out (by kernel_rfl)) (fun _ _ _ h => h) (Or.inl ⟨by rfl, ?_⟩) ?_ ?_
                  rotate_left
                  · intro w'
                    go_simp
                    with_reducible rfl
                  rotate_left
                  · simp only [Act.put, List.setIfInBounds_toArray, List.set_cons_zero, List.set_cons_succ, i64_w, i32_w]
                    rfl
                  refine pure_ (i := 27) (N := some 80) (v := ?_) (a' := ?_) #[true, true, true, true, true, true, true, true, true, true, true, true, true, true, true, true, true, true, true, true, true, true, true, true, true, true, true, true, false, false, false, false, false] rfl rfl (any_of HT_.out (by kernel_rfl)) (fun _ _ _ h => h) (Or.inl ⟨by rfl, ?_⟩) ?_ ?_
                  rotate_left
                  · intro w'
                    go_simp
                    with_reducible rfl
                  rotate_left
                  · simp only [Act.put, List.setIfInBounds_toArray, List.set_cons_zero, List.set_cons_succ, i64_w, i32_w]
                    rfl
                  refine pure_ (i := 28) (N := some 81) (v := ?_) (a' := ?_) #[true, true, true, true, true, true, true, true, true, true, true, true, true, true, true, true, true, true, true, true, true, true, true, true, true, true, true, true, true, false, false, false, false] rfl rfl (any_of HT_.out (by kernel_rfl)) (fun _ _ _ h => h) (Or.inl ⟨by rfl, ?_⟩) ?_ ?_
                  rotate_left
                  · intro w'
                    go_simp
                    with_reducible rfl
                  rotate_left
                  · simp only [Act.put, List.setIfInBounds_toArray, List.set_cons_zero, List.set_cons_succ, i64_w, i32_w]
                    rfl
                  refine pure_ (i := 29) (N := some 82) (v := ?_) (a' := ?_) #[true, true, true, true, true, true, true, true, true, true, true, true, true, true, true, true, true, true, true, true, true, true, true, true, true, true, true, true, true, true, false, false, false] rfl rfl (any_of HT_.out (by kernel_rfl)) (fun _ _ _ h => h) (Or.inl ⟨by rfl, ?_⟩) ?_ ?_
                  rotate_left
                  · intro w'
                    go_simp
                    with_reducible rfl
                  rotate_left
                  · simp only [Act.put, List.setIfInBounds_toArray, List.set_cons_zero, List.set_cons_succ, i64_w, i32_w]
                    rfl
                  refine pure_ (i := 30) (N := some 83) (v := ?_) (a' := ?_) #[true, true, true, true, true, true, true, true, true, true, true, true, true, true, true, true, true, true, true, true, true, true, true, true, true, true, true, true, true, true, true, false, false] rfl rfl (any_of HT_.out (by kernel_rfl)) (fun _ _ _ h => h) (Or.inl ⟨by rfl, ?_⟩) ?_ ?_
                  rotate_left
                  · intro w'
                    go_simp
                    with_reducible rfl
                  rotate_left
                  · simp only [Act.put, List.setIfInBounds_toArray, List.set_cons_zero, List.set_cons_succ, i64_w, i32_w]
                    rfl
                  refine pure_ (i := 31) (N := some 84) (v := ?_) (a' := ?_) #[true, true, true, true, true, true, true, true, true, true, true, true, true, true, true, true, true, true, true, true, true, true, true, true, true, true, true, true, true, true, true, true, false] rfl rfl (any_of HT_.out (by kernel_rfl)) (fun _ _ _ h => h) (Or.inl ⟨by rfl, ?_⟩) ?_ ?_
                  rotate_left
                  · intro w'
                    go_simp
                    with_reducible rfl
                  rotate_left
                  · simp only [Act.put, List.setIfInBounds_toArray, List.set_cons_zero, List.set_cons_succ, i64_w, i32_w]
                    rfl
                  refine pure_ (i := 32) (N := some 6) (v := ?_) (a' := ?_) #[true, true, true, true, true, true, true, true, true, true, true, true, true, true, true, true, true, true, true, true, true, true, true, true, true, true, true, true, true, true, true, true, true] rfl rfl (any_of HT_.out (by kernel_rfl)) (fun _ _ _ h => h) (Or.inl ⟨by rfl, ?_⟩) ?_ ?_
                  rotate_left
                  · intro w'
                    go_simp
                    with_reducible rfl
                  rotate_left
                  · simp only [Act.put, List.setIfInBounds_toArray, List.set_cons_zero, List.set_cons_succ, i64_w, i32_w]
                    rfl
                  refine done_ (done_of HT_.out (by kernel_rfl)) ?_
                  try go_wp2
                  go_ret
                  exact ⟨by first | rfl | (simp [errW_none, errW_some] <;> rfl) | (simp [*, errW_none, errW_some] <;> rfl), by repeat (first | (with_reducible first | exact HB.out | apply below_alloc | apply pw_below_drewN | apply below_drew1 | refine below_set ?_ GE327.out) | exact HB.out)⟩
                · rw [if_neg c32] at H
                  have c32b0 : decide ((wrap64 ((wrap64 ((wrap64 (2 * (wrap64 ((wrap64 (2 * a0_7)) + (wrap64 (a0_6 + (wrap64 (2 * a0_4)))))))) + (wrap64 ((wrap64 (2 * a0_4)) * a1)))) + (wrap64 ((wrap64 (a2 + 1)) * (wrap64 (a0_6 + (wrap64 (2 * a0_4)))))))) ≤ 2305843009213693952) = false := decide_eq_false c32
                  clear c32
                  exact absurd ((Option.some.inj H).trans hT.out) (by decide)
              · rw [if_neg c31] at H
                have c31b0 : (t332 == t333) = false := beq_eq_false_iff_ne.mpr c31
                have c31b1 : (t332 != t333) = true := bne_iff_ne.mpr c31
                exact absurd ((Option.some.inj H).trans hT.out) (by decide)
            · rw [if_neg c28] at H
              have c28b0 : (t331 == (wrap64 (2 * (wrap64 ((wrap64 (2 * a0_7)) + (wrap64 (a0_6 + (wrap64 (2 * a0_4))))))))) = false := beq_eq_false_iff_ne.mpr c28
              have c28b1 : (t331 != (wrap64 (2 * (wrap64 ((wrap64 (2 * a0_7)) + (wrap64 (a0_6 + (wrap64 (2 * a0_4))))))))) = true := bne_iff_ne.mpr c28
              exact absurd ((Option.some.inj H).trans hT.out) (by decide)
          · rw [if_neg c26] at H
            have c26b0 : (t330 == (wrap64 (a0_6 + (wrap64 (2 * a0_4))))) = false := beq_eq_false_iff_ne.mpr c26
            have c26b1 : (t330 != (wrap64 (a0_6 + (wrap64 (2 * a0_4))))) = true := bne_iff_ne.mpr c26
            exact absurd ((Option.some.inj H).trans hT.out) (by decide)
  · replace c5 := Bool.eq_false_iff.mpr c5
    subst c5
    have H1 : (some false) = some r := by rw [if_neg (show ¬ (false = true) by decide)] at H; exact H
    clear H
    have H := H1
    clear H1
    exact absurd ((Option.some.inj H).trans hT.out) (by decide)

end Go.Proofs.Ytopnmlambbimpaa.Q
