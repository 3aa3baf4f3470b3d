/- The calls of these Go functions answer what the Lean functions beside them answer; written by a program (wip/pr2.py, out of the print of the loaded program); under no condition but those that stand in the theorems. -/
import Derived.Test.YtopnmlambbimpaaQx0
import Derived.Test.YtopnmlambbimpaaQx1
import Derived.Test.YtopnmlambbimpaaQx3
import Derived.Test.YtopnmlambbimpaaQx4
namespace Go.Proofs.Ytopnmlambbimpaa.Q
open Go.RowKit Go.Proofs.YtopnmlambbimpaaW.PrintWords Go.Proofs.YtopnmlambbimpaaW.PrintLast Go.Proofs.YtopnmlambbimpaaW.PrintMore
attribute [local go_sem] max2_int min2_int max_two min_two max_three min_three max_four min_four   -- for this text's walks alone
set_option linter.unusedVariables false
set_option linter.unusedSimpArgs false

attribute [local go_sem high] eqA25
/-! ### clepsydralaw12_SlewSteps: function 3 -/
mutual
def clepsydralaw12_SlewSteps.j0 : Nat → Int → Int → Bool → Int → Bool → Int → Int → Int → Int → Int → Int → Int → Int → Int → Int → Int → Int → Int → Bool → Option (Bool)
  | 0, _, _, _, _, _, _, _, _, _, _, _, _, _, _, _, _, _, _, _ => none
  | k + 1, x2, x3, x4, x11, x26, x152000, x152001, x152002, x152003, x152004, x152005, x152006, x152007, x152008, x152009, x152010, x152011, x153000, x153001 => if x26 = true then ((clepsydraref01_Clip.f x3).bind fun t155 => (clepsydralaw12_SlewSteps.j1 k x2 x3 x4 t155 x152000 x152001 x152002 x152003 x152004 x152005 x152006 x152007 x152008 x152009 x152010 x152011 x153000 x153001)) else (clepsydralaw12_SlewSteps.j1 k x2 x3 x4 x11 x152000 x152001 x152002 x152003 x152004 x152005 x152006 x152007 x152008 x152009 x152010 x152011 x153000 x153001)
def clepsydralaw12_SlewSteps.j1 : Nat → Int → Int → Bool → Int → Int → Int → Int → Int → Int → Int → Int → Int → Int → Int → Int → Int → Int → Bool → Option (Bool)
  | 0, _, _, _, _, _, _, _, _, _, _, _, _, _, _, _, _, _, _ => none
  | k + 1, x2, x3, x4, x11, x152000, x152001, x152002, x152003, x152004, x152005, x152006, x152007, x152008, x152009, x152010, x152011, x153000, x153001 => (clepsydraref01_Sub.f x153000 x3).bind fun t156 => ((slew_Clock_Step.f k x153000 x153001 x152000 x152001 x152002 x152003 x152004 x152005 x152006 x152007 x152008 x152009 x152010 x152011 x2 x3 x4).bind fun bt157 => (if (bt157.1 == x11 && (bt157.2)) = true then ((slew_Clock_Off.f k x153000 x153001 x3).bind fun t159 => (if t159 = t156 then ((slew_Clock_Off.f k x153000 x153001 x3).bind fun t160 => (some (decide (t160 ≥ 0)))) else ((slew_Clock_Off.f k x153000 x153001 x3).bind fun t161 => (if t161 = (wrap64 (-t156)) then ((slew_Clock_Off.f k x153000 x153001 x3).bind fun t162 => (some (decide (t162 ≥ 0)))) else (some false))))) else (some false)))
end
def clepsydralaw12_SlewSteps.f (k : Nat) (a0_0 : Int) (a0_1 : Int) (a0_2 : Int) (a0_3 : Int) (a0_4 : Int) (a0_5 : Int) (a0_6 : Int) (a0_7 : Int) (a0_8 : Int) (a0_9 : Int) (a0_10 : Int) (a0_11 : Int) (a1_0 : Int) (a1_1 : Bool) (a2 : Int) (a3 : Int) (a4 : Bool) : Option (Bool) := (clepsydralaw12_alive.f k).bind fun t153 => (if t153 = true then ((clepsydraref12_Step.f k a0_0 a0_1 a0_2 a0_3 a0_4 a0_5 a0_6 a0_7 a0_8 a0_9 a0_10 a0_11 a1_0 a2 a3).bind fun t154 => (if a4 = true then (clepsydralaw12_SlewSteps.j0 k a2 a3 a4 t154 true a0_0 a0_1 a0_2 a0_3 a0_4 a0_5 a0_6 a0_7 a0_8 a0_9 a0_10 a0_11 a1_0 a1_1) else (clepsydralaw12_SlewSteps.j0 k a2 a3 a4 t154 (!a1_1) a0_0 a0_1 a0_2 a0_3 a0_4 a0_5 a0_6 a0_7 a0_8 a0_9 a0_10 a0_11 a1_0 a1_1))) else (some false))
theorem clepsydralaw12_SlewSteps.mono_l : ∀ k, (∀ y0 y1 y2 y3 y4 y5 y6 y7 y8 y9 y10 y11 y12 y13 y14 y15 y16 y17 y18, LeO (clepsydralaw12_SlewSteps.j0 k y0 y1 y2 y3 y4 y5 y6 y7 y8 y9 y10 y11 y12 y13 y14 y15 y16 y17 y18) (clepsydralaw12_SlewSteps.j0 (k + 1) y0 y1 y2 y3 y4 y5 y6 y7 y8 y9 y10 y11 y12 y13 y14 y15 y16 y17 y18)) ∧ (∀ y0 y1 y2 y3 y4 y5 y6 y7 y8 y9 y10 y11 y12 y13 y14 y15 y16 y17, LeO (clepsydralaw12_SlewSteps.j1 k y0 y1 y2 y3 y4 y5 y6 y7 y8 y9 y10 y11 y12 y13 y14 y15 y16 y17) (clepsydralaw12_SlewSteps.j1 (k + 1) y0 y1 y2 y3 y4 y5 y6 y7 y8 y9 y10 y11 y12 y13 y14 y15 y16 y17))
  | 0 => ⟨fun _ _ _ _ _ _ _ _ _ _ _ _ _ _ _ _ _ _ _ r h => by simp [clepsydralaw12_SlewSteps.j0] at h, fun _ _ _ _ _ _ _ _ _ _ _ _ _ _ _ _ _ _ r h => by simp [clepsydralaw12_SlewSteps.j1] at h⟩
  | k + 1 => by
    obtain ⟨ih0, ih1⟩ := clepsydralaw12_SlewSteps.mono_l k
    refine ⟨?_, ?_⟩
    · intro y0 y1 y2 y3 y4 y5 y6 y7 y8 y9 y10 y11 y12 y13 y14 y15 y16 y17 y18
      unfold clepsydralaw12_SlewSteps.j0
      repeat' first
      | (with_reducible exact ih0 _ _ _ _ _ _ _ _ _ _ _ _ _ _ _ _ _ _ _)
      | (with_reducible exact ih1 _ _ _ _ _ _ _ _ _ _ _ _ _ _ _ _ _ _)
      | (with_reducible exact clepsydralaw12_alive.mono _)
      | (with_reducible exact clepsydraref12_Step.mono _ _ _ _ _ _ _ _ _ _ _ _ _ _ _ _)
      | (with_reducible exact slew_Clock_Off.mono _ _ _ _)
      | (with_reducible exact slew_Clock_Step.mono _ _ _ _ _ _ _ _ _ _ _ _ _ _ _ _ _ _)
      | (with_reducible exact LeO.refl _)
      | (with_reducible exact LeO.none _)
      | (with_reducible refine LeO.ite ?_ ?_)
      | (with_reducible refine LeO.bind ?_ (fun _ => ?_))
      | exact ih0 _ _ _ _ _ _ _ _ _ _ _ _ _ _ _ _ _ _ _
      | exact ih1 _ _ _ _ _ _ _ _ _ _ _ _ _ _ _ _ _ _
      | exact clepsydralaw12_alive.mono _
      | exact clepsydraref12_Step.mono _ _ _ _ _ _ _ _ _ _ _ _ _ _ _ _
      | exact slew_Clock_Off.mono _ _ _ _
      | exact slew_Clock_Step.mono _ _ _ _ _ _ _ _ _ _ _ _ _ _ _ _ _ _
      | exact LeO.none _
      | refine LeO.ite ?_ ?_
      | refine LeO.bind ?_ (fun _ => ?_)
    · intro y0 y1 y2 y3 y4 y5 y6 y7 y8 y9 y10 y11 y12 y13 y14 y15 y16 y17
      unfold clepsydralaw12_SlewSteps.j1
      repeat' first
      | (with_reducible exact ih0 _ _ _ _ _ _ _ _ _ _ _ _ _ _ _ _ _ _ _)
      | (with_reducible exact ih1 _ _ _ _ _ _ _ _ _ _ _ _ _ _ _ _ _ _)
      | (with_reducible exact clepsydralaw12_alive.mono _)
      | (with_reducible exact clepsydraref12_Step.mono _ _ _ _ _ _ _ _ _ _ _ _ _ _ _ _)
      | (with_reducible exact slew_Clock_Off.mono _ _ _ _)
      | (with_reducible exact slew_Clock_Step.mono _ _ _ _ _ _ _ _ _ _ _ _ _ _ _ _ _ _)
      | (with_reducible exact LeO.refl _)
      | (with_reducible exact LeO.none _)
      | (with_reducible refine LeO.ite ?_ ?_)
      | (with_reducible refine LeO.bind ?_ (fun _ => ?_))
      | exact ih0 _ _ _ _ _ _ _ _ _ _ _ _ _ _ _ _ _ _ _
      | exact ih1 _ _ _ _ _ _ _ _ _ _ _ _ _ _ _ _ _ _
      | exact clepsydralaw12_alive.mono _
      | exact clepsydraref12_Step.mono _ _ _ _ _ _ _ _ _ _ _ _ _ _ _ _
      | exact slew_Clock_Off.mono _ _ _ _
      | exact slew_Clock_Step.mono _ _ _ _ _ _ _ _ _ _ _ _ _ _ _ _ _ _
      | exact LeO.none _
      | refine LeO.ite ?_ ?_
      | refine LeO.bind ?_ (fun _ => ?_)
theorem clepsydralaw12_SlewSteps.mono : ∀ a0 a1 a2 a3 a4 a5 a6 a7 a8 a9 a10 a11 a12 a13 a14 a15 a16 k, LeO (clepsydralaw12_SlewSteps.f k a0 a1 a2 a3 a4 a5 a6 a7 a8 a9 a10 a11 a12 a13 a14 a15 a16) (clepsydralaw12_SlewSteps.f (k + 1) a0 a1 a2 a3 a4 a5 a6 a7 a8 a9 a10 a11 a12 a13 a14 a15 a16) := by
  intro a0 a1 a2 a3 a4 a5 a6 a7 a8 a9 a10 a11 a12 a13 a14 a15 a16 k
  obtain ⟨ih0, ih1⟩ := clepsydralaw12_SlewSteps.mono_l k
  unfold clepsydralaw12_SlewSteps.f
  repeat' first
      | (with_reducible exact ih0 _ _ _ _ _ _ _ _ _ _ _ _ _ _ _ _ _ _ _)
      | (with_reducible exact ih1 _ _ _ _ _ _ _ _ _ _ _ _ _ _ _ _ _ _)
      | (with_reducible exact clepsydralaw12_alive.mono _)
      | (with_reducible exact clepsydraref12_Step.mono _ _ _ _ _ _ _ _ _ _ _ _ _ _ _ _)
      | (with_reducible exact slew_Clock_Off.mono _ _ _ _)
      | (with_reducible exact slew_Clock_Step.mono _ _ _ _ _ _ _ _ _ _ _ _ _ _ _ _ _ _)
      | (with_reducible exact LeO.refl _)
      | (with_reducible exact LeO.none _)
      | (with_reducible refine LeO.ite ?_ ?_)
      | (with_reducible refine LeO.bind ?_ (fun _ => ?_))
      | exact ih0 _ _ _ _ _ _ _ _ _ _ _ _ _ _ _ _ _ _ _
      | exact ih1 _ _ _ _ _ _ _ _ _ _ _ _ _ _ _ _ _ _
      | exact clepsydralaw12_alive.mono _
      | exact clepsydraref12_Step.mono _ _ _ _ _ _ _ _ _ _ _ _ _ _ _ _
      | exact slew_Clock_Off.mono _ _ _ _
      | exact slew_Clock_Step.mono _ _ _ _ _ _ _ _ _ _ _ _ _ _ _ _ _ _
      | exact LeO.none _
      | refine LeO.ite ?_ ?_
      | refine LeO.bind ?_ (fun _ => ?_)
set_option maxHeartbeats 8000000 in
set_option maxRecDepth 100000 in
theorem clepsydralaw12_SlewSteps.calls (k : Nat) (a0_0 : Int) (a0_1 : Int) (a0_2 : Int) (a0_3 : Int) (a0_4 : Int) (a0_5 : Int) (a0_6 : Int) (a0_7 : Int) (a0_8 : Int) (a0_9 : Int) (a0_10 : Int) (a0_11 : Int) (a1_0 : Int) (a1_1 : Bool) (a2 : Int) (a3 : Int) (a4 : Bool) (r : Bool) (w : World) (hT : Aside0 (r = true)) (h : clepsydralaw12_SlewSteps.f k a0_0 a0_1 a0_2 a0_3 a0_4 a0_5 a0_6 a0_7 a0_8 a0_9 a0_10 a0_11 a1_0 a1_1 a2 a3 a4 = some r) :
    Calls Try.prog 3 #[.agg #[.int .i64 a0_0, .int .i64 a0_1, .int .i64 a0_2, .int .i64 a0_3, .int .i64 a0_4, .int .i64 a0_5, .int .i64 a0_6, .int .i64 a0_7, .int .i64 a0_8, .int .i64 a0_9, .int .i64 a0_10, .int .i64 a0_11], .agg #[.int .i64 a1_0, .bool a1_1], .int .i64 a2, .int .i64 a3, .bool a4] w fun e w' => e = .returned (.bool r) ∧ Below w.heap.size w w' := by
  have hu23 := Try.underlying23
  have hu25 := Try.underlying25
  have HB := Aside0.mk (Below.refl w.heap.size w)
  have H : ((clepsydralaw12_alive.f k).bind fun t153 => (if t153 = true then ((clepsydraref12_Step.f k a0_0 a0_1 a0_2 a0_3 a0_4 a0_5 a0_6 a0_7 a0_8 a0_9 a0_10 a0_11 a1_0 a2 a3).bind fun t154 => (if a4 = true then (clepsydralaw12_SlewSteps.j0 k a2 a3 a4 t154 true a0_0 a0_1 a0_2 a0_3 a0_4 a0_5 a0_6 a0_7 a0_8 a0_9 a0_10 a0_11 a1_0 a1_1) else (clepsydralaw12_SlewSteps.j0 k a2 a3 a4 t154 (!a1_1) a0_0 a0_1 a0_2 a0_3 a0_4 a0_5 a0_6 a0_7 a0_8 a0_9 a0_10 a0_11 a1_0 a1_1))) else (some false))) = some r := h
  clear h
  replace H := Option.bind_eq_some_iff.mp H
  obtain ⟨t153, A60, H⟩ := H
  replace H : (if t153 = true then ((clepsydraref12_Step.f k a0_0 a0_1 a0_2 a0_3 a0_4 a0_5 a0_6 a0_7 a0_8 a0_9 a0_10 a0_11 a1_0 a2 a3).bind fun t154 => (if a4 = true then (clepsydralaw12_SlewSteps.j0 k a2 a3 a4 t154 true a0_0 a0_1 a0_2 a0_3 a0_4 a0_5 a0_6 a0_7 a0_8 a0_9 a0_10 a0_11 a1_0 a1_1) else (clepsydralaw12_SlewSteps.j0 k a2 a3 a4 t154 (!a1_1) a0_0 a0_1 a0_2 a0_3 a0_4 a0_5 a0_6 a0_7 a0_8 a0_9 a0_10 a0_11 a1_0 a1_1))) else (some false)) = some r := H
  have A6 := Aside0.mk A60
  clear A60
  by_cases c7 : t153 = true
  · subst c7
    have H1 : ((clepsydraref12_Step.f k a0_0 a0_1 a0_2 a0_3 a0_4 a0_5 a0_6 a0_7 a0_8 a0_9 a0_10 a0_11 a1_0 a2 a3).bind fun t154 => (if a4 = true then (clepsydralaw12_SlewSteps.j0 k a2 a3 a4 t154 true a0_0 a0_1 a0_2 a0_3 a0_4 a0_5 a0_6 a0_7 a0_8 a0_9 a0_10 a0_11 a1_0 a1_1) else (clepsydralaw12_SlewSteps.j0 k a2 a3 a4 t154 (!a1_1) a0_0 a0_1 a0_2 a0_3 a0_4 a0_5 a0_6 a0_7 a0_8 a0_9 a0_10 a0_11 a1_0 a1_1))) = some r := by rw [if_pos rfl] at H; exact H
    clear H
    have H := H1
    clear H1
    replace H := Option.bind_eq_some_iff.mp H
    obtain ⟨t154, A80, H⟩ := H
    replace H : (if a4 = true then (clepsydralaw12_SlewSteps.j0 k a2 a3 a4 t154 true a0_0 a0_1 a0_2 a0_3 a0_4 a0_5 a0_6 a0_7 a0_8 a0_9 a0_10 a0_11 a1_0 a1_1) else (clepsydralaw12_SlewSteps.j0 k a2 a3 a4 t154 (!a1_1) a0_0 a0_1 a0_2 a0_3 a0_4 a0_5 a0_6 a0_7 a0_8 a0_9 a0_10 a0_11 a1_0 a1_1)) = some r := H
    have A8 := Aside0.mk A80
    clear A80
    have HC9 := Aside0.mk H
    clear H
    go_enter Try.func3, Try.ntmps3
    go_upto_region 4 with (first | ((with_reducible refine gate_dst (N := 5) rfl ?_); refine box_event ?hg (N := 5) ?hd (cs := #[.int .i64 a0_0, .int .i64 a0_1, .int .i64 a0_2, .int .i64 a0_3, .int .i64 a0_4, .int .i64 a0_5, .int .i64 a0_6, .int .i64 a0_7, .int .i64 a0_8, .int .i64 a0_9, .int .i64 a0_10, .int .i64 a0_11]) (t := 23) ?hr ?_; (case hd => rfl); (case hg => rfl); (case hr => first | (go_simp; done) | (go_simp; rfl)); intro gb151 hg w10 hbox hb; have n0_ := Aside0.mk (below_step (by repeat (first | (with_reducible first | exact HB.out | apply below_alloc | apply pw_below_drewN | apply below_drew1) | exact HB.out)) hb); have n1_ := Aside0.mk (hbox); have n2_ := Aside0.mk ((by rw [hg]; exact (below_size (by repeat (first | (with_reducible first | exact HB.out | apply below_alloc | apply pw_below_drewN | apply below_drew1) | exact HB.out))) : w.heap.size ≤ gb151)); have n3_ := Aside0.mk ((by rw [hg]; exact (below_size (by repeat (first | (with_reducible first | exact HB.out | apply below_alloc | apply pw_below_drewN | apply below_drew1) | exact HB.out))) : w.heap.size ≤ gb151)); clear HB; have HB := n0_; have BK151 := n1_; have GW151 := n2_; have GE151 := n3_; clear n0_ n1_ n2_ n3_; clear hb hbox hg) | ((with_reducible refine gate_dst (N := 6) rfl ?_); refine box_event ?hg (N := 6) ?hd (cs := #[.int .i64 a1_0, .bool a1_1]) (t := 25) ?hr ?_; (case hd => rfl); (case hg => rfl); (case hr => first | (go_simp; done) | (go_simp; rfl)); intro gb152 hg w11 hbox hb; have n0_ := Aside0.mk (blk_below (g := gb151) (o := .cells #[.int .i64 a0_0, .int .i64 a0_1, .int .i64 a0_2, .int .i64 a0_3, .int .i64 a0_4, .int .i64 a0_5, .int .i64 a0_6, .int .i64 a0_7, .int .i64 a0_8, .int .i64 a0_9, .int .i64 a0_10, .int .i64 a0_11] 23 (0, 0)) (by (with_reducible repeat (first | refine blk_drewN ?_ _ | refine blk_drew ?_ | refine blk_alloc ?_ _)); exact BK151.out) hb); have n1_ := Aside0.mk (below_step (by repeat (first | (with_reducible first | exact HB.out | apply below_alloc | apply pw_below_drewN | apply below_drew1 | refine below_set ?_ GE151.out) | exact HB.out)) hb); have n2_ := Aside0.mk (hbox); have n3_ := Aside0.mk ((by rw [hg]; exact (below_size (by repeat (first | (with_reducible first | exact HB.out | apply below_alloc | apply pw_below_drewN | apply below_drew1 | refine below_set ?_ GE151.out) | exact HB.out))) : w.heap.size ≤ gb152)); have n4_ := Aside0.mk ((by rw [hg]; exact (below_size (by repeat (first | (with_reducible first | exact HB.out | apply below_alloc | apply pw_below_drewN | apply below_drew1 | refine below_set ?_ GE151.out) | exact HB.out))) : w.heap.size ≤ gb152)); have n5_ := Aside0.mk ((by rw [hg]; exact Nat.ne_of_lt (blk_lt (g := gb151) (o := .cells #[.int .i64 a0_0, .int .i64 a0_1, .int .i64 a0_2, .int .i64 a0_3, .int .i64 a0_4, .int .i64 a0_5, .int .i64 a0_6, .int .i64 a0_7, .int .i64 a0_8, .int .i64 a0_9, .int .i64 a0_10, .int .i64 a0_11] 23 (0, 0)) (by (with_reducible repeat (first | refine blk_drewN ?_ _ | refine blk_drew ?_ | refine blk_alloc ?_ _)); exact BK151.out)) : gb151 ≠ gb152)); have n6_ := Aside0.mk ((by rw [hg]; exact Nat.ne_of_gt (blk_lt (g := gb151) (o := .cells #[.int .i64 a0_0, .int .i64 a0_1, .int .i64 a0_2, .int .i64 a0_3, .int .i64 a0_4, .int .i64 a0_5, .int .i64 a0_6, .int .i64 a0_7, .int .i64 a0_8, .int .i64 a0_9, .int .i64 a0_10, .int .i64 a0_11] 23 (0, 0)) (by (with_reducible repeat (first | refine blk_drewN ?_ _ | refine blk_drew ?_ | refine blk_alloc ?_ _)); exact BK151.out)) : gb152 ≠ gb151)); clear BK151; clear HB; have BK151 := n0_; have HB := n1_; have BK152 := n2_; have GW152 := n3_; have GE152 := n4_; have NB151_152 := n5_; have NB152_151 := n6_; clear n0_ n1_ n2_ n3_ n4_ n5_ n6_; clear hb hbox hg) | ((with_reducible refine gate_callee (f := 12) rfl ?_); refine goesL_ (some 13) rfl rfl Try.func12 (by kernel_rfl) rfl #[] rfl (by (try simp only [List.map_toArray, List.map_cons, List.map_nil]); first | done | rfl | (simp only [List.length_drop, List.length_take]; rfl)) ?_; (with_reducible refine (clepsydralaw12_alive.calls k  true _ A6.out).mono ?_); rintro e w12 ⟨rfl, hb⟩; refine ⟨_, rfl, ?_⟩; have n0_ := Aside0.mk (blk_below (g := gb151) (o := .cells #[.int .i64 a0_0, .int .i64 a0_1, .int .i64 a0_2, .int .i64 a0_3, .int .i64 a0_4, .int .i64 a0_5, .int .i64 a0_6, .int .i64 a0_7, .int .i64 a0_8, .int .i64 a0_9, .int .i64 a0_10, .int .i64 a0_11] 23 (0, 0)) (by (with_reducible repeat (first | refine blk_drewN ?_ _ | refine blk_drew ?_ | refine blk_alloc ?_ _)); exact BK151.out) hb); have n1_ := Aside0.mk (blk_below (g := gb152) (o := .cells #[.int .i64 a1_0, .bool a1_1] 25 (0, 0)) (by (with_reducible repeat (first | refine blk_drewN ?_ _ | refine blk_drew ?_ | refine blk_alloc ?_ _)); exact BK152.out) hb); have n2_ := Aside0.mk (below_step (by repeat (first | (with_reducible first | exact HB.out | apply below_alloc | apply pw_below_drewN | apply below_drew1 | refine below_set ?_ GE151.out | refine below_set ?_ GE152.out) | exact HB.out)) hb); clear BK151; clear BK152; clear HB; have BK151 := n0_; have BK152 := n1_; have HB := n2_; clear n0_ n1_ n2_; (try clear hb); (try clear hb2); (try clear hk); (try clear hi); have hnb13 := NB151_152.out; have hnc13 := NB152_151.out; have hcz14_0 : w12.cell? ⟨gb151, 0, none⟩ = some (.int .i64 a0_0) := (blk_cell BK151.out 0).trans rfl; have hcz14_1 : w12.cell? ⟨gb151, 1, none⟩ = some (.int .i64 a0_1) := (blk_cell BK151.out 1).trans rfl; have hcz14_2 : w12.cell? ⟨gb151, 2, none⟩ = some (.int .i64 a0_2) := (blk_cell BK151.out 2).trans rfl; have hcz14_3 : w12.cell? ⟨gb151, 3, none⟩ = some (.int .i64 a0_3) := (blk_cell BK151.out 3).trans rfl; have hcz14_4 : w12.cell? ⟨gb151, 4, none⟩ = some (.int .i64 a0_4) := (blk_cell BK151.out 4).trans rfl; have hcz14_5 : w12.cell? ⟨gb151, 5, none⟩ = some (.int .i64 a0_5) := (blk_cell BK151.out 5).trans rfl; have hcz14_6 : w12.cell? ⟨gb151, 6, none⟩ = some (.int .i64 a0_6) := (blk_cell BK151.out 6).trans rfl; have hcz14_7 : w12.cell? ⟨gb151, 7, none⟩ = some (.int .i64 a0_7) := (blk_cell BK151.out 7).trans rfl; have hcz14_8 : w12.cell? ⟨gb151, 8, none⟩ = some (.int .i64 a0_8) := (blk_cell BK151.out 8).trans rfl; have hcz14_9 : w12.cell? ⟨gb151, 9, none⟩ = some (.int .i64 a0_9) := (blk_cell BK151.out 9).trans rfl; have hcz14_10 : w12.cell? ⟨gb151, 10, none⟩ = some (.int .i64 a0_10) := (blk_cell BK151.out 10).trans rfl; have hcz14_11 : w12.cell? ⟨gb151, 11, none⟩ = some (.int .i64 a0_11) := (blk_cell BK151.out 11).trans rfl; have hfz14_0 := blk_frozen BK151.out 0; have hfz14_1 := blk_frozen BK151.out 1; have hfz14_2 := blk_frozen BK151.out 2; have hfz14_3 := blk_frozen BK151.out 3; have hfz14_4 := blk_frozen BK151.out 4; have hfz14_5 := blk_frozen BK151.out 5; have hfz14_6 := blk_frozen BK151.out 6; have hfz14_7 := blk_frozen BK151.out 7; have hfz14_8 := blk_frozen BK151.out 8; have hfz14_9 := blk_frozen BK151.out 9; have hfz14_10 := blk_frozen BK151.out 10; have hfz14_11 := blk_frozen BK151.out 11; have hcz15_0 : w12.cell? ⟨gb152, 0, none⟩ = some (.int .i64 a1_0) := (blk_cell BK152.out 0).trans rfl; have hcz15_1 : w12.cell? ⟨gb152, 1, none⟩ = some (.bool a1_1) := (blk_cell BK152.out 1).trans rfl; have hfz15_0 := blk_frozen BK152.out 0; have hfz15_1 := blk_frozen BK152.out 1) | ((with_reducible refine gate_callee (f := 13) rfl ?_); refine goesL_ (some 20) rfl rfl Try.func13 (by kernel_rfl) rfl #[.agg #[.int .i64 a0_0, .int .i64 a0_1, .int .i64 a0_2, .int .i64 a0_3, .int .i64 a0_4, .int .i64 a0_5, .int .i64 a0_6, .int .i64 a0_7, .int .i64 a0_8, .int .i64 a0_9, .int .i64 a0_10, .int .i64 a0_11], .int .i64 a1_0, .int .i64 a2, .int .i64 a3] rfl (by (try simp only [List.map_toArray, List.map_cons, List.map_nil]); first | done | rfl | (simp only [List.length_drop, List.length_take]; rfl)) ?_; (with_reducible refine (clepsydraref12_Step.calls k a0_0 a0_1 a0_2 a0_3 a0_4 a0_5 a0_6 a0_7 a0_8 a0_9 a0_10 a0_11 a1_0 a2 a3 t154 _ A8.out).mono ?_); rintro e w16 ⟨rfl, hb⟩; refine ⟨_, rfl, ?_⟩; have n0_ := Aside0.mk (blk_below (g := gb151) (o := .cells #[.int .i64 a0_0, .int .i64 a0_1, .int .i64 a0_2, .int .i64 a0_3, .int .i64 a0_4, .int .i64 a0_5, .int .i64 a0_6, .int .i64 a0_7, .int .i64 a0_8, .int .i64 a0_9, .int .i64 a0_10, .int .i64 a0_11] 23 (0, 0)) (by (with_reducible repeat (first | refine blk_drewN ?_ _ | refine blk_drew ?_ | refine blk_alloc ?_ _)); exact BK151.out) hb); have n1_ := Aside0.mk (blk_below (g := gb152) (o := .cells #[.int .i64 a1_0, .bool a1_1] 25 (0, 0)) (by (with_reducible repeat (first | refine blk_drewN ?_ _ | refine blk_drew ?_ | refine blk_alloc ?_ _)); exact BK152.out) hb); have n2_ := Aside0.mk (below_step (by repeat (first | (with_reducible first | exact HB.out | apply below_alloc | apply pw_below_drewN | apply below_drew1 | refine below_set ?_ GE151.out | refine below_set ?_ GE152.out) | exact HB.out)) hb); clear BK151; clear BK152; clear HB; have BK151 := n0_; have BK152 := n1_; have HB := n2_; clear n0_ n1_ n2_; (try clear hb); (try clear hb2); (try clear hk); (try clear hi)))
    (try simp only [Act.put, List.setIfInBounds_toArray, List.set_cons_zero, List.set_cons_succ])
    go_cut [26] (fun v26 wc => ∃ (kq : Nat) (x26_8 : Bool), v26 = .bool x26_8 ∧ Aside0 (clepsydralaw12_SlewSteps.j0 kq a2 a3 a4 t154 x26_8 a0_0 a0_1 a0_2 a0_3 a0_4 a0_5 a0_6 a0_7 a0_8 a0_9 a0_10 a0_11 a1_0 a1_1 = some r) ∧ Aside0 (kq ≤ k) ∧ Aside0 (wc.heap[gb151]? = some (.cells #[.int .i64 a0_0, .int .i64 a0_1, .int .i64 a0_2, .int .i64 a0_3, .int .i64 a0_4, .int .i64 a0_5, .int .i64 a0_6, .int .i64 a0_7, .int .i64 a0_8, .int .i64 a0_9, .int .i64 a0_10, .int .i64 a0_11] 23 (0, 0))) ∧ Aside0 (wc.heap[gb152]? = some (.cells #[.int .i64 a1_0, .bool a1_1] 25 (0, 0))) ∧ Aside0 (Below w.heap.size w wc))
    case first =>
      have H := HC9.out
      clear HC9
      by_cases c17 : a4 = true
      · subst c17
        have H1 : (clepsydralaw12_SlewSteps.j0 k a2 a3 true t154 true a0_0 a0_1 a0_2 a0_3 a0_4 a0_5 a0_6 a0_7 a0_8 a0_9 a0_10 a0_11 a1_0 a1_1) = some r := by rw [if_pos rfl] at H; exact H
        clear H
        have H := H1
        clear H1
        have H' := Aside0.mk H
        clear H
        go_wp2
        go_meet
        case rel => exact ⟨_, (true), (by first | rfl | (simp; done) | (simp [*]; done) | (simp [Int.tdiv_eq_ediv_of_nonneg]; done) | (simp [Go.RowKit.wrap64]; done) | (simp [*, Go.RowKit.wrap64]; done)), H', ⟨by first | omega | exact Nat.le_refl _⟩, ⟨by (with_reducible repeat (first | refine blk_drewN ?_ _ | refine blk_drew ?_ | refine blk_alloc ?_ _)); exact BK151.out⟩, ⟨by (with_reducible repeat (first | refine blk_drewN ?_ _ | refine blk_drew ?_ | refine blk_alloc ?_ _)); exact BK152.out⟩, ⟨by repeat (first | (with_reducible first | exact HB.out | apply below_alloc | apply pw_below_drewN | apply below_drew1 | refine below_set ?_ GE151.out | refine below_set ?_ GE152.out) | exact HB.out)⟩⟩
      · replace c17 := Bool.eq_false_iff.mpr c17
        subst c17
        have H1 : (clepsydralaw12_SlewSteps.j0 k a2 a3 false t154 (!a1_1) a0_0 a0_1 a0_2 a0_3 a0_4 a0_5 a0_6 a0_7 a0_8 a0_9 a0_10 a0_11 a1_0 a1_1) = some r := by rw [if_neg (show ¬ (false = true) by decide)] at H; exact H
        clear H
        have H := H1
        clear H1
        have H' := Aside0.mk H
        clear H
        have hnb18 := NB152_151.out
        have hnc18 := NB151_152.out
        have hcz19_0 : w16.cell? ⟨gb152, 0, none⟩ = some (.int .i64 a1_0) := (blk_cell BK152.out 0).trans rfl
        have hcz19_1 : w16.cell? ⟨gb152, 1, none⟩ = some (.bool a1_1) := (blk_cell BK152.out 1).trans rfl
        have hfz19_0 := blk_frozen BK152.out 0
        have hfz19_1 := blk_frozen BK152.out 1
        go_wp2
        go_meet
        case rel => exact ⟨_, (!a1_1), (by first | rfl | (simp; done) | (simp [*]; done) | (simp [Int.tdiv_eq_ediv_of_nonneg]; done) | (simp [Go.RowKit.wrap64]; done) | (simp [*, Go.RowKit.wrap64]; done)), H', ⟨by first | omega | exact Nat.le_refl _⟩, ⟨by (with_reducible repeat (first | refine blk_drewN ?_ _ | refine blk_drew ?_ | refine blk_alloc ?_ _)); exact BK151.out⟩, ⟨by (with_reducible repeat (first | refine blk_drewN ?_ _ | refine blk_drew ?_ | refine blk_alloc ?_ _)); exact BK152.out⟩, ⟨by repeat (first | (with_reducible first | exact HB.out | apply below_alloc | apply pw_below_drewN | apply below_drew1 | refine below_set ?_ GE151.out | refine below_set ?_ GE152.out) | exact HB.out)⟩⟩
    case rest =>
      clear HC9
      try clear c1
      try clear p2
      try clear c3
      try clear c7
      try clear c12
      try clear c13
      try clear c17
      try clear c18
      try clear hcz14_0
      try clear hcz14_1
      try clear hcz14_10
      try clear hcz14_11
      try clear hcz14_2
      try clear hcz14_3
      try clear hcz14_4
      try clear hcz14_5
      try clear hcz14_6
      try clear hcz14_7
      try clear hcz14_8
      try clear hcz14_9
      try clear hcz15_0
      try clear hcz15_1
      try clear hcz19_0
      try clear hcz19_1
      try clear hfz14_0
      try clear hfz14_1
      try clear hfz14_10
      try clear hfz14_11
      try clear hfz14_2
      try clear hfz14_3
      try clear hfz14_4
      try clear hfz14_5
      try clear hfz14_6
      try clear hfz14_7
      try clear hfz14_8
      try clear hfz14_9
      try clear hfz15_0
      try clear hfz15_1
      try clear hfz19_0
      try clear hfz19_1
      obtain ⟨kq, x26_8, rfl, HA, HJ8, BK151, BK152, HB⟩ := hcut
      cases kq with
      | zero => exact absurd HA.out (by simp [clepsydralaw12_SlewSteps.j0])
      | succ kj8 =>
        have H := HA.out
        clear HA
        simp only [clepsydralaw12_SlewSteps.j0] at H
        have HC20 := Aside0.mk H
        clear H
        go_upto_if 26 with (fail)
        go_cut [11] (fun v11 wc => ∃ (kq : Nat) (x11_19 : Int), v11 = .int .i64 x11_19 ∧ Aside0 (clepsydralaw12_SlewSteps.j1 kq a2 a3 a4 x11_19 a0_0 a0_1 a0_2 a0_3 a0_4 a0_5 a0_6 a0_7 a0_8 a0_9 a0_10 a0_11 a1_0 a1_1 = some r) ∧ Aside0 (kq ≤ kj8) ∧ Aside0 (wc.heap[gb151]? = some (.cells #[.int .i64 a0_0, .int .i64 a0_1, .int .i64 a0_2, .int .i64 a0_3, .int .i64 a0_4, .int .i64 a0_5, .int .i64 a0_6, .int .i64 a0_7, .int .i64 a0_8, .int .i64 a0_9, .int .i64 a0_10, .int .i64 a0_11] 23 (0, 0))) ∧ Aside0 (wc.heap[gb152]? = some (.cells #[.int .i64 a1_0, .bool a1_1] 25 (0, 0))) ∧ Aside0 (Below w.heap.size w wc))
        case first =>
          have H := HC20.out
          clear HC20
          by_cases c21 : x26_8 = true
          · subst c21
            have H1 : ((clepsydraref01_Clip.f a3).bind fun t155 => (clepsydralaw12_SlewSteps.j1 kj8 a2 a3 a4 t155 a0_0 a0_1 a0_2 a0_3 a0_4 a0_5 a0_6 a0_7 a0_8 a0_9 a0_10 a0_11 a1_0 a1_1)) = some r := by rw [if_pos rfl] at H; exact H
            clear H
            have H := H1
            clear H1
            replace H := Option.bind_eq_some_iff.mp H
            obtain ⟨t155, A220, H⟩ := H
            replace H : (clepsydralaw12_SlewSteps.j1 kj8 a2 a3 a4 t155 a0_0 a0_1 a0_2 a0_3 a0_4 a0_5 a0_6 a0_7 a0_8 a0_9 a0_10 a0_11 a1_0 a1_1) = some r := H
            have A22 := Aside0.mk A220
            clear A220
            have H' := Aside0.mk H
            clear H
            go_wp2_with (first | ((with_reducible refine gate_callee (f := 14) rfl ?_); refine goesL_ (some 28) rfl rfl Try.func14 (by kernel_rfl) rfl #[.int .i64 a3] rfl (by (try simp only [List.map_toArray, List.map_cons, List.map_nil]); first | done | rfl | (simp only [List.length_drop, List.length_take]; rfl)) ?_; (with_reducible refine (clepsydraref01_Clip.calls a3 t155 _ A22.out).mono ?_); rintro e w' ⟨rfl, ⟨nd, rfl⟩⟩; refine ⟨_, rfl, ?_⟩))
            go_meet
            case rel => exact ⟨_, (t155), (by first | rfl | (simp; done) | (simp [*]; done) | (simp [Int.tdiv_eq_ediv_of_nonneg]; done) | (simp [Go.RowKit.wrap64]; done) | (simp [*, Go.RowKit.wrap64]; done)), H', ⟨by have := HJ8.out; first | omega | exact Nat.le_refl _⟩, ⟨by (with_reducible repeat (first | refine blk_drewN ?_ _ | refine blk_drew ?_ | refine blk_alloc ?_ _)); exact BK151.out⟩, ⟨by (with_reducible repeat (first | refine blk_drewN ?_ _ | refine blk_drew ?_ | refine blk_alloc ?_ _)); exact BK152.out⟩, ⟨by repeat (first | (with_reducible first | exact HB.out | apply below_alloc | apply pw_below_drewN | apply below_drew1 | refine below_set ?_ GE151.out | refine below_set ?_ GE152.out) | exact HB.out)⟩⟩
          · replace c21 := Bool.eq_false_iff.mpr c21
            subst c21
            have H1 : (clepsydralaw12_SlewSteps.j1 kj8 a2 a3 a4 t154 a0_0 a0_1 a0_2 a0_3 a0_4 a0_5 a0_6 a0_7 a0_8 a0_9 a0_10 a0_11 a1_0 a1_1) = some r := by rw [if_neg (show ¬ (false = true) by decide)] at H; exact H
            clear H
            have H := H1
            clear H1
            have H' := Aside0.mk H
            clear H
            go_wp2
            go_meet
            case rel => exact ⟨_, (t154), (by first | rfl | (simp; done) | (simp [*]; done) | (simp [Int.tdiv_eq_ediv_of_nonneg]; done) | (simp [Go.RowKit.wrap64]; done) | (simp [*, Go.RowKit.wrap64]; done)), H', ⟨by have := HJ8.out; first | omega | exact Nat.le_refl _⟩, ⟨by (with_reducible repeat (first | refine blk_drewN ?_ _ | refine blk_drew ?_ | refine blk_alloc ?_ _)); exact BK151.out⟩, ⟨by (with_reducible repeat (first | refine blk_drewN ?_ _ | refine blk_drew ?_ | refine blk_alloc ?_ _)); exact BK152.out⟩, ⟨by repeat (first | (with_reducible first | exact HB.out | apply below_alloc | apply pw_below_drewN | apply below_drew1 | refine below_set ?_ GE151.out | refine below_set ?_ GE152.out) | exact HB.out)⟩⟩
        case rest =>
          clear HC20
          try clear c1
          try clear c2
          try clear p2
          try clear c3
          try clear c7
          try clear c12
          try clear c13
          try clear c14
          try clear c17
          try clear c18
          try clear c21
          try clear hcz14_0
          try clear hcz14_1
          try clear hcz14_10
          try clear hcz14_11
          try clear hcz14_2
          try clear hcz14_3
          try clear hcz14_4
          try clear hcz14_5
          try clear hcz14_6
          try clear hcz14_7
          try clear hcz14_8
          try clear hcz14_9
          try clear hcz15_0
          try clear hcz15_1
          try clear hcz19_0
          try clear hcz19_1
          try clear hfz14_0
          try clear hfz14_1
          try clear hfz14_10
          try clear hfz14_11
          try clear hfz14_2
          try clear hfz14_3
          try clear hfz14_4
          try clear hfz14_5
          try clear hfz14_6
          try clear hfz14_7
          try clear hfz14_8
          try clear hfz14_9
          try clear hfz15_0
          try clear hfz15_1
          try clear hfz19_0
          try clear hfz19_1
          try clear p2
          obtain ⟨kq, x11_19, rfl, HA, HJ19, BK151, BK152, HB⟩ := hcut
          cases kq with
          | zero => exact absurd HA.out (by simp [clepsydralaw12_SlewSteps.j1])
          | succ kj19 =>
            have H := HA.out
            clear HA
            simp only [clepsydralaw12_SlewSteps.j1] at H
            replace H := Option.bind_eq_some_iff.mp H
            obtain ⟨t156, A230, H⟩ := H
            replace H : ((slew_Clock_Step.f kj19 a1_0 a1_1 a0_0 a0_1 a0_2 a0_3 a0_4 a0_5 a0_6 a0_7 a0_8 a0_9 a0_10 a0_11 a2 a3 a4).bind fun bt157 => (if (bt157.1 == x11_19 && (bt157.2)) = true then ((slew_Clock_Off.f kj19 a1_0 a1_1 a3).bind fun t159 => (if t159 = t156 then ((slew_Clock_Off.f kj19 a1_0 a1_1 a3).bind fun t160 => (some (decide (t160 ≥ 0)))) else ((slew_Clock_Off.f kj19 a1_0 a1_1 a3).bind fun t161 => (if t161 = (wrap64 (-t156)) then ((slew_Clock_Off.f kj19 a1_0 a1_1 a3).bind fun t162 => (some (decide (t162 ≥ 0)))) else (some false))))) else (some false))) = some r := H
            have A23 := Aside0.mk A230
            clear A230
            replace H := Option.bind_eq_some_iff.mp H
            obtain ⟨⟨t157, t158⟩, A240, H⟩ := H
            replace H : (if (t157 == x11_19 && (t158)) = true then ((slew_Clock_Off.f kj19 a1_0 a1_1 a3).bind fun t159 => (if t159 = t156 then ((slew_Clock_Off.f kj19 a1_0 a1_1 a3).bind fun t160 => (some (decide (t160 ≥ 0)))) else ((slew_Clock_Off.f kj19 a1_0 a1_1 a3).bind fun t161 => (if t161 = (wrap64 (-t156)) then ((slew_Clock_Off.f kj19 a1_0 a1_1 a3).bind fun t162 => (some (decide (t162 ≥ 0)))) else (some false))))) else (some false)) = some r := H
            have A24 := Aside0.mk A240
            clear A240
            by_cases c25 : (t157 == x11_19 && (t158)) = true
            · rw [if_pos c25] at H
              have c25b0 : (t157 == x11_19 && (t158)) = true := c25
              (try (have c25b1 : decide (t157 = x11_19 && (t158)) = true := by simpa using c25))
              (try (have c25b2 : (t157 == x11_19 && (t158)) = true := by simpa using c25))
              clear c25
              replace H := Option.bind_eq_some_iff.mp H
              obtain ⟨t159, A260, H⟩ := H
              replace H : (if t159 = t156 then ((slew_Clock_Off.f kj19 a1_0 a1_1 a3).bind fun t160 => (some (decide (t160 ≥ 0)))) else ((slew_Clock_Off.f kj19 a1_0 a1_1 a3).bind fun t161 => (if t161 = (wrap64 (-t156)) then ((slew_Clock_Off.f kj19 a1_0 a1_1 a3).bind fun t162 => (some (decide (t162 ≥ 0)))) else (some false)))) = some r := H
              have A26 := Aside0.mk A260
              clear A260
              by_cases c27 : t159 = t156
              · rw [if_pos c27] at H
                have c27b0 : (t159 == t156) = true := beq_iff_eq.mpr c27
                have c27b1 : (t159 != t156) = false := bne_eq_false_iff_eq.mpr c27
                clear c27
                replace H := Option.bind_eq_some_iff.mp H
                obtain ⟨t160, A280, H⟩ := H
                replace H : (some (decide (t160 ≥ 0))) = some r := H
                have A28 := Aside0.mk A280
                clear A280
                obtain rfl : t159 = t160 := Option.some.inj (A26.out.symm.trans A28.out)
                obtain rfl := Option.some.inj H
                have hnb29 := NB152_151.out
                have hnc29 := NB151_152.out
                have hcz30_0 : wc.cell? ⟨gb152, 0, none⟩ = some (.int .i64 a1_0) := (blk_cell BK152.out 0).trans rfl
                have hcz30_1 : wc.cell? ⟨gb152, 1, none⟩ = some (.bool a1_1) := (blk_cell BK152.out 1).trans rfl
                have hfz30_0 := blk_frozen BK152.out 0
                have hfz30_1 := blk_frozen BK152.out 1
                go_wp2_with (first | ((with_reducible refine gate_callee (f := 15) rfl ?_); refine goesL_ (some 32) rfl rfl Try.func15 (by kernel_rfl) rfl #[.int .i64 a1_0, .int .i64 a3] rfl (by (try simp only [List.map_toArray, List.map_cons, List.map_nil]); first | done | rfl | (simp only [List.length_drop, List.length_take]; rfl)) ?_; (with_reducible refine (clepsydraref01_Sub.calls a1_0 a3 t156 _ A23.out).mono ?_); rintro e w' ⟨rfl, ⟨nd, rfl⟩⟩; refine ⟨_, rfl, ?_⟩; have hcz31_0 : wc.cell? ⟨gb151, 0, none⟩ = some (.int .i64 a0_0) := (blk_cell BK151.out 0).trans rfl; have hcz31_1 : wc.cell? ⟨gb151, 1, none⟩ = some (.int .i64 a0_1) := (blk_cell BK151.out 1).trans rfl; have hcz31_2 : wc.cell? ⟨gb151, 2, none⟩ = some (.int .i64 a0_2) := (blk_cell BK151.out 2).trans rfl; have hcz31_3 : wc.cell? ⟨gb151, 3, none⟩ = some (.int .i64 a0_3) := (blk_cell BK151.out 3).trans rfl; have hcz31_4 : wc.cell? ⟨gb151, 4, none⟩ = some (.int .i64 a0_4) := (blk_cell BK151.out 4).trans rfl; have hcz31_5 : wc.cell? ⟨gb151, 5, none⟩ = some (.int .i64 a0_5) := (blk_cell BK151.out 5).trans rfl; have hcz31_6 : wc.cell? ⟨gb151, 6, none⟩ = some (.int .i64 a0_6) := (blk_cell BK151.out 6).trans rfl; have hcz31_7 : wc.cell? ⟨gb151, 7, none⟩ = some (.int .i64 a0_7) := (blk_cell BK151.out 7).trans rfl; have hcz31_8 : wc.cell? ⟨gb151, 8, none⟩ = some (.int .i64 a0_8) := (blk_cell BK151.out 8).trans rfl; have hcz31_9 : wc.cell? ⟨gb151, 9, none⟩ = some (.int .i64 a0_9) := (blk_cell BK151.out 9).trans rfl; have hcz31_10 : wc.cell? ⟨gb151, 10, none⟩ = some (.int .i64 a0_10) := (blk_cell BK151.out 10).trans rfl; have hcz31_11 : wc.cell? ⟨gb151, 11, none⟩ = some (.int .i64 a0_11) := (blk_cell BK151.out 11).trans rfl; have hfz31_0 := blk_frozen BK151.out 0; have hfz31_1 := blk_frozen BK151.out 1; have hfz31_2 := blk_frozen BK151.out 2; have hfz31_3 := blk_frozen BK151.out 3; have hfz31_4 := blk_frozen BK151.out 4; have hfz31_5 := blk_frozen BK151.out 5; have hfz31_6 := blk_frozen BK151.out 6; have hfz31_7 := blk_frozen BK151.out 7; have hfz31_8 := blk_frozen BK151.out 8; have hfz31_9 := blk_frozen BK151.out 9; have hfz31_10 := blk_frozen BK151.out 10; have hfz31_11 := blk_frozen BK151.out 11) | ((with_reducible refine gate_callee (f := 16) rfl ?_); refine goesL_ (some 38) rfl rfl Try.func16 (by kernel_rfl) rfl #[.agg #[.int .i64 a1_0, .bool a1_1], .agg #[.int .i64 a0_0, .int .i64 a0_1, .int .i64 a0_2, .int .i64 a0_3, .int .i64 a0_4, .int .i64 a0_5, .int .i64 a0_6, .int .i64 a0_7, .int .i64 a0_8, .int .i64 a0_9, .int .i64 a0_10, .int .i64 a0_11], .int .i64 a2, .int .i64 a3, .bool a4] rfl (by (try simp only [List.map_toArray, List.map_cons, List.map_nil]); first | done | rfl | (simp only [List.length_drop, List.length_take]; rfl)) ?_; (with_reducible refine (slew_Clock_Step.calls kj19 a1_0 a1_1 a0_0 a0_1 a0_2 a0_3 a0_4 a0_5 a0_6 a0_7 a0_8 a0_9 a0_10 a0_11 a2 a3 a4 t157 t158 _ A24.out).mono ?_); rintro e w32 ⟨rfl, hb⟩; refine ⟨_, rfl, ?_⟩; have n0_ := Aside0.mk (blk_below (g := gb151) (o := .cells #[.int .i64 a0_0, .int .i64 a0_1, .int .i64 a0_2, .int .i64 a0_3, .int .i64 a0_4, .int .i64 a0_5, .int .i64 a0_6, .int .i64 a0_7, .int .i64 a0_8, .int .i64 a0_9, .int .i64 a0_10, .int .i64 a0_11] 23 (0, 0)) (by (with_reducible repeat (first | refine blk_drewN ?_ _ | refine blk_drew ?_ | refine blk_alloc ?_ _)); exact BK151.out) hb); have n1_ := Aside0.mk (blk_below (g := gb152) (o := .cells #[.int .i64 a1_0, .bool a1_1] 25 (0, 0)) (by (with_reducible repeat (first | refine blk_drewN ?_ _ | refine blk_drew ?_ | refine blk_alloc ?_ _)); exact BK152.out) hb); have n2_ := Aside0.mk (below_step (by repeat (first | (with_reducible first | exact HB.out | apply below_alloc | apply pw_below_drewN | apply below_drew1 | refine below_set ?_ GE151.out | refine below_set ?_ GE152.out) | exact HB.out)) hb); clear BK151; clear BK152; clear HB; have BK151 := n0_; have BK152 := n1_; have HB := n2_; clear n0_ n1_ n2_; (try clear hb); (try clear hb2); (try clear hk); (try clear hi); have hcz33_0 : w32.cell? ⟨gb152, 0, none⟩ = some (.int .i64 a1_0) := (blk_cell BK152.out 0).trans rfl; have hcz33_1 : w32.cell? ⟨gb152, 1, none⟩ = some (.bool a1_1) := (blk_cell BK152.out 1).trans rfl; have hfz33_0 := blk_frozen BK152.out 0; have hfz33_1 := blk_frozen BK152.out 1) | (go_at_call 17; (with_reducible refine (slew_Clock_Off.calls kj19 a1_0 a1_1 a3 t159 _ A26.out).mono ?_); rintro e w34 ⟨rfl, hb⟩; have n0_ := Aside0.mk (blk_below (g := gb151) (o := .cells #[.int .i64 a0_0, .int .i64 a0_1, .int .i64 a0_2, .int .i64 a0_3, .int .i64 a0_4, .int .i64 a0_5, .int .i64 a0_6, .int .i64 a0_7, .int .i64 a0_8, .int .i64 a0_9, .int .i64 a0_10, .int .i64 a0_11] 23 (0, 0)) (by (with_reducible repeat (first | refine blk_drewN ?_ _ | refine blk_drew ?_ | refine blk_alloc ?_ _)); exact BK151.out) hb); have n1_ := Aside0.mk (blk_below (g := gb152) (o := .cells #[.int .i64 a1_0, .bool a1_1] 25 (0, 0)) (by (with_reducible repeat (first | refine blk_drewN ?_ _ | refine blk_drew ?_ | refine blk_alloc ?_ _)); exact BK152.out) hb); have n2_ := Aside0.mk (below_step (by repeat (first | (with_reducible first | exact HB.out | apply below_alloc | apply pw_below_drewN | apply below_drew1 | refine below_set ?_ GE151.out | refine below_set ?_ GE152.out) | exact HB.out)) hb); clear BK151; clear BK152; clear HB; have BK151 := n0_; have BK152 := n1_; have HB := n2_; clear n0_ n1_ n2_; (try clear hb); (try clear hb2); (try clear hk); (try clear hi); have hcz35_0 : w34.cell? ⟨gb152, 0, none⟩ = some (.int .i64 a1_0) := (blk_cell BK152.out 0).trans rfl; have hcz35_1 : w34.cell? ⟨gb152, 1, none⟩ = some (.bool a1_1) := (blk_cell BK152.out 1).trans rfl; have hfz35_0 := blk_frozen BK152.out 0; have hfz35_1 := blk_frozen BK152.out 1) | (go_at_call 17; (with_reducible refine (slew_Clock_Off.calls kj19 a1_0 a1_1 a3 t159 _ A28.out).mono ?_); rintro e w36 ⟨rfl, hb⟩; have n0_ := Aside0.mk (blk_below (g := gb151) (o := .cells #[.int .i64 a0_0, .int .i64 a0_1, .int .i64 a0_2, .int .i64 a0_3, .int .i64 a0_4, .int .i64 a0_5, .int .i64 a0_6, .int .i64 a0_7, .int .i64 a0_8, .int .i64 a0_9, .int .i64 a0_10, .int .i64 a0_11] 23 (0, 0)) (by (with_reducible repeat (first | refine blk_drewN ?_ _ | refine blk_drew ?_ | refine blk_alloc ?_ _)); exact BK151.out) hb); have n1_ := Aside0.mk (blk_below (g := gb152) (o := .cells #[.int .i64 a1_0, .bool a1_1] 25 (0, 0)) (by (with_reducible repeat (first | refine blk_drewN ?_ _ | refine blk_drew ?_ | refine blk_alloc ?_ _)); exact BK152.out) hb); have n2_ := Aside0.mk (below_step (by repeat (first | (with_reducible first | exact HB.out | apply below_alloc | apply pw_below_drewN | apply below_drew1 | refine below_set ?_ GE151.out | refine below_set ?_ GE152.out) | exact HB.out)) hb); clear BK151; clear BK152; clear HB; have BK151 := n0_; have BK152 := n1_; have HB := n2_; clear n0_ n1_ n2_; (try clear hb); (try clear hb2); (try clear hk); (try clear hi)))
                go_ret
                exact ⟨by first | rfl | (simp [errW_none, errW_some] <;> rfl) | (simp [*, errW_none, errW_some] <;> rfl), by repeat (first | (with_reducible first | exact HB.out | apply below_alloc | apply pw_below_drewN | apply below_drew1 | refine below_set ?_ GE151.out | refine below_set ?_ GE152.out) | exact HB.out)⟩
              · rw [if_neg c27] at H
                have c27b0 : (t159 == t156) = false := beq_eq_false_iff_ne.mpr c27
                have c27b1 : (t159 != t156) = true := bne_iff_ne.mpr c27
                replace H := Option.bind_eq_some_iff.mp H
                obtain ⟨t161, A370, H⟩ := H
                replace H : (if t161 = (wrap64 (-t156)) then ((slew_Clock_Off.f kj19 a1_0 a1_1 a3).bind fun t162 => (some (decide (t162 ≥ 0)))) else (some false)) = some r := H
                have A37 := Aside0.mk A370
                clear A370
                obtain rfl : t159 = t161 := Option.some.inj (A26.out.symm.trans A37.out)
                by_cases c38 : t159 = (wrap64 (-t156))
                · rw [if_pos c38] at H
                  have c38b0 : (t159 == (wrap64 (-t156))) = true := beq_iff_eq.mpr c38
                  have c38b1 : (t159 != (wrap64 (-t156))) = false := bne_eq_false_iff_eq.mpr c38
                  clear c38
                  replace H := Option.bind_eq_some_iff.mp H
                  obtain ⟨t162, A390, H⟩ := H
                  replace H : (some (decide (t162 ≥ 0))) = some r := H
                  have A39 := Aside0.mk A390
                  clear A390
                  obtain rfl : t159 = t162 := Option.some.inj (A26.out.symm.trans A39.out)
                  obtain rfl := Option.some.inj H
                  have hnb40 := NB152_151.out
                  have hnc40 := NB151_152.out
                  have hcz41_0 : wc.cell? ⟨gb152, 0, none⟩ = some (.int .i64 a1_0) := (blk_cell BK152.out 0).trans rfl
                  have hcz41_1 : wc.cell? ⟨gb152, 1, none⟩ = some (.bool a1_1) := (blk_cell BK152.out 1).trans rfl
                  have hfz41_0 := blk_frozen BK152.out 0
                  have hfz41_1 := blk_frozen BK152.out 1
                  go_wp2_with (first | ((with_reducible refine gate_callee (f := 15) rfl ?_); refine goesL_ (some 32) rfl rfl Try.func15 (by kernel_rfl) rfl #[.int .i64 a1_0, .int .i64 a3] rfl (by (try simp only [List.map_toArray, List.map_cons, List.map_nil]); first | done | rfl | (simp only [List.length_drop, List.length_take]; rfl)) ?_; (with_reducible refine (clepsydraref01_Sub.calls a1_0 a3 t156 _ A23.out).mono ?_); rintro e w' ⟨rfl, ⟨nd, rfl⟩⟩; refine ⟨_, rfl, ?_⟩; have hcz42_0 : wc.cell? ⟨gb151, 0, none⟩ = some (.int .i64 a0_0) := (blk_cell BK151.out 0).trans rfl; have hcz42_1 : wc.cell? ⟨gb151, 1, none⟩ = some (.int .i64 a0_1) := (blk_cell BK151.out 1).trans rfl; have hcz42_2 : wc.cell? ⟨gb151, 2, none⟩ = some (.int .i64 a0_2) := (blk_cell BK151.out 2).trans rfl; have hcz42_3 : wc.cell? ⟨gb151, 3, none⟩ = some (.int .i64 a0_3) := (blk_cell BK151.out 3).trans rfl; have hcz42_4 : wc.cell? ⟨gb151, 4, none⟩ = some (.int .i64 a0_4) := (blk_cell BK151.out 4).trans rfl; have hcz42_5 : wc.cell? ⟨gb151, 5, none⟩ = some (.int .i64 a0_5) := (blk_cell BK151.out 5).trans rfl; have hcz42_6 : wc.cell? ⟨gb151, 6, none⟩ = some (.int .i64 a0_6) := (blk_cell BK151.out 6).trans rfl; have hcz42_7 : wc.cell? ⟨gb151, 7, none⟩ = some (.int .i64 a0_7) := (blk_cell BK151.out 7).trans rfl; have hcz42_8 : wc.cell? ⟨gb151, 8, none⟩ = some (.int .i64 a0_8) := (blk_cell BK151.out 8).trans rfl; have hcz42_9 : wc.cell? ⟨gb151, 9, none⟩ = some (.int .i64 a0_9) := (blk_cell BK151.out 9).trans rfl; have hcz42_10 : wc.cell? ⟨gb151, 10, none⟩ = some (.int .i64 a0_10) := (blk_cell BK151.out 10).trans rfl; have hcz42_11 : wc.cell? ⟨gb151, 11, none⟩ = some (.int .i64 a0_11) := (blk_cell BK151.out 11).trans rfl; have hfz42_0 := blk_frozen BK151.out 0; have hfz42_1 := blk_frozen BK151.out 1; have hfz42_2 := blk_frozen BK151.out 2; have hfz42_3 := blk_frozen BK151.out 3; have hfz42_4 := blk_frozen BK151.out 4; have hfz42_5 := blk_frozen BK151.out 5; have hfz42_6 := blk_frozen BK151.out 6; have hfz42_7 := blk_frozen BK151.out 7; have hfz42_8 := blk_frozen BK151.out 8; have hfz42_9 := blk_frozen BK151.out 9; have hfz42_10 := blk_frozen BK151.out 10; have hfz42_11 := blk_frozen BK151.out 11) | ((with_reducible refine gate_callee (f := 16) rfl ?_); refine goesL_ (some 38) rfl rfl Try.func16 (by kernel_rfl) rfl #[.agg #[.int .i64 a1_0, .bool a1_1], .agg #[.int .i64 a0_0, .int .i64 a0_1, .int .i64 a0_2, .int .i64 a0_3, .int .i64 a0_4, .int .i64 a0_5, .int .i64 a0_6, .int .i64 a0_7, .int .i64 a0_8, .int .i64 a0_9, .int .i64 a0_10, .int .i64 a0_11], .int .i64 a2, .int .i64 a3, .bool a4] rfl (by (try simp only [List.map_toArray, List.map_cons, List.map_nil]); first | done | rfl | (simp only [List.length_drop, List.length_take]; rfl)) ?_; (with_reducible refine (slew_Clock_Step.calls kj19 a1_0 a1_1 a0_0 a0_1 a0_2 a0_3 a0_4 a0_5 a0_6 a0_7 a0_8 a0_9 a0_10 a0_11 a2 a3 a4 t157 t158 _ A24.out).mono ?_); rintro e w43 ⟨rfl, hb⟩; refine ⟨_, rfl, ?_⟩; have n0_ := Aside0.mk (blk_below (g := gb151) (o := .cells #[.int .i64 a0_0, .int .i64 a0_1, .int .i64 a0_2, .int .i64 a0_3, .int .i64 a0_4, .int .i64 a0_5, .int .i64 a0_6, .int .i64 a0_7, .int .i64 a0_8, .int .i64 a0_9, .int .i64 a0_10, .int .i64 a0_11] 23 (0, 0)) (by (with_reducible repeat (first | refine blk_drewN ?_ _ | refine blk_drew ?_ | refine blk_alloc ?_ _)); exact BK151.out) hb); have n1_ := Aside0.mk (blk_below (g := gb152) (o := .cells #[.int .i64 a1_0, .bool a1_1] 25 (0, 0)) (by (with_reducible repeat (first | refine blk_drewN ?_ _ | refine blk_drew ?_ | refine blk_alloc ?_ _)); exact BK152.out) hb); have n2_ := Aside0.mk (below_step (by repeat (first | (with_reducible first | exact HB.out | apply below_alloc | apply pw_below_drewN | apply below_drew1 | refine below_set ?_ GE151.out | refine below_set ?_ GE152.out) | exact HB.out)) hb); clear BK151; clear BK152; clear HB; have BK151 := n0_; have BK152 := n1_; have HB := n2_; clear n0_ n1_ n2_; (try clear hb); (try clear hb2); (try clear hk); (try clear hi); have hcz44_0 : w43.cell? ⟨gb152, 0, none⟩ = some (.int .i64 a1_0) := (blk_cell BK152.out 0).trans rfl; have hcz44_1 : w43.cell? ⟨gb152, 1, none⟩ = some (.bool a1_1) := (blk_cell BK152.out 1).trans rfl; have hfz44_0 := blk_frozen BK152.out 0; have hfz44_1 := blk_frozen BK152.out 1) | (go_at_call 17; (with_reducible refine (slew_Clock_Off.calls kj19 a1_0 a1_1 a3 t159 _ A26.out).mono ?_); rintro e w45 ⟨rfl, hb⟩; have n0_ := Aside0.mk (blk_below (g := gb151) (o := .cells #[.int .i64 a0_0, .int .i64 a0_1, .int .i64 a0_2, .int .i64 a0_3, .int .i64 a0_4, .int .i64 a0_5, .int .i64 a0_6, .int .i64 a0_7, .int .i64 a0_8, .int .i64 a0_9, .int .i64 a0_10, .int .i64 a0_11] 23 (0, 0)) (by (with_reducible repeat (first | refine blk_drewN ?_ _ | refine blk_drew ?_ | refine blk_alloc ?_ _)); exact BK151.out) hb); have n1_ := Aside0.mk (blk_below (g := gb152) (o := .cells #[.int .i64 a1_0, .bool a1_1] 25 (0, 0)) (by (with_reducible repeat (first | refine blk_drewN ?_ _ | refine blk_drew ?_ | refine blk_alloc ?_ _)); exact BK152.out) hb); have n2_ := Aside0.mk (below_step (by repeat (first | (with_reducible first | exact HB.out | apply below_alloc | apply pw_below_drewN | apply below_drew1 | refine below_set ?_ GE151.out | refine below_set ?_ GE152.out) | exact HB.out)) hb); clear BK151; clear BK152; clear HB; have BK151 := n0_; have BK152 := n1_; have HB := n2_; clear n0_ n1_ n2_; (try clear hb); (try clear hb2); (try clear hk); (try clear hi); have hcz46_0 : w45.cell? ⟨gb152, 0, none⟩ = some (.int .i64 a1_0) := (blk_cell BK152.out 0).trans rfl; have hcz46_1 : w45.cell? ⟨gb152, 1, none⟩ = some (.bool a1_1) := (blk_cell BK152.out 1).trans rfl; have hfz46_0 := blk_frozen BK152.out 0; have hfz46_1 := blk_frozen BK152.out 1) | (go_at_call 17; (with_reducible refine (slew_Clock_Off.calls kj19 a1_0 a1_1 a3 t159 _ A37.out).mono ?_); rintro e w47 ⟨rfl, hb⟩; have n0_ := Aside0.mk (blk_below (g := gb151) (o := .cells #[.int .i64 a0_0, .int .i64 a0_1, .int .i64 a0_2, .int .i64 a0_3, .int .i64 a0_4, .int .i64 a0_5, .int .i64 a0_6, .int .i64 a0_7, .int .i64 a0_8, .int .i64 a0_9, .int .i64 a0_10, .int .i64 a0_11] 23 (0, 0)) (by (with_reducible repeat (first | refine blk_drewN ?_ _ | refine blk_drew ?_ | refine blk_alloc ?_ _)); exact BK151.out) hb); have n1_ := Aside0.mk (blk_below (g := gb152) (o := .cells #[.int .i64 a1_0, .bool a1_1] 25 (0, 0)) (by (with_reducible repeat (first | refine blk_drewN ?_ _ | refine blk_drew ?_ | refine blk_alloc ?_ _)); exact BK152.out) hb); have n2_ := Aside0.mk (below_step (by repeat (first | (with_reducible first | exact HB.out | apply below_alloc | apply pw_below_drewN | apply below_drew1 | refine below_set ?_ GE151.out | refine below_set ?_ GE152.out) | exact HB.out)) hb); clear BK151; clear BK152; clear HB; have BK151 := n0_; have BK152 := n1_; have HB := n2_; clear n0_ n1_ n2_; (try clear hb); (try clear hb2); (try clear hk); (try clear hi); have hcz48_0 : w47.cell? ⟨gb152, 0, none⟩ = some (.int .i64 a1_0) := (blk_cell BK152.out 0).trans rfl; have hcz48_1 : w47.cell? ⟨gb152, 1, none⟩ = some (.bool a1_1) := (blk_cell BK152.out 1).trans rfl; have hfz48_0 := blk_frozen BK152.out 0; have hfz48_1 := blk_frozen BK152.out 1) | (go_at_call 17; (with_reducible refine (slew_Clock_Off.calls kj19 a1_0 a1_1 a3 t159 _ A39.out).mono ?_); rintro e w49 ⟨rfl, hb⟩; have n0_ := Aside0.mk (blk_below (g := gb151) (o := .cells #[.int .i64 a0_0, .int .i64 a0_1, .int .i64 a0_2, .int .i64 a0_3, .int .i64 a0_4, .int .i64 a0_5, .int .i64 a0_6, .int .i64 a0_7, .int .i64 a0_8, .int .i64 a0_9, .int .i64 a0_10, .int .i64 a0_11] 23 (0, 0)) (by (with_reducible repeat (first | refine blk_drewN ?_ _ | refine blk_drew ?_ | refine blk_alloc ?_ _)); exact BK151.out) hb); have n1_ := Aside0.mk (blk_below (g := gb152) (o := .cells #[.int .i64 a1_0, .bool a1_1] 25 (0, 0)) (by (with_reducible repeat (first | refine blk_drewN ?_ _ | refine blk_drew ?_ | refine blk_alloc ?_ _)); exact BK152.out) hb); have n2_ := Aside0.mk (below_step (by repeat (first | (with_reducible first | exact HB.out | apply below_alloc | apply pw_below_drewN | apply below_drew1 | refine below_set ?_ GE151.out | refine below_set ?_ GE152.out) | exact HB.out)) hb); clear BK151; clear BK152; clear HB; have BK151 := n0_; have BK152 := n1_; have HB := n2_; clear n0_ n1_ n2_; (try clear hb); (try clear hb2); (try clear hk); (try clear hi)))
                  go_ret
                  exact ⟨by first | rfl | (simp [errW_none, errW_some] <;> rfl) | (simp [*, errW_none, errW_some] <;> rfl), by repeat (first | (with_reducible first | exact HB.out | apply below_alloc | apply pw_below_drewN | apply below_drew1 | refine below_set ?_ GE151.out | refine below_set ?_ GE152.out) | exact HB.out)⟩
                · rw [if_neg c38] at H
                  have c38b0 : (t159 == (wrap64 (-t156))) = false := beq_eq_false_iff_ne.mpr c38
                  have c38b1 : (t159 != (wrap64 (-t156))) = true := bne_iff_ne.mpr c38
                  exact absurd ((Option.some.inj H).trans hT.out) (by decide)
            · rw [if_neg c25] at H
              have c25b0 : (t157 == x11_19 && (t158)) = false := by simpa using c25
              (try (have c25b1 : decide (t157 = x11_19 && (t158)) = false := by simpa using c25))
              (try (have c25b2 : (t157 == x11_19 && (t158)) = false := by simpa using c25))
              (try (have c25b3 : ¬ (t157 = x11_19 && (t158)) := by simpa using c25))
              clear c25
              exact absurd ((Option.some.inj H).trans hT.out) (by decide)
  · replace c7 := Bool.eq_false_iff.mpr c7
    subst c7
    have H1 : (some false) = some r := by rw [if_neg (show ¬ (false = true) by decide)] at H; exact H
    clear H
    have H := H1
    clear H1
    exact absurd ((Option.some.inj H).trans hT.out) (by decide)

end Go.Proofs.Ytopnmlambbimpaa.Q
