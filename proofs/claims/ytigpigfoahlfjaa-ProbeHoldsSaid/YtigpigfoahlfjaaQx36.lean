/- The calls of these Go functions answer what the Lean functions beside them answer; written by a program (wip/pr2.py, out of the print of the loaded program); under no condition but those that stand in the theorems. -/
import Derived.Test.YtigpigfoahlfjaaQx0
import Derived.Test.YtigpigfoahlfjaaQx18
import Derived.Test.YtigpigfoahlfjaaQx29
import Derived.Test.YtigpigfoahlfjaaQx30
import Derived.Test.YtigpigfoahlfjaaQx32
namespace Go.Proofs.Ytigpigfoahlfjaa.Q
open Go.RowKit Go.Proofs.YtigpigfoahlfjaaW.PrintWords Go.Proofs.YtigpigfoahlfjaaW.PrintLast Go.Proofs.YtigpigfoahlfjaaW.PrintMore
attribute [local go_sem] max2_int min2_int max_two min_two max_three min_three max_four min_four   -- for this text's walks alone
set_option linter.unusedVariables false
set_option linter.unusedSimpArgs false

/-! ### clepsydralaw10_ProbeHolds: function 12 -/
def clepsydralaw10_ProbeHolds.j0 : Nat → Int → Int → Int → Int → Int → Int → Bool → Int → Int → Int → Int → Int → Int → Int → Int → Int → Int → Int → Int → Option (Bool)
 | 0, _, _, _, _, _, _, _, _, _, _, _, _, _, _, _, _, _, _, _ => none
 | k + 1, x1, x2, x3, x4, x5, x6, x69, x524000, x524001, x524002, x524003, x524004, x524005, x524006, x524007, x524008, x524009, x524010, x524011 => if x69 = true then (some true) else (if x1 > 1125899906842624 then (some true) else (if x1 < (-1125899906842624) then (some true) else (if x2 > 1125899906842624 then (some true) else (if x2 < (-1125899906842624) then (some true) else (if x4 > 1125899906842624 then (some true) else (if x4 < (-1125899906842624) then (some true) else ((probe_Ahead.f k x524000 x524001 x524002 x524003 x524004 x524005 x524006 x524007 x524008 x524009 x524010 x524011 x1 (wrap64 ((wrap64 (x1 + x3)) + x2)) (wrap64 ((wrap64 ((wrap64 ((wrap64 (x1 + x3)) + x4)) + x2)) + x6)) (wrap64 ((wrap64 ((wrap64 (x1 + x3)) + x4)) + x5))).bind fun bt527 => (if bt527.1 ≤ x2 then (if x2 ≤ bt527.2 then (if (wrap64 (bt527.2 - bt527.1)) ≤ (wrap64 (x524006 + (wrap64 (4 * x524004)))) then ((probe_Right.f k x524000 x524001 x524002 x524003 x524004 x524005 x524006 x524007 x524008 x524009 x524010 x524011 x1 (wrap64 ((wrap64 (x1 + x3)) + x2)) (wrap64 ((wrap64 ((wrap64 ((wrap64 (x1 + x3)) + x4)) + x2)) + x6)) (wrap64 ((wrap64 ((wrap64 (x1 + x3)) + x4)) + x5))).bind fun t530 => (some t530)) else (some false)) else (some false)) else (some false)))))))))
def clepsydralaw10_ProbeHolds.f (k : Nat) (a0_0 : Int) (a0_1 : Int) (a0_2 : Int) (a0_3 : Int) (a0_4 : Int) (a0_5 : Int) (a0_6 : Int) (a0_7 : Int) (a0_8 : Int) (a0_9 : Int) (a0_10 : Int) (a0_11 : Int) (a1 : Int) (a2 : Int) (a3 : Int) (a4 : Int) (a5 : Int) (a6 : Int) : Option (Bool) := (clepsydralaw10_alive.f k).bind fun t524 => (if t524 = true then ((limit_Check.f k a0_0 a0_1 a0_2 a0_3 a0_4 a0_5 a0_6 a0_7 a0_8 a0_9 a0_10 a0_11).bind fun t525 => (if t525 = 0 then (if a3 < (wrap64 (a0_5 - a0_6)) then (clepsydralaw10_ProbeHolds.j0 k a1 a2 a3 a4 a5 a6 true a0_0 a0_1 a0_2 a0_3 a0_4 a0_5 a0_6 a0_7 a0_8 a0_9 a0_10 a0_11) else (if a3 > a0_5 then (clepsydralaw10_ProbeHolds.j0 k a1 a2 a3 a4 a5 a6 true a0_0 a0_1 a0_2 a0_3 a0_4 a0_5 a0_6 a0_7 a0_8 a0_9 a0_10 a0_11) else (if a5 < (wrap64 (a0_5 - a0_6)) then (clepsydralaw10_ProbeHolds.j0 k a1 a2 a3 a4 a5 a6 true a0_0 a0_1 a0_2 a0_3 a0_4 a0_5 a0_6 a0_7 a0_8 a0_9 a0_10 a0_11) else (if a5 > a0_5 then (clepsydralaw10_ProbeHolds.j0 k a1 a2 a3 a4 a5 a6 true a0_0 a0_1 a0_2 a0_3 a0_4 a0_5 a0_6 a0_7 a0_8 a0_9 a0_10 a0_11) else (if a6 > (wrap64 (2 * a0_4)) then (clepsydralaw10_ProbeHolds.j0 k a1 a2 a3 a4 a5 a6 true a0_0 a0_1 a0_2 a0_3 a0_4 a0_5 a0_6 a0_7 a0_8 a0_9 a0_10 a0_11) else (clepsydralaw10_ProbeHolds.j0 k a1 a2 a3 a4 a5 a6 (decide (a6 < (wrap64 ((-2) * a0_4)))) a0_0 a0_1 a0_2 a0_3 a0_4 a0_5 a0_6 a0_7 a0_8 a0_9 a0_10 a0_11)))))) else (clepsydralaw10_ProbeHolds.j0 k a1 a2 a3 a4 a5 a6 true a0_0 a0_1 a0_2 a0_3 a0_4 a0_5 a0_6 a0_7 a0_8 a0_9 a0_10 a0_11))) else (some false))
theorem clepsydralaw10_ProbeHolds.mono_l : ∀ k, (∀ y0 y1 y2 y3 y4 y5 y6 y7 y8 y9 y10 y11 y12 y13 y14 y15 y16 y17 y18, LeO (clepsydralaw10_ProbeHolds.j0 k y0 y1 y2 y3 y4 y5 y6 y7 y8 y9 y10 y11 y12 y13 y14 y15 y16 y17 y18) (clepsydralaw10_ProbeHolds.j0 (k + 1) y0 y1 y2 y3 y4 y5 y6 y7 y8 y9 y10 y11 y12 y13 y14 y15 y16 y17 y18))
 | 0 => fun _ _ _ _ _ _ _ _ _ _ _ _ _ _ _ _ _ _ _ r h => by simp [clepsydralaw10_ProbeHolds.j0] at h
 | k + 1 => by
  have ih0 := clepsydralaw10_ProbeHolds.mono_l k
  ·intro y0 y1 y2 y3 y4 y5 y6 y7 y8 y9 y10 y11 y12 y13 y14 y15 y16 y17 y18
   unfold clepsydralaw10_ProbeHolds.j0
   repeat' first
   | (with_reducible exact ih0 _ _ _ _ _ _ _ _ _ _ _ _ _ _ _ _ _ _ _)
   | (with_reducible exact clepsydralaw10_alive.mono _)
   | (with_reducible exact limit_Check.mono _ _ _ _ _ _ _ _ _ _ _ _ _)
   | (with_reducible exact probe_Ahead.mono _ _ _ _ _ _ _ _ _ _ _ _ _ _ _ _ _)
   | (with_reducible exact probe_Right.mono _ _ _ _ _ _ _ _ _ _ _ _ _ _ _ _ _)
   | (with_reducible exact LeO.refl _)
   | (with_reducible exact LeO.none _)
   | (with_reducible refine LeO.ite ?_ ?_)
   | (with_reducible refine LeO.bind ?_ (fun _ => ?_))
   | exact ih0 _ _ _ _ _ _ _ _ _ _ _ _ _ _ _ _ _ _ _
   | exact clepsydralaw10_alive.mono _
   | exact limit_Check.mono _ _ _ _ _ _ _ _ _ _ _ _ _
   | exact probe_Ahead.mono _ _ _ _ _ _ _ _ _ _ _ _ _ _ _ _ _
   | exact probe_Right.mono _ _ _ _ _ _ _ _ _ _ _ _ _ _ _ _ _
   | exact LeO.none _
   | refine LeO.ite ?_ ?_
   | refine LeO.bind ?_ (fun _ => ?_)
theorem clepsydralaw10_ProbeHolds.mono : ∀ a0 a1 a2 a3 a4 a5 a6 a7 a8 a9 a10 a11 a12 a13 a14 a15 a16 a17 k, LeO (clepsydralaw10_ProbeHolds.f k a0 a1 a2 a3 a4 a5 a6 a7 a8 a9 a10 a11 a12 a13 a14 a15 a16 a17) (clepsydralaw10_ProbeHolds.f (k + 1) a0 a1 a2 a3 a4 a5 a6 a7 a8 a9 a10 a11 a12 a13 a14 a15 a16 a17) := by
 intro a0 a1 a2 a3 a4 a5 a6 a7 a8 a9 a10 a11 a12 a13 a14 a15 a16 a17 k
 have ih0 := clepsydralaw10_ProbeHolds.mono_l k
 unfold clepsydralaw10_ProbeHolds.f
 repeat' first
   | (with_reducible exact ih0 _ _ _ _ _ _ _ _ _ _ _ _ _ _ _ _ _ _ _)
   | (with_reducible exact clepsydralaw10_alive.mono _)
   | (with_reducible exact limit_Check.mono _ _ _ _ _ _ _ _ _ _ _ _ _)
   | (with_reducible exact probe_Ahead.mono _ _ _ _ _ _ _ _ _ _ _ _ _ _ _ _ _)
   | (with_reducible exact probe_Right.mono _ _ _ _ _ _ _ _ _ _ _ _ _ _ _ _ _)
   | (with_reducible exact LeO.refl _)
   | (with_reducible exact LeO.none _)
   | (with_reducible refine LeO.ite ?_ ?_)
   | (with_reducible refine LeO.bind ?_ (fun _ => ?_))
   | exact ih0 _ _ _ _ _ _ _ _ _ _ _ _ _ _ _ _ _ _ _
   | exact clepsydralaw10_alive.mono _
   | exact limit_Check.mono _ _ _ _ _ _ _ _ _ _ _ _ _
   | exact probe_Ahead.mono _ _ _ _ _ _ _ _ _ _ _ _ _ _ _ _ _
   | exact probe_Right.mono _ _ _ _ _ _ _ _ _ _ _ _ _ _ _ _ _
   | exact LeO.none _
   | refine LeO.ite ?_ ?_
   | refine LeO.bind ?_ (fun _ => ?_)
theorem clepsydralaw10_ProbeHolds.ix34_0 (x0 x1 x2 : Value) (w : World) : (Instr.index 34 (.agg #[x0, x1, x2]) (.int .i64 0)).run Try.prog w = .ok x0 w := by kernel_rfl
attribute [local go_sem] clepsydralaw10_ProbeHolds.ix34_0
theorem clepsydralaw10_ProbeHolds.ix34_1 (x0 x1 x2 : Value) (w : World) : (Instr.index 34 (.agg #[x0, x1, x2]) (.int .i64 1)).run Try.prog w = .ok x1 w := by kernel_rfl
attribute [local go_sem] clepsydralaw10_ProbeHolds.ix34_1
theorem clepsydralaw10_ProbeHolds.ix34_2 (x0 x1 x2 : Value) (w : World) : (Instr.index 34 (.agg #[x0, x1, x2]) (.int .i64 2)).run Try.prog w = .ok x2 w := by kernel_rfl
attribute [local go_sem] clepsydralaw10_ProbeHolds.ix34_2
set_option maxHeartbeats 8000000 in
set_option maxRecDepth 100000 in
theorem clepsydralaw10_ProbeHolds.calls (k : Nat) (a0_0 : Int) (a0_1 : Int) (a0_2 : Int) (a0_3 : Int) (a0_4 : Int) (a0_5 : Int) (a0_6 : Int) (a0_7 : Int) (a0_8 : Int) (a0_9 : Int) (a0_10 : Int) (a0_11 : Int) (a1 : Int) (a2 : Int) (a3 : Int) (a4 : Int) (a5 : Int) (a6 : Int) (r : Bool) (w : World) (hT : Aside0 (r = true)) (h : clepsydralaw10_ProbeHolds.f k a0_0 a0_1 a0_2 a0_3 a0_4 a0_5 a0_6 a0_7 a0_8 a0_9 a0_10 a0_11 a1 a2 a3 a4 a5 a6 = some r) :
  Calls Try.prog 12 #[.agg #[.int .i64 a0_0, .int .i64 a0_1, .int .i64 a0_2, .int .i64 a0_3, .int .i64 a0_4, .int .i64 a0_5, .int .i64 a0_6, .int .i64 a0_7, .int .i64 a0_8, .int .i64 a0_9, .int .i64 a0_10, .int .i64 a0_11], .int .i64 a1, .int .i64 a2, .int .i64 a3, .int .i64 a4, .int .i64 a5, .int .i64 a6] w fun e w' => e = .returned (.bool r) ∧ Below w.heap.size w w' := by
 have hu23 := Try.underlying23
 have hu34 := Try.underlying34
 have hu57 := Try.underlying57
 have hu25 := Try.underlying25
 have HB := Aside0.mk (Below.refl w.heap.size w)
 have H : ((clepsydralaw10_alive.f k).bind fun t524 => (if t524 = true then ((limit_Check.f k a0_0 a0_1 a0_2 a0_3 a0_4 a0_5 a0_6 a0_7 a0_8 a0_9 a0_10 a0_11).bind fun t525 => (if t525 = 0 then (if a3 < (wrap64 (a0_5 - a0_6)) then (clepsydralaw10_ProbeHolds.j0 k a1 a2 a3 a4 a5 a6 true a0_0 a0_1 a0_2 a0_3 a0_4 a0_5 a0_6 a0_7 a0_8 a0_9 a0_10 a0_11) else (if a3 > a0_5 then (clepsydralaw10_ProbeHolds.j0 k a1 a2 a3 a4 a5 a6 true a0_0 a0_1 a0_2 a0_3 a0_4 a0_5 a0_6 a0_7 a0_8 a0_9 a0_10 a0_11) else (if a5 < (wrap64 (a0_5 - a0_6)) then (clepsydralaw10_ProbeHolds.j0 k a1 a2 a3 a4 a5 a6 true a0_0 a0_1 a0_2 a0_3 a0_4 a0_5 a0_6 a0_7 a0_8 a0_9 a0_10 a0_11) else (if a5 > a0_5 then (clepsydralaw10_ProbeHolds.j0 k a1 a2 a3 a4 a5 a6 true a0_0 a0_1 a0_2 a0_3 a0_4 a0_5 a0_6 a0_7 a0_8 a0_9 a0_10 a0_11) else (if a6 > (wrap64 (2 * a0_4)) then (clepsydralaw10_ProbeHolds.j0 k a1 a2 a3 a4 a5 a6 true a0_0 a0_1 a0_2 a0_3 a0_4 a0_5 a0_6 a0_7 a0_8 a0_9 a0_10 a0_11) else (clepsydralaw10_ProbeHolds.j0 k a1 a2 a3 a4 a5 a6 (decide (a6 < (wrap64 ((-2) * a0_4)))) a0_0 a0_1 a0_2 a0_3 a0_4 a0_5 a0_6 a0_7 a0_8 a0_9 a0_10 a0_11)))))) else (clepsydralaw10_ProbeHolds.j0 k a1 a2 a3 a4 a5 a6 true a0_0 a0_1 a0_2 a0_3 a0_4 a0_5 a0_6 a0_7 a0_8 a0_9 a0_10 a0_11))) else (some false))) = some r := h
 clear h
 replace H := Option.bind_eq_some_iff.mp H
 obtain ⟨t524, A80, H⟩ := H
 replace H : (if t524 = true then ((limit_Check.f k a0_0 a0_1 a0_2 a0_3 a0_4 a0_5 a0_6 a0_7 a0_8 a0_9 a0_10 a0_11).bind fun t525 => (if t525 = 0 then (if a3 < (wrap64 (a0_5 - a0_6)) then (clepsydralaw10_ProbeHolds.j0 k a1 a2 a3 a4 a5 a6 true a0_0 a0_1 a0_2 a0_3 a0_4 a0_5 a0_6 a0_7 a0_8 a0_9 a0_10 a0_11) else (if a3 > a0_5 then (clepsydralaw10_ProbeHolds.j0 k a1 a2 a3 a4 a5 a6 true a0_0 a0_1 a0_2 a0_3 a0_4 a0_5 a0_6 a0_7 a0_8 a0_9 a0_10 a0_11) else (if a5 < (wrap64 (a0_5 - a0_6)) then (clepsydralaw10_ProbeHolds.j0 k a1 a2 a3 a4 a5 a6 true a0_0 a0_1 a0_2 a0_3 a0_4 a0_5 a0_6 a0_7 a0_8 a0_9 a0_10 a0_11) else (if a5 > a0_5 then (clepsydralaw10_ProbeHolds.j0 k a1 a2 a3 a4 a5 a6 true a0_0 a0_1 a0_2 a0_3 a0_4 a0_5 a0_6 a0_7 a0_8 a0_9 a0_10 a0_11) else (if a6 > (wrap64 (2 * a0_4)) then (clepsydralaw10_ProbeHolds.j0 k a1 a2 a3 a4 a5 a6 true a0_0 a0_1 a0_2 a0_3 a0_4 a0_5 a0_6 a0_7 a0_8 a0_9 a0_10 a0_11) else (clepsydralaw10_ProbeHolds.j0 k a1 a2 a3 a4 a5 a6 (decide (a6 < (wrap64 ((-2) * a0_4)))) a0_0 a0_1 a0_2 a0_3 a0_4 a0_5 a0_6 a0_7 a0_8 a0_9 a0_10 a0_11)))))) else (clepsydralaw10_ProbeHolds.j0 k a1 a2 a3 a4 a5 a6 true a0_0 a0_1 a0_2 a0_3 a0_4 a0_5 a0_6 a0_7 a0_8 a0_9 a0_10 a0_11))) else (some false)) = some r := H
 have A8 := Aside0.mk A80
 clear A80
 by_cases c9 : t524 = true
 ·subst c9
  have H1 : ((limit_Check.f k a0_0 a0_1 a0_2 a0_3 a0_4 a0_5 a0_6 a0_7 a0_8 a0_9 a0_10 a0_11).bind fun t525 => (if t525 = 0 then (if a3 < (wrap64 (a0_5 - a0_6)) then (clepsydralaw10_ProbeHolds.j0 k a1 a2 a3 a4 a5 a6 true a0_0 a0_1 a0_2 a0_3 a0_4 a0_5 a0_6 a0_7 a0_8 a0_9 a0_10 a0_11) else (if a3 > a0_5 then (clepsydralaw10_ProbeHolds.j0 k a1 a2 a3 a4 a5 a6 true a0_0 a0_1 a0_2 a0_3 a0_4 a0_5 a0_6 a0_7 a0_8 a0_9 a0_10 a0_11) else (if a5 < (wrap64 (a0_5 - a0_6)) then (clepsydralaw10_ProbeHolds.j0 k a1 a2 a3 a4 a5 a6 true a0_0 a0_1 a0_2 a0_3 a0_4 a0_5 a0_6 a0_7 a0_8 a0_9 a0_10 a0_11) else (if a5 > a0_5 then (clepsydralaw10_ProbeHolds.j0 k a1 a2 a3 a4 a5 a6 true a0_0 a0_1 a0_2 a0_3 a0_4 a0_5 a0_6 a0_7 a0_8 a0_9 a0_10 a0_11) else (if a6 > (wrap64 (2 * a0_4)) then (clepsydralaw10_ProbeHolds.j0 k a1 a2 a3 a4 a5 a6 true a0_0 a0_1 a0_2 a0_3 a0_4 a0_5 a0_6 a0_7 a0_8 a0_9 a0_10 a0_11) else (clepsydralaw10_ProbeHolds.j0 k a1 a2 a3 a4 a5 a6 (decide (a6 < (wrap64 ((-2) * a0_4)))) a0_0 a0_1 a0_2 a0_3 a0_4 a0_5 a0_6 a0_7 a0_8 a0_9 a0_10 a0_11)))))) else (clepsydralaw10_ProbeHolds.j0 k a1 a2 a3 a4 a5 a6 true a0_0 a0_1 a0_2 a0_3 a0_4 a0_5 a0_6 a0_7 a0_8 a0_9 a0_10 a0_11))) = some r := by rw [if_pos rfl] at H; exact H
  clear H
  have H := H1
  clear H1
  have HC10 := Aside0.mk H
  clear H
  go_enter Try.func12, Try.ntmps12
  go_upto_region 3 with (first | ((with_reducible refine gate_dst (N := 7) rfl ?_); refine box_event ?hg (N := 7) ?hd (cs := #[.int .i64 a0_0, .int .i64 a0_1, .int .i64 a0_2, .int .i64 a0_3, .int .i64 a0_4, .int .i64 a0_5, .int .i64 a0_6, .int .i64 a0_7, .int .i64 a0_8, .int .i64 a0_9, .int .i64 a0_10, .int .i64 a0_11]) (t := 23) ?hr ?_; (case hd => rfl); (case hg => rfl); (case hr => first | (go_simp; done) | (go_simp; rfl)); intro gb523 hg w11 hbox hb; have n0_ := Aside0.mk (below_step (by repeat (first | (with_reducible first | exact HB.out | apply below_alloc | apply pw_below_drewN | apply below_drew1) | exact HB.out)) hb); have n1_ := Aside0.mk (hbox); have n2_ := Aside0.mk ((by rw [hg]; exact (below_size (by repeat (first | (with_reducible first | exact HB.out | apply below_alloc | apply pw_below_drewN | apply below_drew1) | exact HB.out))) : w.heap.size ≤ gb523)); have n3_ := Aside0.mk ((by rw [hg]; exact (below_size (by repeat (first | (with_reducible first | exact HB.out | apply below_alloc | apply pw_below_drewN | apply below_drew1) | exact HB.out))) : w.heap.size ≤ gb523)); clear HB; have HB := n0_; have BK523 := n1_; have GW523 := n2_; have GE523 := n3_; clear n0_ n1_ n2_ n3_; clear hb hbox hg) | ((with_reducible refine gate_callee (f := 31) rfl ?_); refine goesL_ (some 21) rfl rfl Try.func31 (by kernel_rfl) rfl #[] rfl (by (try simp only [List.map_toArray, List.map_cons, List.map_nil]); first | done | rfl | (simp only [List.length_drop, List.length_take]; rfl)) ?_; (with_reducible refine (clepsydralaw10_alive.calls k  true _ A8.out).mono ?_); rintro e w12 ⟨rfl, hb⟩; refine ⟨_, rfl, ?_⟩; have n0_ := Aside0.mk (blk_below (g := gb523) (o := .cells #[.int .i64 a0_0, .int .i64 a0_1, .int .i64 a0_2, .int .i64 a0_3, .int .i64 a0_4, .int .i64 a0_5, .int .i64 a0_6, .int .i64 a0_7, .int .i64 a0_8, .int .i64 a0_9, .int .i64 a0_10, .int .i64 a0_11] 23 (0, 0)) (by (with_reducible repeat (first | refine blk_drewN ?_ _ | refine blk_drew ?_ | refine blk_alloc ?_ _)); exact BK523.out) hb); have n1_ := Aside0.mk (below_step (by repeat (first | (with_reducible first | exact HB.out | apply below_alloc | apply pw_below_drewN | apply below_drew1 | refine below_set ?_ GE523.out) | exact HB.out)) hb); clear BK523; clear HB; have BK523 := n0_; have HB := n1_; clear n0_ n1_; (try clear hb); (try clear hb2); (try clear hk); (try clear hi)))
  (try simp only [Act.put, List.setIfInBounds_toArray, List.set_cons_zero, List.set_cons_succ])
  go_cut [69] (fun v69 wc => ∃ (kq : Nat) (x69_9 : Bool), v69 = .bool x69_9 ∧ Aside0 (clepsydralaw10_ProbeHolds.j0 kq a1 a2 a3 a4 a5 a6 x69_9 a0_0 a0_1 a0_2 a0_3 a0_4 a0_5 a0_6 a0_7 a0_8 a0_9 a0_10 a0_11 = some r) ∧ Aside0 (kq ≤ k) ∧ Aside0 (wc.heap[gb523]? = some (.cells #[.int .i64 a0_0, .int .i64 a0_1, .int .i64 a0_2, .int .i64 a0_3, .int .i64 a0_4, .int .i64 a0_5, .int .i64 a0_6, .int .i64 a0_7, .int .i64 a0_8, .int .i64 a0_9, .int .i64 a0_10, .int .i64 a0_11] 23 (0, 0))) ∧ Aside0 (Below w.heap.size w wc))
  case first =>
   have H := HC10.out
   clear HC10
   replace H := Option.bind_eq_some_iff.mp H
   obtain ⟨t525, A130, H⟩ := H
   replace H : (if t525 = 0 then (if a3 < (wrap64 (a0_5 - a0_6)) then (clepsydralaw10_ProbeHolds.j0 k a1 a2 a3 a4 a5 a6 true a0_0 a0_1 a0_2 a0_3 a0_4 a0_5 a0_6 a0_7 a0_8 a0_9 a0_10 a0_11) else (if a3 > a0_5 then (clepsydralaw10_ProbeHolds.j0 k a1 a2 a3 a4 a5 a6 true a0_0 a0_1 a0_2 a0_3 a0_4 a0_5 a0_6 a0_7 a0_8 a0_9 a0_10 a0_11) else (if a5 < (wrap64 (a0_5 - a0_6)) then (clepsydralaw10_ProbeHolds.j0 k a1 a2 a3 a4 a5 a6 true a0_0 a0_1 a0_2 a0_3 a0_4 a0_5 a0_6 a0_7 a0_8 a0_9 a0_10 a0_11) else (if a5 > a0_5 then (clepsydralaw10_ProbeHolds.j0 k a1 a2 a3 a4 a5 a6 true a0_0 a0_1 a0_2 a0_3 a0_4 a0_5 a0_6 a0_7 a0_8 a0_9 a0_10 a0_11) else (if a6 > (wrap64 (2 * a0_4)) then (clepsydralaw10_ProbeHolds.j0 k a1 a2 a3 a4 a5 a6 true a0_0 a0_1 a0_2 a0_3 a0_4 a0_5 a0_6 a0_7 a0_8 a0_9 a0_10 a0_11) else (clepsydralaw10_ProbeHolds.j0 k a1 a2 a3 a4 a5 a6 (decide (a6 < (wrap64 ((-2) * a0_4)))) a0_0 a0_1 a0_2 a0_3 a0_4 a0_5 a0_6 a0_7 a0_8 a0_9 a0_10 a0_11)))))) else (clepsydralaw10_ProbeHolds.j0 k a1 a2 a3 a4 a5 a6 true a0_0 a0_1 a0_2 a0_3 a0_4 a0_5 a0_6 a0_7 a0_8 a0_9 a0_10 a0_11)) = some r := H
   have A13 := Aside0.mk A130
   clear A130
   by_cases c14 : t525 = 0
   ·rw [if_pos c14] at H
    have c14b0 : (t525 == 0) = true := beq_iff_eq.mpr c14
    have c14b1 : (t525 != 0) = false := bne_eq_false_iff_eq.mpr c14
    clear c14
    (first | rw [c14b0] | (simp only [i64_w, i32_w]; rw [c14b0]) | skip)
    by_cases c15 : a3 < (wrap64 (a0_5 - a0_6))
    ·rw [if_pos c15] at H
     have c15b0 : decide (a3 < (wrap64 (a0_5 - a0_6))) = true := decide_eq_true c15
     clear c15
     have H' := Aside0.mk H
     clear H
     have hcz16_0 : w12.cell? ⟨gb523, 0, none⟩ = some (.int .i64 a0_0) := (blk_cell BK523.out 0).trans rfl
     have hcz16_1 : w12.cell? ⟨gb523, 1, none⟩ = some (.int .i64 a0_1) := (blk_cell BK523.out 1).trans rfl
     have hcz16_2 : w12.cell? ⟨gb523, 2, none⟩ = some (.int .i64 a0_2) := (blk_cell BK523.out 2).trans rfl
     have hcz16_3 : w12.cell? ⟨gb523, 3, none⟩ = some (.int .i64 a0_3) := (blk_cell BK523.out 3).trans rfl
     have hcz16_4 : w12.cell? ⟨gb523, 4, none⟩ = some (.int .i64 a0_4) := (blk_cell BK523.out 4).trans rfl
     have hcz16_5 : w12.cell? ⟨gb523, 5, none⟩ = some (.int .i64 a0_5) := (blk_cell BK523.out 5).trans rfl
     have hcz16_6 : w12.cell? ⟨gb523, 6, none⟩ = some (.int .i64 a0_6) := (blk_cell BK523.out 6).trans rfl
     have hcz16_7 : w12.cell? ⟨gb523, 7, none⟩ = some (.int .i64 a0_7) := (blk_cell BK523.out 7).trans rfl
     have hcz16_8 : w12.cell? ⟨gb523, 8, none⟩ = some (.int .i64 a0_8) := (blk_cell BK523.out 8).trans rfl
     have hcz16_9 : w12.cell? ⟨gb523, 9, none⟩ = some (.int .i64 a0_9) := (blk_cell BK523.out 9).trans rfl
     have hcz16_10 : w12.cell? ⟨gb523, 10, none⟩ = some (.int .i64 a0_10) := (blk_cell BK523.out 10).trans rfl
     have hcz16_11 : w12.cell? ⟨gb523, 11, none⟩ = some (.int .i64 a0_11) := (blk_cell BK523.out 11).trans rfl
     have hfz16_0 := blk_frozen BK523.out 0
     have hfz16_1 := blk_frozen BK523.out 1
     have hfz16_2 := blk_frozen BK523.out 2
     have hfz16_3 := blk_frozen BK523.out 3
     have hfz16_4 := blk_frozen BK523.out 4
     have hfz16_5 := blk_frozen BK523.out 5
     have hfz16_6 := blk_frozen BK523.out 6
     have hfz16_7 := blk_frozen BK523.out 7
     have hfz16_8 := blk_frozen BK523.out 8
     have hfz16_9 := blk_frozen BK523.out 9
     have hfz16_10 := blk_frozen BK523.out 10
     have hfz16_11 := blk_frozen BK523.out 11
     go_wp2_with (first | ((with_reducible refine gate_callee (f := 24) rfl ?_); refine goesL_ (some 24) rfl rfl Try.func24 (by kernel_rfl) rfl #[.agg #[.int .i64 a0_0, .int .i64 a0_1, .int .i64 a0_2, .int .i64 a0_3, .int .i64 a0_4, .int .i64 a0_5, .int .i64 a0_6, .int .i64 a0_7, .int .i64 a0_8, .int .i64 a0_9, .int .i64 a0_10, .int .i64 a0_11]] rfl (by (try simp only [List.map_toArray, List.map_cons, List.map_nil]); first | done | rfl | (simp only [List.length_drop, List.length_take]; rfl)) ?_; (with_reducible refine (limit_Check.calls k a0_0 a0_1 a0_2 a0_3 a0_4 a0_5 a0_6 a0_7 a0_8 a0_9 a0_10 a0_11 t525 _ A13.out).mono ?_); rintro e w17 ⟨rfl, hb⟩; refine ⟨_, rfl, ?_⟩; have n0_ := Aside0.mk (blk_below (g := gb523) (o := .cells #[.int .i64 a0_0, .int .i64 a0_1, .int .i64 a0_2, .int .i64 a0_3, .int .i64 a0_4, .int .i64 a0_5, .int .i64 a0_6, .int .i64 a0_7, .int .i64 a0_8, .int .i64 a0_9, .int .i64 a0_10, .int .i64 a0_11] 23 (0, 0)) (by (with_reducible repeat (first | refine blk_drewN ?_ _ | refine blk_drew ?_ | refine blk_alloc ?_ _)); exact BK523.out) hb); have n1_ := Aside0.mk (below_step (by repeat (first | (with_reducible first | exact HB.out | apply below_alloc | apply pw_below_drewN | apply below_drew1 | refine below_set ?_ GE523.out) | exact HB.out)) hb); clear BK523; clear HB; have BK523 := n0_; have HB := n1_; clear n0_ n1_; (try clear hb); (try clear hb2); (try clear hk); (try clear hi); have hcz18_0 : w17.cell? ⟨gb523, 0, none⟩ = some (.int .i64 a0_0) := (blk_cell BK523.out 0).trans rfl; have hcz18_1 : w17.cell? ⟨gb523, 1, none⟩ = some (.int .i64 a0_1) := (blk_cell BK523.out 1).trans rfl; have hcz18_2 : w17.cell? ⟨gb523, 2, none⟩ = some (.int .i64 a0_2) := (blk_cell BK523.out 2).trans rfl; have hcz18_3 : w17.cell? ⟨gb523, 3, none⟩ = some (.int .i64 a0_3) := (blk_cell BK523.out 3).trans rfl; have hcz18_4 : w17.cell? ⟨gb523, 4, none⟩ = some (.int .i64 a0_4) := (blk_cell BK523.out 4).trans rfl; have hcz18_5 : w17.cell? ⟨gb523, 5, none⟩ = some (.int .i64 a0_5) := (blk_cell BK523.out 5).trans rfl; have hcz18_6 : w17.cell? ⟨gb523, 6, none⟩ = some (.int .i64 a0_6) := (blk_cell BK523.out 6).trans rfl; have hcz18_7 : w17.cell? ⟨gb523, 7, none⟩ = some (.int .i64 a0_7) := (blk_cell BK523.out 7).trans rfl; have hcz18_8 : w17.cell? ⟨gb523, 8, none⟩ = some (.int .i64 a0_8) := (blk_cell BK523.out 8).trans rfl; have hcz18_9 : w17.cell? ⟨gb523, 9, none⟩ = some (.int .i64 a0_9) := (blk_cell BK523.out 9).trans rfl; have hcz18_10 : w17.cell? ⟨gb523, 10, none⟩ = some (.int .i64 a0_10) := (blk_cell BK523.out 10).trans rfl; have hcz18_11 : w17.cell? ⟨gb523, 11, none⟩ = some (.int .i64 a0_11) := (blk_cell BK523.out 11).trans rfl; have hfz18_0 := blk_frozen BK523.out 0; have hfz18_1 := blk_frozen BK523.out 1; have hfz18_2 := blk_frozen BK523.out 2; have hfz18_3 := blk_frozen BK523.out 3; have hfz18_4 := blk_frozen BK523.out 4; have hfz18_5 := blk_frozen BK523.out 5; have hfz18_6 := blk_frozen BK523.out 6; have hfz18_7 := blk_frozen BK523.out 7; have hfz18_8 := blk_frozen BK523.out 8; have hfz18_9 := blk_frozen BK523.out 9; have hfz18_10 := blk_frozen BK523.out 10; have hfz18_11 := blk_frozen BK523.out 11))
     go_meet
     case rel => exact ⟨_, (true), (by first | rfl | (simp; done) | (simp [*]; done) | (simp [Int.tdiv_eq_ediv_of_nonneg]; done) | (simp [Go.RowKit.wrap64]; done) | (simp [*, Go.RowKit.wrap64]; done)), H', ⟨by first | omega | exact Nat.le_refl _⟩, ⟨by (with_reducible repeat (first | refine blk_drewN ?_ _ | refine blk_drew ?_ | refine blk_alloc ?_ _)); exact BK523.out⟩, ⟨by repeat (first | (with_reducible first | exact HB.out | apply below_alloc | apply pw_below_drewN | apply below_drew1 | refine below_set ?_ GE523.out) | exact HB.out)⟩⟩
    ·rw [if_neg c15] at H
     have c15b0 : decide (a3 < (wrap64 (a0_5 - a0_6))) = false := decide_eq_false c15
     clear c15
     by_cases c19 : a3 > a0_5
     ·rw [if_pos c19] at H
      have c19b0 : decide (a0_5 < a3) = true := decide_eq_true c19
      clear c19
      have H' := Aside0.mk H
      clear H
      have hcz20_0 : w12.cell? ⟨gb523, 0, none⟩ = some (.int .i64 a0_0) := (blk_cell BK523.out 0).trans rfl
      have hcz20_1 : w12.cell? ⟨gb523, 1, none⟩ = some (.int .i64 a0_1) := (blk_cell BK523.out 1).trans rfl
      have hcz20_2 : w12.cell? ⟨gb523, 2, none⟩ = some (.int .i64 a0_2) := (blk_cell BK523.out 2).trans rfl
      have hcz20_3 : w12.cell? ⟨gb523, 3, none⟩ = some (.int .i64 a0_3) := (blk_cell BK523.out 3).trans rfl
      have hcz20_4 : w12.cell? ⟨gb523, 4, none⟩ = some (.int .i64 a0_4) := (blk_cell BK523.out 4).trans rfl
      have hcz20_5 : w12.cell? ⟨gb523, 5, none⟩ = some (.int .i64 a0_5) := (blk_cell BK523.out 5).trans rfl
      have hcz20_6 : w12.cell? ⟨gb523, 6, none⟩ = some (.int .i64 a0_6) := (blk_cell BK523.out 6).trans rfl
      have hcz20_7 : w12.cell? ⟨gb523, 7, none⟩ = some (.int .i64 a0_7) := (blk_cell BK523.out 7).trans rfl
      have hcz20_8 : w12.cell? ⟨gb523, 8, none⟩ = some (.int .i64 a0_8) := (blk_cell BK523.out 8).trans rfl
      have hcz20_9 : w12.cell? ⟨gb523, 9, none⟩ = some (.int .i64 a0_9) := (blk_cell BK523.out 9).trans rfl
      have hcz20_10 : w12.cell? ⟨gb523, 10, none⟩ = some (.int .i64 a0_10) := (blk_cell BK523.out 10).trans rfl
      have hcz20_11 : w12.cell? ⟨gb523, 11, none⟩ = some (.int .i64 a0_11) := (blk_cell BK523.out 11).trans rfl
      have hfz20_0 := blk_frozen BK523.out 0
      have hfz20_1 := blk_frozen BK523.out 1
      have hfz20_2 := blk_frozen BK523.out 2
      have hfz20_3 := blk_frozen BK523.out 3
      have hfz20_4 := blk_frozen BK523.out 4
      have hfz20_5 := blk_frozen BK523.out 5
      have hfz20_6 := blk_frozen BK523.out 6
      have hfz20_7 := blk_frozen BK523.out 7
      have hfz20_8 := blk_frozen BK523.out 8
      have hfz20_9 := blk_frozen BK523.out 9
      have hfz20_10 := blk_frozen BK523.out 10
      have hfz20_11 := blk_frozen BK523.out 11
      go_wp2_with (first | ((with_reducible refine gate_callee (f := 24) rfl ?_); refine goesL_ (some 24) rfl rfl Try.func24 (by kernel_rfl) rfl #[.agg #[.int .i64 a0_0, .int .i64 a0_1, .int .i64 a0_2, .int .i64 a0_3, .int .i64 a0_4, .int .i64 a0_5, .int .i64 a0_6, .int .i64 a0_7, .int .i64 a0_8, .int .i64 a0_9, .int .i64 a0_10, .int .i64 a0_11]] rfl (by (try simp only [List.map_toArray, List.map_cons, List.map_nil]); first | done | rfl | (simp only [List.length_drop, List.length_take]; rfl)) ?_; (with_reducible refine (limit_Check.calls k a0_0 a0_1 a0_2 a0_3 a0_4 a0_5 a0_6 a0_7 a0_8 a0_9 a0_10 a0_11 t525 _ A13.out).mono ?_); rintro e w21 ⟨rfl, hb⟩; refine ⟨_, rfl, ?_⟩; have n0_ := Aside0.mk (blk_below (g := gb523) (o := .cells #[.int .i64 a0_0, .int .i64 a0_1, .int .i64 a0_2, .int .i64 a0_3, .int .i64 a0_4, .int .i64 a0_5, .int .i64 a0_6, .int .i64 a0_7, .int .i64 a0_8, .int .i64 a0_9, .int .i64 a0_10, .int .i64 a0_11] 23 (0, 0)) (by (with_reducible repeat (first | refine blk_drewN ?_ _ | refine blk_drew ?_ | refine blk_alloc ?_ _)); exact BK523.out) hb); have n1_ := Aside0.mk (below_step (by repeat (first | (with_reducible first | exact HB.out | apply below_alloc | apply pw_below_drewN | apply below_drew1 | refine below_set ?_ GE523.out) | exact HB.out)) hb); clear BK523; clear HB; have BK523 := n0_; have HB := n1_; clear n0_ n1_; (try clear hb); (try clear hb2); (try clear hk); (try clear hi); have hcz22_0 : w21.cell? ⟨gb523, 0, none⟩ = some (.int .i64 a0_0) := (blk_cell BK523.out 0).trans rfl; have hcz22_1 : w21.cell? ⟨gb523, 1, none⟩ = some (.int .i64 a0_1) := (blk_cell BK523.out 1).trans rfl; have hcz22_2 : w21.cell? ⟨gb523, 2, none⟩ = some (.int .i64 a0_2) := (blk_cell BK523.out 2).trans rfl; have hcz22_3 : w21.cell? ⟨gb523, 3, none⟩ = some (.int .i64 a0_3) := (blk_cell BK523.out 3).trans rfl; have hcz22_4 : w21.cell? ⟨gb523, 4, none⟩ = some (.int .i64 a0_4) := (blk_cell BK523.out 4).trans rfl; have hcz22_5 : w21.cell? ⟨gb523, 5, none⟩ = some (.int .i64 a0_5) := (blk_cell BK523.out 5).trans rfl; have hcz22_6 : w21.cell? ⟨gb523, 6, none⟩ = some (.int .i64 a0_6) := (blk_cell BK523.out 6).trans rfl; have hcz22_7 : w21.cell? ⟨gb523, 7, none⟩ = some (.int .i64 a0_7) := (blk_cell BK523.out 7).trans rfl; have hcz22_8 : w21.cell? ⟨gb523, 8, none⟩ = some (.int .i64 a0_8) := (blk_cell BK523.out 8).trans rfl; have hcz22_9 : w21.cell? ⟨gb523, 9, none⟩ = some (.int .i64 a0_9) := (blk_cell BK523.out 9).trans rfl; have hcz22_10 : w21.cell? ⟨gb523, 10, none⟩ = some (.int .i64 a0_10) := (blk_cell BK523.out 10).trans rfl; have hcz22_11 : w21.cell? ⟨gb523, 11, none⟩ = some (.int .i64 a0_11) := (blk_cell BK523.out 11).trans rfl; have hfz22_0 := blk_frozen BK523.out 0; have hfz22_1 := blk_frozen BK523.out 1; have hfz22_2 := blk_frozen BK523.out 2; have hfz22_3 := blk_frozen BK523.out 3; have hfz22_4 := blk_frozen BK523.out 4; have hfz22_5 := blk_frozen BK523.out 5; have hfz22_6 := blk_frozen BK523.out 6; have hfz22_7 := blk_frozen BK523.out 7; have hfz22_8 := blk_frozen BK523.out 8; have hfz22_9 := blk_frozen BK523.out 9; have hfz22_10 := blk_frozen BK523.out 10; have hfz22_11 := blk_frozen BK523.out 11))
      go_meet
      case rel => exact ⟨_, (true), (by first | rfl | (simp; done) | (simp [*]; done) | (simp [Int.tdiv_eq_ediv_of_nonneg]; done) | (simp [Go.RowKit.wrap64]; done) | (simp [*, Go.RowKit.wrap64]; done)), H', ⟨by first | omega | exact Nat.le_refl _⟩, ⟨by (with_reducible repeat (first | refine blk_drewN ?_ _ | refine blk_drew ?_ | refine blk_alloc ?_ _)); exact BK523.out⟩, ⟨by repeat (first | (with_reducible first | exact HB.out | apply below_alloc | apply pw_below_drewN | apply below_drew1 | refine below_set ?_ GE523.out) | exact HB.out)⟩⟩
     ·rw [if_neg c19] at H
      have c19b0 : decide (a0_5 < a3) = false := decide_eq_false c19
      clear c19
      by_cases c23 : a5 < (wrap64 (a0_5 - a0_6))
      ·rw [if_pos c23] at H
       have c23b0 : decide (a5 < (wrap64 (a0_5 - a0_6))) = true := decide_eq_true c23
       clear c23
       have H' := Aside0.mk H
       clear H
       have hcz24_0 : w12.cell? ⟨gb523, 0, none⟩ = some (.int .i64 a0_0) := (blk_cell BK523.out 0).trans rfl
       have hcz24_1 : w12.cell? ⟨gb523, 1, none⟩ = some (.int .i64 a0_1) := (blk_cell BK523.out 1).trans rfl
       have hcz24_2 : w12.cell? ⟨gb523, 2, none⟩ = some (.int .i64 a0_2) := (blk_cell BK523.out 2).trans rfl
       have hcz24_3 : w12.cell? ⟨gb523, 3, none⟩ = some (.int .i64 a0_3) := (blk_cell BK523.out 3).trans rfl
       have hcz24_4 : w12.cell? ⟨gb523, 4, none⟩ = some (.int .i64 a0_4) := (blk_cell BK523.out 4).trans rfl
       have hcz24_5 : w12.cell? ⟨gb523, 5, none⟩ = some (.int .i64 a0_5) := (blk_cell BK523.out 5).trans rfl
       have hcz24_6 : w12.cell? ⟨gb523, 6, none⟩ = some (.int .i64 a0_6) := (blk_cell BK523.out 6).trans rfl
       have hcz24_7 : w12.cell? ⟨gb523, 7, none⟩ = some (.int .i64 a0_7) := (blk_cell BK523.out 7).trans rfl
       have hcz24_8 : w12.cell? ⟨gb523, 8, none⟩ = some (.int .i64 a0_8) := (blk_cell BK523.out 8).trans rfl
       have hcz24_9 : w12.cell? ⟨gb523, 9, none⟩ = some (.int .i64 a0_9) := (blk_cell BK523.out 9).trans rfl
       have hcz24_10 : w12.cell? ⟨gb523, 10, none⟩ = some (.int .i64 a0_10) := (blk_cell BK523.out 10).trans rfl
       have hcz24_11 : w12.cell? ⟨gb523, 11, none⟩ = some (.int .i64 a0_11) := (blk_cell BK523.out 11).trans rfl
       have hfz24_0 := blk_frozen BK523.out 0
       have hfz24_1 := blk_frozen BK523.out 1
       have hfz24_2 := blk_frozen BK523.out 2
       have hfz24_3 := blk_frozen BK523.out 3
       have hfz24_4 := blk_frozen BK523.out 4
       have hfz24_5 := blk_frozen BK523.out 5
       have hfz24_6 := blk_frozen BK523.out 6
       have hfz24_7 := blk_frozen BK523.out 7
       have hfz24_8 := blk_frozen BK523.out 8
       have hfz24_9 := blk_frozen BK523.out 9
       have hfz24_10 := blk_frozen BK523.out 10
       have hfz24_11 := blk_frozen BK523.out 11
       go_wp2_with (first | ((with_reducible refine gate_callee (f := 24) rfl ?_); refine goesL_ (some 24) rfl rfl Try.func24 (by kernel_rfl) rfl #[.agg #[.int .i64 a0_0, .int .i64 a0_1, .int .i64 a0_2, .int .i64 a0_3, .int .i64 a0_4, .int .i64 a0_5, .int .i64 a0_6, .int .i64 a0_7, .int .i64 a0_8, .int .i64 a0_9, .int .i64 a0_10, .int .i64 a0_11]] rfl (by (try simp only [List.map_toArray, List.map_cons, List.map_nil]); first | done | rfl | (simp only [List.length_drop, List.length_take]; rfl)) ?_; (with_reducible refine (limit_Check.calls k a0_0 a0_1 a0_2 a0_3 a0_4 a0_5 a0_6 a0_7 a0_8 a0_9 a0_10 a0_11 t525 _ A13.out).mono ?_); rintro e w25 ⟨rfl, hb⟩; refine ⟨_, rfl, ?_⟩; have n0_ := Aside0.mk (blk_below (g := gb523) (o := .cells #[.int .i64 a0_0, .int .i64 a0_1, .int .i64 a0_2, .int .i64 a0_3, .int .i64 a0_4, .int .i64 a0_5, .int .i64 a0_6, .int .i64 a0_7, .int .i64 a0_8, .int .i64 a0_9, .int .i64 a0_10, .int .i64 a0_11] 23 (0, 0)) (by (with_reducible repeat (first | refine blk_drewN ?_ _ | refine blk_drew ?_ | refine blk_alloc ?_ _)); exact BK523.out) hb); have n1_ := Aside0.mk (below_step (by repeat (first | (with_reducible first | exact HB.out | apply below_alloc | apply pw_below_drewN | apply below_drew1 | refine below_set ?_ GE523.out) | exact HB.out)) hb); clear BK523; clear HB; have BK523 := n0_; have HB := n1_; clear n0_ n1_; (try clear hb); (try clear hb2); (try clear hk); (try clear hi); have hcz26_0 : w25.cell? ⟨gb523, 0, none⟩ = some (.int .i64 a0_0) := (blk_cell BK523.out 0).trans rfl; have hcz26_1 : w25.cell? ⟨gb523, 1, none⟩ = some (.int .i64 a0_1) := (blk_cell BK523.out 1).trans rfl; have hcz26_2 : w25.cell? ⟨gb523, 2, none⟩ = some (.int .i64 a0_2) := (blk_cell BK523.out 2).trans rfl; have hcz26_3 : w25.cell? ⟨gb523, 3, none⟩ = some (.int .i64 a0_3) := (blk_cell BK523.out 3).trans rfl; have hcz26_4 : w25.cell? ⟨gb523, 4, none⟩ = some (.int .i64 a0_4) := (blk_cell BK523.out 4).trans rfl; have hcz26_5 : w25.cell? ⟨gb523, 5, none⟩ = some (.int .i64 a0_5) := (blk_cell BK523.out 5).trans rfl; have hcz26_6 : w25.cell? ⟨gb523, 6, none⟩ = some (.int .i64 a0_6) := (blk_cell BK523.out 6).trans rfl; have hcz26_7 : w25.cell? ⟨gb523, 7, none⟩ = some (.int .i64 a0_7) := (blk_cell BK523.out 7).trans rfl; have hcz26_8 : w25.cell? ⟨gb523, 8, none⟩ = some (.int .i64 a0_8) := (blk_cell BK523.out 8).trans rfl; have hcz26_9 : w25.cell? ⟨gb523, 9, none⟩ = some (.int .i64 a0_9) := (blk_cell BK523.out 9).trans rfl; have hcz26_10 : w25.cell? ⟨gb523, 10, none⟩ = some (.int .i64 a0_10) := (blk_cell BK523.out 10).trans rfl; have hcz26_11 : w25.cell? ⟨gb523, 11, none⟩ = some (.int .i64 a0_11) := (blk_cell BK523.out 11).trans rfl; have hfz26_0 := blk_frozen BK523.out 0; have hfz26_1 := blk_frozen BK523.out 1; have hfz26_2 := blk_frozen BK523.out 2; have hfz26_3 := blk_frozen BK523.out 3; have hfz26_4 := blk_frozen BK523.out 4; have hfz26_5 := blk_frozen BK523.out 5; have hfz26_6 := blk_frozen BK523.out 6; have hfz26_7 := blk_frozen BK523.out 7; have hfz26_8 := blk_frozen BK523.out 8; have hfz26_9 := blk_frozen BK523.out 9; have hfz26_10 := blk_frozen BK523.out 10; have hfz26_11 := blk_frozen BK523.out 11))
       go_meet
       case rel => exact ⟨_, (true), (by first | rfl | (simp; done) | (simp [*]; done) | (simp [Int.tdiv_eq_ediv_of_nonneg]; done) | (simp [Go.RowKit.wrap64]; done) | (simp [*, Go.RowKit.wrap64]; done)), H', ⟨by first | omega | exact Nat.le_refl _⟩, ⟨by (with_reducible repeat (first | refine blk_drewN ?_ _ | refine blk_drew ?_ | refine blk_alloc ?_ _)); exact BK523.out⟩, ⟨by repeat (first | (with_reducible first | exact HB.out | apply below_alloc | apply pw_below_drewN | apply below_drew1 | refine below_set ?_ GE523.out) | exact HB.out)⟩⟩
      ·rw [if_neg c23] at H
       have c23b0 : decide (a5 < (wrap64 (a0_5 - a0_6))) = false := decide_eq_false c23
       clear c23
       by_cases c27 : a5 > a0_5
       ·rw [if_pos c27] at H
        have c27b0 : decide (a0_5 < a5) = true := decide_eq_true c27
        clear c27
        have H' := Aside0.mk H
        clear H
        have hcz28_0 : w12.cell? ⟨gb523, 0, none⟩ = some (.int .i64 a0_0) := (blk_cell BK523.out 0).trans rfl
        have hcz28_1 : w12.cell? ⟨gb523, 1, none⟩ = some (.int .i64 a0_1) := (blk_cell BK523.out 1).trans rfl
        have hcz28_2 : w12.cell? ⟨gb523, 2, none⟩ = some (.int .i64 a0_2) := (blk_cell BK523.out 2).trans rfl
        have hcz28_3 : w12.cell? ⟨gb523, 3, none⟩ = some (.int .i64 a0_3) := (blk_cell BK523.out 3).trans rfl
        have hcz28_4 : w12.cell? ⟨gb523, 4, none⟩ = some (.int .i64 a0_4) := (blk_cell BK523.out 4).trans rfl
        have hcz28_5 : w12.cell? ⟨gb523, 5, none⟩ = some (.int .i64 a0_5) := (blk_cell BK523.out 5).trans rfl
        have hcz28_6 : w12.cell? ⟨gb523, 6, none⟩ = some (.int .i64 a0_6) := (blk_cell BK523.out 6).trans rfl
        have hcz28_7 : w12.cell? ⟨gb523, 7, none⟩ = some (.int .i64 a0_7) := (blk_cell BK523.out 7).trans rfl
        have hcz28_8 : w12.cell? ⟨gb523, 8, none⟩ = some (.int .i64 a0_8) := (blk_cell BK523.out 8).trans rfl
        have hcz28_9 : w12.cell? ⟨gb523, 9, none⟩ = some (.int .i64 a0_9) := (blk_cell BK523.out 9).trans rfl
        have hcz28_10 : w12.cell? ⟨gb523, 10, none⟩ = some (.int .i64 a0_10) := (blk_cell BK523.out 10).trans rfl
        have hcz28_11 : w12.cell? ⟨gb523, 11, none⟩ = some (.int .i64 a0_11) := (blk_cell BK523.out 11).trans rfl
        have hfz28_0 := blk_frozen BK523.out 0
        have hfz28_1 := blk_frozen BK523.out 1
        have hfz28_2 := blk_frozen BK523.out 2
        have hfz28_3 := blk_frozen BK523.out 3
        have hfz28_4 := blk_frozen BK523.out 4
        have hfz28_5 := blk_frozen BK523.out 5
        have hfz28_6 := blk_frozen BK523.out 6
        have hfz28_7 := blk_frozen BK523.out 7
        have hfz28_8 := blk_frozen BK523.out 8
        have hfz28_9 := blk_frozen BK523.out 9
        have hfz28_10 := blk_frozen BK523.out 10
        have hfz28_11 := blk_frozen BK523.out 11
        go_wp2_with (first | ((with_reducible refine gate_callee (f := 24) rfl ?_); refine goesL_ (some 24) rfl rfl Try.func24 (by kernel_rfl) rfl #[.agg #[.int .i64 a0_0, .int .i64 a0_1, .int .i64 a0_2, .int .i64 a0_3, .int .i64 a0_4, .int .i64 a0_5, .int .i64 a0_6, .int .i64 a0_7, .int .i64 a0_8, .int .i64 a0_9, .int .i64 a0_10, .int .i64 a0_11]] rfl (by (try simp only [List.map_toArray, List.map_cons, List.map_nil]); first | done | rfl | (simp only [List.length_drop, List.length_take]; rfl)) ?_; (with_reducible refine (limit_Check.calls k a0_0 a0_1 a0_2 a0_3 a0_4 a0_5 a0_6 a0_7 a0_8 a0_9 a0_10 a0_11 t525 _ A13.out).mono ?_); rintro e w29 ⟨rfl, hb⟩; refine ⟨_, rfl, ?_⟩; have n0_ := Aside0.mk (blk_below (g := gb523) (o := .cells #[.int .i64 a0_0, .int .i64 a0_1, .int .i64 a0_2, .int .i64 a0_3, .int .i64 a0_4, .int .i64 a0_5, .int .i64 a0_6, .int .i64 a0_7, .int .i64 a0_8, .int .i64 a0_9, .int .i64 a0_10, .int .i64 a0_11] 23 (0, 0)) (by (with_reducible repeat (first | refine blk_drewN ?_ _ | refine blk_drew ?_ | refine blk_alloc ?_ _)); exact BK523.out) hb); have n1_ := Aside0.mk (below_step (by repeat (first | (with_reducible first | exact HB.out | apply below_alloc | apply pw_below_drewN | apply below_drew1 | refine below_set ?_ GE523.out) | exact HB.out)) hb); clear BK523; clear HB; have BK523 := n0_; have HB := n1_; clear n0_ n1_; (try clear hb); (try clear hb2); (try clear hk); (try clear hi); have hcz30_0 : w29.cell? ⟨gb523, 0, none⟩ = some (.int .i64 a0_0) := (blk_cell BK523.out 0).trans rfl; have hcz30_1 : w29.cell? ⟨gb523, 1, none⟩ = some (.int .i64 a0_1) := (blk_cell BK523.out 1).trans rfl; have hcz30_2 : w29.cell? ⟨gb523, 2, none⟩ = some (.int .i64 a0_2) := (blk_cell BK523.out 2).trans rfl; have hcz30_3 : w29.cell? ⟨gb523, 3, none⟩ = some (.int .i64 a0_3) := (blk_cell BK523.out 3).trans rfl; have hcz30_4 : w29.cell? ⟨gb523, 4, none⟩ = some (.int .i64 a0_4) := (blk_cell BK523.out 4).trans rfl; have hcz30_5 : w29.cell? ⟨gb523, 5, none⟩ = some (.int .i64 a0_5) := (blk_cell BK523.out 5).trans rfl; have hcz30_6 : w29.cell? ⟨gb523, 6, none⟩ = some (.int .i64 a0_6) := (blk_cell BK523.out 6).trans rfl; have hcz30_7 : w29.cell? ⟨gb523, 7, none⟩ = some (.int .i64 a0_7) := (blk_cell BK523.out 7).trans rfl; have hcz30_8 : w29.cell? ⟨gb523, 8, none⟩ = some (.int .i64 a0_8) := (blk_cell BK523.out 8).trans rfl; have hcz30_9 : w29.cell? ⟨gb523, 9, none⟩ = some (.int .i64 a0_9) := (blk_cell BK523.out 9).trans rfl; have hcz30_10 : w29.cell? ⟨gb523, 10, none⟩ = some (.int .i64 a0_10) := (blk_cell BK523.out 10).trans rfl; have hcz30_11 : w29.cell? ⟨gb523, 11, none⟩ = some (.int .i64 a0_11) := (blk_cell BK523.out 11).trans rfl; have hfz30_0 := blk_frozen BK523.out 0; have hfz30_1 := blk_frozen BK523.out 1; have hfz30_2 := blk_frozen BK523.out 2; have hfz30_3 := blk_frozen BK523.out 3; have hfz30_4 := blk_frozen BK523.out 4; have hfz30_5 := blk_frozen BK523.out 5; have hfz30_6 := blk_frozen BK523.out 6; have hfz30_7 := blk_frozen BK523.out 7; have hfz30_8 := blk_frozen BK523.out 8; have hfz30_9 := blk_frozen BK523.out 9; have hfz30_10 := blk_frozen BK523.out 10; have hfz30_11 := blk_frozen BK523.out 11))
        go_meet
        case rel => exact ⟨_, (true), (by first | rfl | (simp; done) | (simp [*]; done) | (simp [Int.tdiv_eq_ediv_of_nonneg]; done) | (simp [Go.RowKit.wrap64]; done) | (simp [*, Go.RowKit.wrap64]; done)), H', ⟨by first | omega | exact Nat.le_refl _⟩, ⟨by (with_reducible repeat (first | refine blk_drewN ?_ _ | refine blk_drew ?_ | refine blk_alloc ?_ _)); exact BK523.out⟩, ⟨by repeat (first | (with_reducible first | exact HB.out | apply below_alloc | apply pw_below_drewN | apply below_drew1 | refine below_set ?_ GE523.out) | exact HB.out)⟩⟩
       ·rw [if_neg c27] at H
        have c27b0 : decide (a0_5 < a5) = false := decide_eq_false c27
        clear c27
        by_cases c31 : a6 > (wrap64 (2 * a0_4))
        ·rw [if_pos c31] at H
         have c31b0 : decide ((wrap64 (2 * a0_4)) < a6) = true := decide_eq_true c31
         clear c31
         have H' := Aside0.mk H
         clear H
         have hcz32_0 : w12.cell? ⟨gb523, 0, none⟩ = some (.int .i64 a0_0) := (blk_cell BK523.out 0).trans rfl
         have hcz32_1 : w12.cell? ⟨gb523, 1, none⟩ = some (.int .i64 a0_1) := (blk_cell BK523.out 1).trans rfl
         have hcz32_2 : w12.cell? ⟨gb523, 2, none⟩ = some (.int .i64 a0_2) := (blk_cell BK523.out 2).trans rfl
         have hcz32_3 : w12.cell? ⟨gb523, 3, none⟩ = some (.int .i64 a0_3) := (blk_cell BK523.out 3).trans rfl
         have hcz32_4 : w12.cell? ⟨gb523, 4, none⟩ = some (.int .i64 a0_4) := (blk_cell BK523.out 4).trans rfl
         have hcz32_5 : w12.cell? ⟨gb523, 5, none⟩ = some (.int .i64 a0_5) := (blk_cell BK523.out 5).trans rfl
         have hcz32_6 : w12.cell? ⟨gb523, 6, none⟩ = some (.int .i64 a0_6) := (blk_cell BK523.out 6).trans rfl
         have hcz32_7 : w12.cell? ⟨gb523, 7, none⟩ = some (.int .i64 a0_7) := (blk_cell BK523.out 7).trans rfl
         have hcz32_8 : w12.cell? ⟨gb523, 8, none⟩ = some (.int .i64 a0_8) := (blk_cell BK523.out 8).trans rfl
         have hcz32_9 : w12.cell? ⟨gb523, 9, none⟩ = some (.int .i64 a0_9) := (blk_cell BK523.out 9).trans rfl
         have hcz32_10 : w12.cell? ⟨gb523, 10, none⟩ = some (.int .i64 a0_10) := (blk_cell BK523.out 10).trans rfl
         have hcz32_11 : w12.cell? ⟨gb523, 11, none⟩ = some (.int .i64 a0_11) := (blk_cell BK523.out 11).trans rfl
         have hfz32_0 := blk_frozen BK523.out 0
         have hfz32_1 := blk_frozen BK523.out 1
         have hfz32_2 := blk_frozen BK523.out 2
         have hfz32_3 := blk_frozen BK523.out 3
         have hfz32_4 := blk_frozen BK523.out 4
         have hfz32_5 := blk_frozen BK523.out 5
         have hfz32_6 := blk_frozen BK523.out 6
         have hfz32_7 := blk_frozen BK523.out 7
         have hfz32_8 := blk_frozen BK523.out 8
         have hfz32_9 := blk_frozen BK523.out 9
         have hfz32_10 := blk_frozen BK523.out 10
         have hfz32_11 := blk_frozen BK523.out 11
         go_wp2_with (first | ((with_reducible refine gate_callee (f := 24) rfl ?_); refine goesL_ (some 24) rfl rfl Try.func24 (by kernel_rfl) rfl #[.agg #[.int .i64 a0_0, .int .i64 a0_1, .int .i64 a0_2, .int .i64 a0_3, .int .i64 a0_4, .int .i64 a0_5, .int .i64 a0_6, .int .i64 a0_7, .int .i64 a0_8, .int .i64 a0_9, .int .i64 a0_10, .int .i64 a0_11]] rfl (by (try simp only [List.map_toArray, List.map_cons, List.map_nil]); first | done | rfl | (simp only [List.length_drop, List.length_take]; rfl)) ?_; (with_reducible refine (limit_Check.calls k a0_0 a0_1 a0_2 a0_3 a0_4 a0_5 a0_6 a0_7 a0_8 a0_9 a0_10 a0_11 t525 _ A13.out).mono ?_); rintro e w33 ⟨rfl, hb⟩; refine ⟨_, rfl, ?_⟩; have n0_ := Aside0.mk (blk_below (g := gb523) (o := .cells #[.int .i64 a0_0, .int .i64 a0_1, .int .i64 a0_2, .int .i64 a0_3, .int .i64 a0_4, .int .i64 a0_5, .int .i64 a0_6, .int .i64 a0_7, .int .i64 a0_8, .int .i64 a0_9, .int .i64 a0_10, .int .i64 a0_11] 23 (0, 0)) (by (with_reducible repeat (first | refine blk_drewN ?_ _ | refine blk_drew ?_ | refine blk_alloc ?_ _)); exact BK523.out) hb); have n1_ := Aside0.mk (below_step (by repeat (first | (with_reducible first | exact HB.out | apply below_alloc | apply pw_below_drewN | apply below_drew1 | refine below_set ?_ GE523.out) | exact HB.out)) hb); clear BK523; clear HB; have BK523 := n0_; have HB := n1_; clear n0_ n1_; (try clear hb); (try clear hb2); (try clear hk); (try clear hi); have hcz34_0 : w33.cell? ⟨gb523, 0, none⟩ = some (.int .i64 a0_0) := (blk_cell BK523.out 0).trans rfl; have hcz34_1 : w33.cell? ⟨gb523, 1, none⟩ = some (.int .i64 a0_1) := (blk_cell BK523.out 1).trans rfl; have hcz34_2 : w33.cell? ⟨gb523, 2, none⟩ = some (.int .i64 a0_2) := (blk_cell BK523.out 2).trans rfl; have hcz34_3 : w33.cell? ⟨gb523, 3, none⟩ = some (.int .i64 a0_3) := (blk_cell BK523.out 3).trans rfl; have hcz34_4 : w33.cell? ⟨gb523, 4, none⟩ = some (.int .i64 a0_4) := (blk_cell BK523.out 4).trans rfl; have hcz34_5 : w33.cell? ⟨gb523, 5, none⟩ = some (.int .i64 a0_5) := (blk_cell BK523.out 5).trans rfl; have hcz34_6 : w33.cell? ⟨gb523, 6, none⟩ = some (.int .i64 a0_6) := (blk_cell BK523.out 6).trans rfl; have hcz34_7 : w33.cell? ⟨gb523, 7, none⟩ = some (.int .i64 a0_7) := (blk_cell BK523.out 7).trans rfl; have hcz34_8 : w33.cell? ⟨gb523, 8, none⟩ = some (.int .i64 a0_8) := (blk_cell BK523.out 8).trans rfl; have hcz34_9 : w33.cell? ⟨gb523, 9, none⟩ = some (.int .i64 a0_9) := (blk_cell BK523.out 9).trans rfl; have hcz34_10 : w33.cell? ⟨gb523, 10, none⟩ = some (.int .i64 a0_10) := (blk_cell BK523.out 10).trans rfl; have hcz34_11 : w33.cell? ⟨gb523, 11, none⟩ = some (.int .i64 a0_11) := (blk_cell BK523.out 11).trans rfl; have hfz34_0 := blk_frozen BK523.out 0; have hfz34_1 := blk_frozen BK523.out 1; have hfz34_2 := blk_frozen BK523.out 2; have hfz34_3 := blk_frozen BK523.out 3; have hfz34_4 := blk_frozen BK523.out 4; have hfz34_5 := blk_frozen BK523.out 5; have hfz34_6 := blk_frozen BK523.out 6; have hfz34_7 := blk_frozen BK523.out 7; have hfz34_8 := blk_frozen BK523.out 8; have hfz34_9 := blk_frozen BK523.out 9; have hfz34_10 := blk_frozen BK523.out 10; have hfz34_11 := blk_frozen BK523.out 11))
         go_meet
         case rel => exact ⟨_, (true), (by first | rfl | (simp; done) | (simp [*]; done) | (simp [Int.tdiv_eq_ediv_of_nonneg]; done) | (simp [Go.RowKit.wrap64]; done) | (simp [*, Go.RowKit.wrap64]; done)), H', ⟨by first | omega | exact Nat.le_refl _⟩, ⟨by (with_reducible repeat (first | refine blk_drewN ?_ _ | refine blk_drew ?_ | refine blk_alloc ?_ _)); exact BK523.out⟩, ⟨by repeat (first | (with_reducible first | exact HB.out | apply below_alloc | apply pw_below_drewN | apply below_drew1 | refine below_set ?_ GE523.out) | exact HB.out)⟩⟩
        ·rw [if_neg c31] at H
         have c31b0 : decide ((wrap64 (2 * a0_4)) < a6) = false := decide_eq_false c31
         clear c31
         have H' := Aside0.mk H
         clear H
         have hcz35_0 : w12.cell? ⟨gb523, 0, none⟩ = some (.int .i64 a0_0) := (blk_cell BK523.out 0).trans rfl
         have hcz35_1 : w12.cell? ⟨gb523, 1, none⟩ = some (.int .i64 a0_1) := (blk_cell BK523.out 1).trans rfl
         have hcz35_2 : w12.cell? ⟨gb523, 2, none⟩ = some (.int .i64 a0_2) := (blk_cell BK523.out 2).trans rfl
         have hcz35_3 : w12.cell? ⟨gb523, 3, none⟩ = some (.int .i64 a0_3) := (blk_cell BK523.out 3).trans rfl
         have hcz35_4 : w12.cell? ⟨gb523, 4, none⟩ = some (.int .i64 a0_4) := (blk_cell BK523.out 4).trans rfl
         have hcz35_5 : w12.cell? ⟨gb523, 5, none⟩ = some (.int .i64 a0_5) := (blk_cell BK523.out 5).trans rfl
         have hcz35_6 : w12.cell? ⟨gb523, 6, none⟩ = some (.int .i64 a0_6) := (blk_cell BK523.out 6).trans rfl
         have hcz35_7 : w12.cell? ⟨gb523, 7, none⟩ = some (.int .i64 a0_7) := (blk_cell BK523.out 7).trans rfl
         have hcz35_8 : w12.cell? ⟨gb523, 8, none⟩ = some (.int .i64 a0_8) := (blk_cell BK523.out 8).trans rfl
         have hcz35_9 : w12.cell? ⟨gb523, 9, none⟩ = some (.int .i64 a0_9) := (blk_cell BK523.out 9).trans rfl
         have hcz35_10 : w12.cell? ⟨gb523, 10, none⟩ = some (.int .i64 a0_10) := (blk_cell BK523.out 10).trans rfl
         have hcz35_11 : w12.cell? ⟨gb523, 11, none⟩ = some (.int .i64 a0_11) := (blk_cell BK523.out 11).trans rfl
         have hfz35_0 := blk_frozen BK523.out 0
         have hfz35_1 := blk_frozen BK523.out 1
         have hfz35_2 := blk_frozen BK523.out 2
         have hfz35_3 := blk_frozen BK523.out 3
         have hfz35_4 := blk_frozen BK523.out 4
         have hfz35_5 := blk_frozen BK523.out 5
         have hfz35_6 := blk_frozen BK523.out 6
         have hfz35_7 := blk_frozen BK523.out 7
         have hfz35_8 := blk_frozen BK523.out 8
         have hfz35_9 := blk_frozen BK523.out 9
         have hfz35_10 := blk_frozen BK523.out 10
         have hfz35_11 := blk_frozen BK523.out 11
         go_wp2_with (first | ((with_reducible refine gate_callee (f := 24) rfl ?_); refine goesL_ (some 24) rfl rfl Try.func24 (by kernel_rfl) rfl #[.agg #[.int .i64 a0_0, .int .i64 a0_1, .int .i64 a0_2, .int .i64 a0_3, .int .i64 a0_4, .int .i64 a0_5, .int .i64 a0_6, .int .i64 a0_7, .int .i64 a0_8, .int .i64 a0_9, .int .i64 a0_10, .int .i64 a0_11]] rfl (by (try simp only [List.map_toArray, List.map_cons, List.map_nil]); first | done | rfl | (simp only [List.length_drop, List.length_take]; rfl)) ?_; (with_reducible refine (limit_Check.calls k a0_0 a0_1 a0_2 a0_3 a0_4 a0_5 a0_6 a0_7 a0_8 a0_9 a0_10 a0_11 t525 _ A13.out).mono ?_); rintro e w36 ⟨rfl, hb⟩; refine ⟨_, rfl, ?_⟩; have n0_ := Aside0.mk (blk_below (g := gb523) (o := .cells #[.int .i64 a0_0, .int .i64 a0_1, .int .i64 a0_2, .int .i64 a0_3, .int .i64 a0_4, .int .i64 a0_5, .int .i64 a0_6, .int .i64 a0_7, .int .i64 a0_8, .int .i64 a0_9, .int .i64 a0_10, .int .i64 a0_11] 23 (0, 0)) (by (with_reducible repeat (first | refine blk_drewN ?_ _ | refine blk_drew ?_ | refine blk_alloc ?_ _)); exact BK523.out) hb); have n1_ := Aside0.mk (below_step (by repeat (first | (with_reducible first | exact HB.out | apply below_alloc | apply pw_below_drewN | apply below_drew1 | refine below_set ?_ GE523.out) | exact HB.out)) hb); clear BK523; clear HB; have BK523 := n0_; have HB := n1_; clear n0_ n1_; (try clear hb); (try clear hb2); (try clear hk); (try clear hi); have hcz37_0 : w36.cell? ⟨gb523, 0, none⟩ = some (.int .i64 a0_0) := (blk_cell BK523.out 0).trans rfl; have hcz37_1 : w36.cell? ⟨gb523, 1, none⟩ = some (.int .i64 a0_1) := (blk_cell BK523.out 1).trans rfl; have hcz37_2 : w36.cell? ⟨gb523, 2, none⟩ = some (.int .i64 a0_2) := (blk_cell BK523.out 2).trans rfl; have hcz37_3 : w36.cell? ⟨gb523, 3, none⟩ = some (.int .i64 a0_3) := (blk_cell BK523.out 3).trans rfl; have hcz37_4 : w36.cell? ⟨gb523, 4, none⟩ = some (.int .i64 a0_4) := (blk_cell BK523.out 4).trans rfl; have hcz37_5 : w36.cell? ⟨gb523, 5, none⟩ = some (.int .i64 a0_5) := (blk_cell BK523.out 5).trans rfl; have hcz37_6 : w36.cell? ⟨gb523, 6, none⟩ = some (.int .i64 a0_6) := (blk_cell BK523.out 6).trans rfl; have hcz37_7 : w36.cell? ⟨gb523, 7, none⟩ = some (.int .i64 a0_7) := (blk_cell BK523.out 7).trans rfl; have hcz37_8 : w36.cell? ⟨gb523, 8, none⟩ = some (.int .i64 a0_8) := (blk_cell BK523.out 8).trans rfl; have hcz37_9 : w36.cell? ⟨gb523, 9, none⟩ = some (.int .i64 a0_9) := (blk_cell BK523.out 9).trans rfl; have hcz37_10 : w36.cell? ⟨gb523, 10, none⟩ = some (.int .i64 a0_10) := (blk_cell BK523.out 10).trans rfl; have hcz37_11 : w36.cell? ⟨gb523, 11, none⟩ = some (.int .i64 a0_11) := (blk_cell BK523.out 11).trans rfl; have hfz37_0 := blk_frozen BK523.out 0; have hfz37_1 := blk_frozen BK523.out 1; have hfz37_2 := blk_frozen BK523.out 2; have hfz37_3 := blk_frozen BK523.out 3; have hfz37_4 := blk_frozen BK523.out 4; have hfz37_5 := blk_frozen BK523.out 5; have hfz37_6 := blk_frozen BK523.out 6; have hfz37_7 := blk_frozen BK523.out 7; have hfz37_8 := blk_frozen BK523.out 8; have hfz37_9 := blk_frozen BK523.out 9; have hfz37_10 := blk_frozen BK523.out 10; have hfz37_11 := blk_frozen BK523.out 11))
         go_meet
         case rel => exact ⟨_, (decide (a6 < (wrap64 ((-2) * a0_4)))), (by first | rfl | (simp; done) | (simp [*]; done) | (simp [Int.tdiv_eq_ediv_of_nonneg]; done) | (simp [Go.RowKit.wrap64]; done) | (simp [*, Go.RowKit.wrap64]; done)), H', ⟨by first | omega | exact Nat.le_refl _⟩, ⟨by (with_reducible repeat (first | refine blk_drewN ?_ _ | refine blk_drew ?_ | refine blk_alloc ?_ _)); exact BK523.out⟩, ⟨by repeat (first | (with_reducible first | exact HB.out | apply below_alloc | apply pw_below_drewN | apply below_drew1 | refine below_set ?_ GE523.out) | exact HB.out)⟩⟩
   ·rw [if_neg c14] at H
    have c14b0 : (t525 == 0) = false := beq_eq_false_iff_ne.mpr c14
    have c14b1 : (t525 != 0) = true := bne_iff_ne.mpr c14
    (first | rw [c14b0] | (simp only [i64_w, i32_w]; rw [c14b0]) | skip)
    have H' := Aside0.mk H
    clear H
    have hcz38_0 : w12.cell? ⟨gb523, 0, none⟩ = some (.int .i64 a0_0) := (blk_cell BK523.out 0).trans rfl
    have hcz38_1 : w12.cell? ⟨gb523, 1, none⟩ = some (.int .i64 a0_1) := (blk_cell BK523.out 1).trans rfl
    have hcz38_2 : w12.cell? ⟨gb523, 2, none⟩ = some (.int .i64 a0_2) := (blk_cell BK523.out 2).trans rfl
    have hcz38_3 : w12.cell? ⟨gb523, 3, none⟩ = some (.int .i64 a0_3) := (blk_cell BK523.out 3).trans rfl
    have hcz38_4 : w12.cell? ⟨gb523, 4, none⟩ = some (.int .i64 a0_4) := (blk_cell BK523.out 4).trans rfl
    have hcz38_5 : w12.cell? ⟨gb523, 5, none⟩ = some (.int .i64 a0_5) := (blk_cell BK523.out 5).trans rfl
    have hcz38_6 : w12.cell? ⟨gb523, 6, none⟩ = some (.int .i64 a0_6) := (blk_cell BK523.out 6).trans rfl
    have hcz38_7 : w12.cell? ⟨gb523, 7, none⟩ = some (.int .i64 a0_7) := (blk_cell BK523.out 7).trans rfl
    have hcz38_8 : w12.cell? ⟨gb523, 8, none⟩ = some (.int .i64 a0_8) := (blk_cell BK523.out 8).trans rfl
    have hcz38_9 : w12.cell? ⟨gb523, 9, none⟩ = some (.int .i64 a0_9) := (blk_cell BK523.out 9).trans rfl
    have hcz38_10 : w12.cell? ⟨gb523, 10, none⟩ = some (.int .i64 a0_10) := (blk_cell BK523.out 10).trans rfl
    have hcz38_11 : w12.cell? ⟨gb523, 11, none⟩ = some (.int .i64 a0_11) := (blk_cell BK523.out 11).trans rfl
    have hfz38_0 := blk_frozen BK523.out 0
    have hfz38_1 := blk_frozen BK523.out 1
    have hfz38_2 := blk_frozen BK523.out 2
    have hfz38_3 := blk_frozen BK523.out 3
    have hfz38_4 := blk_frozen BK523.out 4
    have hfz38_5 := blk_frozen BK523.out 5
    have hfz38_6 := blk_frozen BK523.out 6
    have hfz38_7 := blk_frozen BK523.out 7
    have hfz38_8 := blk_frozen BK523.out 8
    have hfz38_9 := blk_frozen BK523.out 9
    have hfz38_10 := blk_frozen BK523.out 10
    have hfz38_11 := blk_frozen BK523.out 11
    go_wp2_with (first | ((with_reducible refine gate_callee (f := 24) rfl ?_); refine goesL_ (some 24) rfl rfl Try.func24 (by kernel_rfl) rfl #[.agg #[.int .i64 a0_0, .int .i64 a0_1, .int .i64 a0_2, .int .i64 a0_3, .int .i64 a0_4, .int .i64 a0_5, .int .i64 a0_6, .int .i64 a0_7, .int .i64 a0_8, .int .i64 a0_9, .int .i64 a0_10, .int .i64 a0_11]] rfl (by (try simp only [List.map_toArray, List.map_cons, List.map_nil]); first | done | rfl | (simp only [List.length_drop, List.length_take]; rfl)) ?_; (with_reducible refine (limit_Check.calls k a0_0 a0_1 a0_2 a0_3 a0_4 a0_5 a0_6 a0_7 a0_8 a0_9 a0_10 a0_11 t525 _ A13.out).mono ?_); rintro e w39 ⟨rfl, hb⟩; refine ⟨_, rfl, ?_⟩; have n0_ := Aside0.mk (blk_below (g := gb523) (o := .cells #[.int .i64 a0_0, .int .i64 a0_1, .int .i64 a0_2, .int .i64 a0_3, .int .i64 a0_4, .int .i64 a0_5, .int .i64 a0_6, .int .i64 a0_7, .int .i64 a0_8, .int .i64 a0_9, .int .i64 a0_10, .int .i64 a0_11] 23 (0, 0)) (by (with_reducible repeat (first | refine blk_drewN ?_ _ | refine blk_drew ?_ | refine blk_alloc ?_ _)); exact BK523.out) hb); have n1_ := Aside0.mk (below_step (by repeat (first | (with_reducible first | exact HB.out | apply below_alloc | apply pw_below_drewN | apply below_drew1 | refine below_set ?_ GE523.out) | exact HB.out)) hb); clear BK523; clear HB; have BK523 := n0_; have HB := n1_; clear n0_ n1_; (try clear hb); (try clear hb2); (try clear hk); (try clear hi)))
    go_meet
    case rel => exact ⟨_, (true), (by first | rfl | (simp; done) | (simp [*]; done) | (simp [Int.tdiv_eq_ediv_of_nonneg]; done) | (simp [Go.RowKit.wrap64]; done) | (simp [*, Go.RowKit.wrap64]; done)), H', ⟨by first | omega | exact Nat.le_refl _⟩, ⟨by (with_reducible repeat (first | refine blk_drewN ?_ _ | refine blk_drew ?_ | refine blk_alloc ?_ _)); exact BK523.out⟩, ⟨by repeat (first | (with_reducible first | exact HB.out | apply below_alloc | apply pw_below_drewN | apply below_drew1 | refine below_set ?_ GE523.out) | exact HB.out)⟩⟩
  case rest =>
   clear HC10
   try clear c1
   try clear c2
   try clear p2
   try clear c3
   try clear p6
   try clear c9
   try clear c12
   try clear c14
   try clear c14b0
   try clear c14b1
   try clear c15
   try clear c15b0
   try clear c19
   try clear c19b0
   try clear c23
   try clear c23b0
   try clear c24
   try clear c27
   try clear c27b0
   try clear c31
   try clear c31b0
   try clear hcz16_0
   try clear hcz16_1
   try clear hcz16_10
   try clear hcz16_11
   try clear hcz16_2
   try clear hcz16_3
   try clear hcz16_4
   try clear hcz16_5
   try clear hcz16_6
   try clear hcz16_7
   try clear hcz16_8
   try clear hcz16_9
   try clear hcz18_0
   try clear hcz18_1
   try clear hcz18_10
   try clear hcz18_11
   try clear hcz18_2
   try clear hcz18_3
   try clear hcz18_4
   try clear hcz18_5
   try clear hcz18_6
   try clear hcz18_7
   try clear hcz18_8
   try clear hcz18_9
   try clear hcz20_0
   try clear hcz20_1
   try clear hcz20_10
   try clear hcz20_11
   try clear hcz20_2
   try clear hcz20_3
   try clear hcz20_4
   try clear hcz20_5
   try clear hcz20_6
   try clear hcz20_7
   try clear hcz20_8
   try clear hcz20_9
   try clear hcz22_0
   try clear hcz22_1
   try clear hcz22_10
   try clear hcz22_11
   try clear hcz22_2
   try clear hcz22_3
   try clear hcz22_4
   try clear hcz22_5
   try clear hcz22_6
   try clear hcz22_7
   try clear hcz22_8
   try clear hcz22_9
   try clear hcz24_0
   try clear hcz24_1
   try clear hcz24_10
   try clear hcz24_11
   try clear hcz24_2
   try clear hcz24_3
   try clear hcz24_4
   try clear hcz24_5
   try clear hcz24_6
   try clear hcz24_7
   try clear hcz24_8
   try clear hcz24_9
   try clear hcz26_0
   try clear hcz26_1
   try clear hcz26_10
   try clear hcz26_11
   try clear hcz26_2
   try clear hcz26_3
   try clear hcz26_4
   try clear hcz26_5
   try clear hcz26_6
   try clear hcz26_7
   try clear hcz26_8
   try clear hcz26_9
   try clear hcz28_0
   try clear hcz28_1
   try clear hcz28_10
   try clear hcz28_11
   try clear hcz28_2
   try clear hcz28_3
   try clear hcz28_4
   try clear hcz28_5
   try clear hcz28_6
   try clear hcz28_7
   try clear hcz28_8
   try clear hcz28_9
   try clear hcz30_0
   try clear hcz30_1
   try clear hcz30_10
   try clear hcz30_11
   try clear hcz30_2
   try clear hcz30_3
   try clear hcz30_4
   try clear hcz30_5
   try clear hcz30_6
   try clear hcz30_7
   try clear hcz30_8
   try clear hcz30_9
   try clear hcz32_0
   try clear hcz32_1
   try clear hcz32_10
   try clear hcz32_11
   try clear hcz32_2
   try clear hcz32_3
   try clear hcz32_4
   try clear hcz32_5
   try clear hcz32_6
   try clear hcz32_7
   try clear hcz32_8
   try clear hcz32_9
   try clear hcz34_0
   try clear hcz34_1
   try clear hcz34_10
   try clear hcz34_11
   try clear hcz34_2
   try clear hcz34_3
   try clear hcz34_4
   try clear hcz34_5
   try clear hcz34_6
   try clear hcz34_7
   try clear hcz34_8
   try clear hcz34_9
   try clear hcz35_0
   try clear hcz35_1
   try clear hcz35_10
   try clear hcz35_11
   try clear hcz35_2
   try clear hcz35_3
   try clear hcz35_4
   try clear hcz35_5
   try clear hcz35_6
   try clear hcz35_7
   try clear hcz35_8
   try clear hcz35_9
   try clear hcz37_0
   try clear hcz37_1
   try clear hcz37_10
   try clear hcz37_11
   try clear hcz37_2
   try clear hcz37_3
   try clear hcz37_4
   try clear hcz37_5
   try clear hcz37_6
   try clear hcz37_7
   try clear hcz37_8
   try clear hcz37_9
   try clear hcz38_0
   try clear hcz38_1
   try clear hcz38_10
   try clear hcz38_11
   try clear hcz38_2
   try clear hcz38_3
   try clear hcz38_4
   try clear hcz38_5
   try clear hcz38_6
   try clear hcz38_7
   try clear hcz38_8
   try clear hcz38_9
   try clear hfz16_0
   try clear hfz16_1
   try clear hfz16_10
   try clear hfz16_11
   try clear hfz16_2
   try clear hfz16_3
   try clear hfz16_4
   try clear hfz16_5
   try clear hfz16_6
   try clear hfz16_7
   try clear hfz16_8
   try clear hfz16_9
   try clear hfz18_0
   try clear hfz18_1
   try clear hfz18_10
   try clear hfz18_11
   try clear hfz18_2
   try clear hfz18_3
   try clear hfz18_4
   try clear hfz18_5
   try clear hfz18_6
   try clear hfz18_7
   try clear hfz18_8
   try clear hfz18_9
   try clear hfz20_0
   try clear hfz20_1
   try clear hfz20_10
   try clear hfz20_11
   try clear hfz20_2
   try clear hfz20_3
   try clear hfz20_4
   try clear hfz20_5
   try clear hfz20_6
   try clear hfz20_7
   try clear hfz20_8
   try clear hfz20_9
   try clear hfz22_0
   try clear hfz22_1
   try clear hfz22_10
   try clear hfz22_11
   try clear hfz22_2
   try clear hfz22_3
   try clear hfz22_4
   try clear hfz22_5
   try clear hfz22_6
   try clear hfz22_7
   try clear hfz22_8
   try clear hfz22_9
   try clear hfz24_0
   try clear hfz24_1
   try clear hfz24_10
   try clear hfz24_11
   try clear hfz24_2
   try clear hfz24_3
   try clear hfz24_4
   try clear hfz24_5
   try clear hfz24_6
   try clear hfz24_7
   try clear hfz24_8
   try clear hfz24_9
   try clear hfz26_0
   try clear hfz26_1
   try clear hfz26_10
   try clear hfz26_11
   try clear hfz26_2
   try clear hfz26_3
   try clear hfz26_4
   try clear hfz26_5
   try clear hfz26_6
   try clear hfz26_7
   try clear hfz26_8
   try clear hfz26_9
   try clear hfz28_0
   try clear hfz28_1
   try clear hfz28_10
   try clear hfz28_11
   try clear hfz28_2
   try clear hfz28_3
   try clear hfz28_4
   try clear hfz28_5
   try clear hfz28_6
   try clear hfz28_7
   try clear hfz28_8
   try clear hfz28_9
   try clear hfz30_0
   try clear hfz30_1
   try clear hfz30_10
   try clear hfz30_11
   try clear hfz30_2
   try clear hfz30_3
   try clear hfz30_4
   try clear hfz30_5
   try clear hfz30_6
   try clear hfz30_7
   try clear hfz30_8
   try clear hfz30_9
   try clear hfz32_0
   try clear hfz32_1
   try clear hfz32_10
   try clear hfz32_11
   try clear hfz32_2
   try clear hfz32_3
   try clear hfz32_4
   try clear hfz32_5
   try clear hfz32_6
   try clear hfz32_7
   try clear hfz32_8
   try clear hfz32_9
   try clear hfz34_0
   try clear hfz34_1
   try clear hfz34_10
   try clear hfz34_11
   try clear hfz34_2
   try clear hfz34_3
   try clear hfz34_4
   try clear hfz34_5
   try clear hfz34_6
   try clear hfz34_7
   try clear hfz34_8
   try clear hfz34_9
   try clear hfz35_0
   try clear hfz35_1
   try clear hfz35_10
   try clear hfz35_11
   try clear hfz35_2
   try clear hfz35_3
   try clear hfz35_4
   try clear hfz35_5
   try clear hfz35_6
   try clear hfz35_7
   try clear hfz35_8
   try clear hfz35_9
   try clear hfz37_0
   try clear hfz37_1
   try clear hfz37_10
   try clear hfz37_11
   try clear hfz37_2
   try clear hfz37_3
   try clear hfz37_4
   try clear hfz37_5
   try clear hfz37_6
   try clear hfz37_7
   try clear hfz37_8
   try clear hfz37_9
   try clear hfz38_0
   try clear hfz38_1
   try clear hfz38_10
   try clear hfz38_11
   try clear hfz38_2
   try clear hfz38_3
   try clear hfz38_4
   try clear hfz38_5
   try clear hfz38_6
   try clear hfz38_7
   try clear hfz38_8
   try clear hfz38_9
   obtain ⟨kq, x69_9, rfl, HA, HJ9, BK523, HB⟩ := hcut
   cases kq with
   | zero => exact absurd HA.out (by simp [clepsydralaw10_ProbeHolds.j0])
   | succ kj9 =>
    have H := HA.out
    clear HA
    simp only [clepsydralaw10_ProbeHolds.j0] at H
    by_cases c40 : x69_9 = true
    ·subst c40
     have H1 : (some true) = some r := by rw [if_pos rfl] at H; exact H
     clear H
     have H := H1
     clear H1
     obtain rfl := Option.some.inj H
     go_wp2
     go_ret
     exact ⟨by first | rfl | (simp [errW_none, errW_some] <;> rfl) | (simp [*, errW_none, errW_some] <;> rfl), by repeat (first | (with_reducible first | exact HB.out | apply below_alloc | apply pw_below_drewN | apply below_drew1 | refine below_set ?_ GE523.out) | exact HB.out)⟩
    ·replace c40 := Bool.eq_false_iff.mpr c40
     subst c40
     have H1 : (if a1 > 1125899906842624 then (some true) else (if a1 < (-1125899906842624) then (some true) else (if a2 > 1125899906842624 then (some true) else (if a2 < (-1125899906842624) then (some true) else (if a4 > 1125899906842624 then (some true) else (if a4 < (-1125899906842624) then (some true) else ((probe_Ahead.f kj9 a0_0 a0_1 a0_2 a0_3 a0_4 a0_5 a0_6 a0_7 a0_8 a0_9 a0_10 a0_11 a1 (wrap64 ((wrap64 (a1 + a3)) + a2)) (wrap64 ((wrap64 ((wrap64 ((wrap64 (a1 + a3)) + a4)) + a2)) + a6)) (wrap64 ((wrap64 ((wrap64 (a1 + a3)) + a4)) + a5))).bind fun bt527 => (if bt527.1 ≤ a2 then (if a2 ≤ bt527.2 then (if (wrap64 (bt527.2 - bt527.1)) ≤ (wrap64 (a0_6 + (wrap64 (4 * a0_4)))) then ((probe_Right.f kj9 a0_0 a0_1 a0_2 a0_3 a0_4 a0_5 a0_6 a0_7 a0_8 a0_9 a0_10 a0_11 a1 (wrap64 ((wrap64 (a1 + a3)) + a2)) (wrap64 ((wrap64 ((wrap64 ((wrap64 (a1 + a3)) + a4)) + a2)) + a6)) (wrap64 ((wrap64 ((wrap64 (a1 + a3)) + a4)) + a5))).bind fun t530 => (some t530)) else (some false)) else (some false)) else (some false))))))))) = some r := by rw [if_neg (show ¬ (false = true) by decide)] at H; exact H
     clear H
     have H := H1
     clear H1
     by_cases c41 : a1 > 1125899906842624
     ·rw [if_pos c41] at H
      have c41b0 : decide (1125899906842624 < a1) = true := decide_eq_true c41
      clear c41
      obtain rfl := Option.some.inj H
      go_wp2
      refine wp_loop_rounds 4 ?_; rw [rounds_succ]
      go_wp2
      go_ret
      exact ⟨by first | rfl | (simp [errW_none, errW_some] <;> rfl) | (simp [*, errW_none, errW_some] <;> rfl), by repeat (first | (with_reducible first | exact HB.out | apply below_alloc | apply pw_below_drewN | apply below_drew1 | refine below_set ?_ GE523.out) | exact HB.out)⟩
     ·rw [if_neg c41] at H
      have c41b0 : decide (1125899906842624 < a1) = false := decide_eq_false c41
      clear c41
      by_cases c42 : a1 < (-1125899906842624)
      ·rw [if_pos c42] at H
       have c42b0 : decide (a1 < (-1125899906842624)) = true := decide_eq_true c42
       clear c42
       obtain rfl := Option.some.inj H
       go_wp2
       refine wp_loop_rounds 4 ?_; rw [rounds_succ]
       go_wp2
       go_ret
       exact ⟨by first | rfl | (simp [errW_none, errW_some] <;> rfl) | (simp [*, errW_none, errW_some] <;> rfl), by repeat (first | (with_reducible first | exact HB.out | apply below_alloc | apply pw_below_drewN | apply below_drew1 | refine below_set ?_ GE523.out) | exact HB.out)⟩
      ·rw [if_neg c42] at H
       have c42b0 : decide (a1 < (-1125899906842624)) = false := decide_eq_false c42
       clear c42
       by_cases c43 : a2 > 1125899906842624
       ·rw [if_pos c43] at H
        have c43b0 : decide (1125899906842624 < a2) = true := decide_eq_true c43
        clear c43
        obtain rfl := Option.some.inj H
        go_wp2
        refine wp_loop_rounds 4 ?_; rw [rounds_succ]
        go_wp2
        rw [rounds_succ]
        go_wp2
        go_ret
        exact ⟨by first | rfl | (simp [errW_none, errW_some] <;> rfl) | (simp [*, errW_none, errW_some] <;> rfl), by repeat (first | (with_reducible first | exact HB.out | apply below_alloc | apply pw_below_drewN | apply below_drew1 | refine below_set ?_ GE523.out) | exact HB.out)⟩
       ·rw [if_neg c43] at H
        have c43b0 : decide (1125899906842624 < a2) = false := decide_eq_false c43
        clear c43
        by_cases c44 : a2 < (-1125899906842624)
        ·rw [if_pos c44] at H
         have c44b0 : decide (a2 < (-1125899906842624)) = true := decide_eq_true c44
         clear c44
         obtain rfl := Option.some.inj H
         go_wp2
         refine wp_loop_rounds 4 ?_; rw [rounds_succ]
         go_wp2
         rw [rounds_succ]
         go_wp2
         go_ret
         exact ⟨by first | rfl | (simp [errW_none, errW_some] <;> rfl) | (simp [*, errW_none, errW_some] <;> rfl), by repeat (first | (with_reducible first | exact HB.out | apply below_alloc | apply pw_below_drewN | apply below_drew1 | refine below_set ?_ GE523.out) | exact HB.out)⟩
        ·rw [if_neg c44] at H
         have c44b0 : decide (a2 < (-1125899906842624)) = false := decide_eq_false c44
         clear c44
         by_cases c45 : a4 > 1125899906842624
         ·rw [if_pos c45] at H
          have c45b0 : decide (1125899906842624 < a4) = true := decide_eq_true c45
          clear c45
          obtain rfl := Option.some.inj H
          go_wp2
          refine wp_loop_rounds 4 ?_; rw [rounds_succ]
          go_wp2
          rw [rounds_succ]
          go_wp2
          rw [rounds_succ]
          go_wp2
          go_ret
          exact ⟨by first | rfl | (simp [errW_none, errW_some] <;> rfl) | (simp [*, errW_none, errW_some] <;> rfl), by repeat (first | (with_reducible first | exact HB.out | apply below_alloc | apply pw_below_drewN | apply below_drew1 | refine below_set ?_ GE523.out) | exact HB.out)⟩
         ·rw [if_neg c45] at H
          have c45b0 : decide (1125899906842624 < a4) = false := decide_eq_false c45
          clear c45
          by_cases c46 : a4 < (-1125899906842624)
          ·rw [if_pos c46] at H
           have c46b0 : decide (a4 < (-1125899906842624)) = true := decide_eq_true c46
           clear c46
           obtain rfl := Option.some.inj H
           go_wp2
           refine wp_loop_rounds 4 ?_; rw [rounds_succ]
           go_wp2
           rw [rounds_succ]
           go_wp2
           rw [rounds_succ]
           go_wp2
           go_ret
           exact ⟨by first | rfl | (simp [errW_none, errW_some] <;> rfl) | (simp [*, errW_none, errW_some] <;> rfl), by repeat (first | (with_reducible first | exact HB.out | apply below_alloc | apply pw_below_drewN | apply below_drew1 | refine below_set ?_ GE523.out) | exact HB.out)⟩
          ·rw [if_neg c46] at H
           have c46b0 : decide (a4 < (-1125899906842624)) = false := decide_eq_false c46
           clear c46
           replace H := Option.bind_eq_some_iff.mp H
           obtain ⟨⟨t527, t528⟩, A470, H⟩ := H
           replace H : (if t527 ≤ a2 then (if a2 ≤ t528 then (if (wrap64 (t528 - t527)) ≤ (wrap64 (a0_6 + (wrap64 (4 * a0_4)))) then ((probe_Right.f kj9 a0_0 a0_1 a0_2 a0_3 a0_4 a0_5 a0_6 a0_7 a0_8 a0_9 a0_10 a0_11 a1 (wrap64 ((wrap64 (a1 + a3)) + a2)) (wrap64 ((wrap64 ((wrap64 ((wrap64 (a1 + a3)) + a4)) + a2)) + a6)) (wrap64 ((wrap64 ((wrap64 (a1 + a3)) + a4)) + a5))).bind fun t530 => (some t530)) else (some false)) else (some false)) else (some false)) = some r := H
           have A47 := Aside0.mk A470
           clear A470
           by_cases c48 : t527 ≤ a2
           ·rw [if_pos c48] at H
            have c48b0 : decide (t527 ≤ a2) = true := decide_eq_true c48
            clear c48
            by_cases c49 : a2 ≤ t528
            ·rw [if_pos c49] at H
             have c49b0 : decide (a2 ≤ t528) = true := decide_eq_true c49
             clear c49
             by_cases c50 : (wrap64 (t528 - t527)) ≤ (wrap64 (a0_6 + (wrap64 (4 * a0_4))))
             ·rw [if_pos c50] at H
              have c50b0 : decide ((wrap64 (t528 - t527)) ≤ (wrap64 (a0_6 + (wrap64 (4 * a0_4))))) = true := decide_eq_true c50
              clear c50
              replace H := Option.bind_eq_some_iff.mp H
              obtain ⟨t530, A510, H⟩ := H
              replace H : (some t530) = some r := H
              have A51 := Aside0.mk A510
              clear A510
              obtain rfl := Option.some.inj H
              go_wp2
              refine wp_loop_rounds 4 ?_; rw [rounds_succ]
              go_wp2
              rw [rounds_succ]
              go_wp2
              rw [rounds_succ]
              go_wp2
              rw [rounds_succ]
              go_wp2_with (first | ((with_reducible refine gate_dst (N := 19) rfl ?_); refine box_event ?hg (N := 19) ?hd (cs := #[.int .i64 0, .int .i64 0, .int .i64 0, .int .i64 0]) (t := 57) ?hr ?_; (case hd => rfl); (case hg => rfl); (case hr => first | (go_simp; done) | (go_simp; rfl)); intro gb526 hg w52 hbox hb; have n0_ := Aside0.mk (blk_below (g := gb523) (o := .cells #[.int .i64 a0_0, .int .i64 a0_1, .int .i64 a0_2, .int .i64 a0_3, .int .i64 a0_4, .int .i64 a0_5, .int .i64 a0_6, .int .i64 a0_7, .int .i64 a0_8, .int .i64 a0_9, .int .i64 a0_10, .int .i64 a0_11] 23 (0, 0)) (by (with_reducible repeat (first | refine blk_drewN ?_ _ | refine blk_drew ?_ | refine blk_alloc ?_ _)); exact BK523.out) hb); have n1_ := Aside0.mk (below_step (by repeat (first | (with_reducible first | exact HB.out | apply below_alloc | apply pw_below_drewN | apply below_drew1 | refine below_set ?_ GE523.out) | exact HB.out)) hb); have n2_ := Aside0.mk (hbox); have n3_ := Aside0.mk ((by rw [hg]; exact (below_size (by repeat (first | (with_reducible first | exact HB.out | apply below_alloc | apply pw_below_drewN | apply below_drew1 | refine below_set ?_ GE523.out) | exact HB.out))) : w.heap.size ≤ gb526)); have n4_ := Aside0.mk ((by rw [hg]; exact (below_size (by repeat (first | (with_reducible first | exact HB.out | apply below_alloc | apply pw_below_drewN | apply below_drew1 | refine below_set ?_ GE523.out) | exact HB.out))) : w.heap.size ≤ gb526)); have n5_ := Aside0.mk ((by rw [hg]; exact Nat.ne_of_lt (blk_lt (g := gb523) (o := .cells #[.int .i64 a0_0, .int .i64 a0_1, .int .i64 a0_2, .int .i64 a0_3, .int .i64 a0_4, .int .i64 a0_5, .int .i64 a0_6, .int .i64 a0_7, .int .i64 a0_8, .int .i64 a0_9, .int .i64 a0_10, .int .i64 a0_11] 23 (0, 0)) (by (with_reducible repeat (first | refine blk_drewN ?_ _ | refine blk_drew ?_ | refine blk_alloc ?_ _)); exact BK523.out)) : gb523 ≠ gb526)); have n6_ := Aside0.mk ((by rw [hg]; exact Nat.ne_of_gt (blk_lt (g := gb523) (o := .cells #[.int .i64 a0_0, .int .i64 a0_1, .int .i64 a0_2, .int .i64 a0_3, .int .i64 a0_4, .int .i64 a0_5, .int .i64 a0_6, .int .i64 a0_7, .int .i64 a0_8, .int .i64 a0_9, .int .i64 a0_10, .int .i64 a0_11] 23 (0, 0)) (by (with_reducible repeat (first | refine blk_drewN ?_ _ | refine blk_drew ?_ | refine blk_alloc ?_ _)); exact BK523.out)) : gb526 ≠ gb523)); clear BK523; clear HB; have BK523 := n0_; have HB := n1_; have BK526 := n2_; have GW526 := n3_; have GE526 := n4_; have NB523_526 := n5_; have NB526_523 := n6_; clear n0_ n1_ n2_ n3_ n4_ n5_ n6_; clear hb hbox hg; have hnb53 := NB526_523.out; have hnc53 := NB523_526.out; have hcz54_0 : w52.cell? ⟨gb526, 0, none⟩ = some (.int .i64 0) := (blk_cell BK526.out 0).trans rfl; have hcz54_1 : w52.cell? ⟨gb526, 1, none⟩ = some (.int .i64 0) := (blk_cell BK526.out 1).trans rfl; have hcz54_2 : w52.cell? ⟨gb526, 2, none⟩ = some (.int .i64 0) := (blk_cell BK526.out 2).trans rfl; have hcz54_3 : w52.cell? ⟨gb526, 3, none⟩ = some (.int .i64 0) := (blk_cell BK526.out 3).trans rfl; have hfz54_0 := blk_frozen BK526.out 0; have hfz54_1 := blk_frozen BK526.out 1; have hfz54_2 := blk_frozen BK526.out 2; have hfz54_3 := blk_frozen BK526.out 3; have hcz55_0 : w52.cell? ⟨gb523, 0, none⟩ = some (.int .i64 a0_0) := (blk_cell BK523.out 0).trans rfl; have hcz55_1 : w52.cell? ⟨gb523, 1, none⟩ = some (.int .i64 a0_1) := (blk_cell BK523.out 1).trans rfl; have hcz55_2 : w52.cell? ⟨gb523, 2, none⟩ = some (.int .i64 a0_2) := (blk_cell BK523.out 2).trans rfl; have hcz55_3 : w52.cell? ⟨gb523, 3, none⟩ = some (.int .i64 a0_3) := (blk_cell BK523.out 3).trans rfl; have hcz55_4 : w52.cell? ⟨gb523, 4, none⟩ = some (.int .i64 a0_4) := (blk_cell BK523.out 4).trans rfl; have hcz55_5 : w52.cell? ⟨gb523, 5, none⟩ = some (.int .i64 a0_5) := (blk_cell BK523.out 5).trans rfl; have hcz55_6 : w52.cell? ⟨gb523, 6, none⟩ = some (.int .i64 a0_6) := (blk_cell BK523.out 6).trans rfl; have hcz55_7 : w52.cell? ⟨gb523, 7, none⟩ = some (.int .i64 a0_7) := (blk_cell BK523.out 7).trans rfl; have hcz55_8 : w52.cell? ⟨gb523, 8, none⟩ = some (.int .i64 a0_8) := (blk_cell BK523.out 8).trans rfl; have hcz55_9 : w52.cell? ⟨gb523, 9, none⟩ = some (.int .i64 a0_9) := (blk_cell BK523.out 9).trans rfl; have hcz55_10 : w52.cell? ⟨gb523, 10, none⟩ = some (.int .i64 a0_10) := (blk_cell BK523.out 10).trans rfl; have hcz55_11 : w52.cell? ⟨gb523, 11, none⟩ = some (.int .i64 a0_11) := (blk_cell BK523.out 11).trans rfl; have hfz55_0 := blk_frozen BK523.out 0; have hfz55_1 := blk_frozen BK523.out 1; have hfz55_2 := blk_frozen BK523.out 2; have hfz55_3 := blk_frozen BK523.out 3; have hfz55_4 := blk_frozen BK523.out 4; have hfz55_5 := blk_frozen BK523.out 5; have hfz55_6 := blk_frozen BK523.out 6; have hfz55_7 := blk_frozen BK523.out 7; have hfz55_8 := blk_frozen BK523.out 8; have hfz55_9 := blk_frozen BK523.out 9; have hfz55_10 := blk_frozen BK523.out 10; have hfz55_11 := blk_frozen BK523.out 11) | ((with_reducible refine gate_callee (f := 33) rfl ?_); refine goesL_ (some 111) rfl rfl Try.func33 (by kernel_rfl) rfl #[.agg #[.int .i64 a0_0, .int .i64 a0_1, .int .i64 a0_2, .int .i64 a0_3, .int .i64 a0_4, .int .i64 a0_5, .int .i64 a0_6, .int .i64 a0_7, .int .i64 a0_8, .int .i64 a0_9, .int .i64 a0_10, .int .i64 a0_11], .agg #[.int .i64 a1, .int .i64 (wrap64 ((wrap64 (a1 + a3)) + a2)), .int .i64 (wrap64 ((wrap64 ((wrap64 ((wrap64 (a1 + a3)) + a4)) + a2)) + a6)), .int .i64 (wrap64 ((wrap64 ((wrap64 (a1 + a3)) + a4)) + a5))]] rfl (by (try simp only [List.map_toArray, List.map_cons, List.map_nil]); first | done | rfl | (simp only [List.length_drop, List.length_take]; rfl)) ?_; (with_reducible refine (probe_Ahead.calls kj9 a0_0 a0_1 a0_2 a0_3 a0_4 a0_5 a0_6 a0_7 a0_8 a0_9 a0_10 a0_11 a1 (wrap64 ((wrap64 (a1 + a3)) + a2)) (wrap64 ((wrap64 ((wrap64 ((wrap64 (a1 + a3)) + a4)) + a2)) + a6)) (wrap64 ((wrap64 ((wrap64 (a1 + a3)) + a4)) + a5)) t527 t528 _ A47.out).mono ?_); rintro e w56 ⟨rfl, hb⟩; refine ⟨_, rfl, ?_⟩; have n0_ := Aside0.mk (blk_below (g := gb523) (o := .cells #[.int .i64 a0_0, .int .i64 a0_1, .int .i64 a0_2, .int .i64 a0_3, .int .i64 a0_4, .int .i64 a0_5, .int .i64 a0_6, .int .i64 a0_7, .int .i64 a0_8, .int .i64 a0_9, .int .i64 a0_10, .int .i64 a0_11] 23 (0, 0)) (by (with_reducible repeat (first | refine blk_drewN ?_ _ | refine blk_drew ?_ | refine blk_alloc ?_ _)); refine blk_far ?_ NB523_526.out _; (with_reducible repeat (first | refine blk_drewN ?_ _ | refine blk_drew ?_ | refine blk_alloc ?_ _)); refine blk_far ?_ NB523_526.out _; (with_reducible repeat (first | refine blk_drewN ?_ _ | refine blk_drew ?_ | refine blk_alloc ?_ _)); refine blk_far ?_ NB523_526.out _; (with_reducible repeat (first | refine blk_drewN ?_ _ | refine blk_drew ?_ | refine blk_alloc ?_ _)); refine blk_far ?_ NB523_526.out _; (with_reducible repeat (first | refine blk_drewN ?_ _ | refine blk_drew ?_ | refine blk_alloc ?_ _)); exact BK523.out) hb); have n1_ := Aside0.mk (blk_below (g := gb526) (o := .cells #[.int .i64 a1, .int .i64 (wrap64 ((wrap64 (a1 + a3)) + a2)), .int .i64 (wrap64 ((wrap64 ((wrap64 ((wrap64 (a1 + a3)) + a4)) + a2)) + a6)), .int .i64 (wrap64 ((wrap64 ((wrap64 (a1 + a3)) + a4)) + a5))] 57 (0, 0)) (by (with_reducible repeat (first | refine blk_drewN ?_ _ | refine blk_drew ?_ | refine blk_alloc ?_ _)); refine blk_put (cs := #[.int .i64 a1, .int .i64 (wrap64 ((wrap64 (a1 + a3)) + a2)), .int .i64 (wrap64 ((wrap64 ((wrap64 ((wrap64 (a1 + a3)) + a4)) + a2)) + a6)), .int .i64 0]) ?_ 3 _ rfl; (with_reducible repeat (first | refine blk_drewN ?_ _ | refine blk_drew ?_ | refine blk_alloc ?_ _)); refine blk_put (cs := #[.int .i64 a1, .int .i64 (wrap64 ((wrap64 (a1 + a3)) + a2)), .int .i64 0, .int .i64 0]) ?_ 2 _ rfl; (with_reducible repeat (first | refine blk_drewN ?_ _ | refine blk_drew ?_ | refine blk_alloc ?_ _)); refine blk_put (cs := #[.int .i64 a1, .int .i64 0, .int .i64 0, .int .i64 0]) ?_ 1 _ rfl; (with_reducible repeat (first | refine blk_drewN ?_ _ | refine blk_drew ?_ | refine blk_alloc ?_ _)); refine blk_put (cs := #[.int .i64 0, .int .i64 0, .int .i64 0, .int .i64 0]) ?_ 0 _ rfl; (with_reducible repeat (first | refine blk_drewN ?_ _ | refine blk_drew ?_ | refine blk_alloc ?_ _)); exact BK526.out) hb); have n2_ := Aside0.mk (below_step (by repeat (first | (with_reducible first | exact HB.out | apply below_alloc | apply pw_below_drewN | apply below_drew1 | refine below_set ?_ GE523.out | refine below_set ?_ GE526.out) | exact HB.out)) hb); clear BK523; clear BK526; clear HB; have BK523 := n0_; have BK526 := n1_; have HB := n2_; clear n0_ n1_ n2_; (try clear hb); (try clear hb2); (try clear hk); (try clear hi)) | ((with_reducible refine gate_dst (N := 20) rfl ?_); refine box_event ?hg (N := 20) ?hd (cs := #[.int .i64 0, .int .i64 0]) (t := 25) ?hr ?_; (case hd => rfl); (case hg => rfl); (case hr => first | (go_simp; done) | (go_simp; rfl)); intro gb529 hg w57 hbox hb; have n0_ := Aside0.mk (blk_below (g := gb523) (o := .cells #[.int .i64 a0_0, .int .i64 a0_1, .int .i64 a0_2, .int .i64 a0_3, .int .i64 a0_4, .int .i64 a0_5, .int .i64 a0_6, .int .i64 a0_7, .int .i64 a0_8, .int .i64 a0_9, .int .i64 a0_10, .int .i64 a0_11] 23 (0, 0)) (by (with_reducible repeat (first | refine blk_drewN ?_ _ | refine blk_drew ?_ | refine blk_alloc ?_ _)); exact BK523.out) hb); have n1_ := Aside0.mk (blk_below (g := gb526) (o := .cells #[.int .i64 a1, .int .i64 (wrap64 ((wrap64 (a1 + a3)) + a2)), .int .i64 (wrap64 ((wrap64 ((wrap64 ((wrap64 (a1 + a3)) + a4)) + a2)) + a6)), .int .i64 (wrap64 ((wrap64 ((wrap64 (a1 + a3)) + a4)) + a5))] 57 (0, 0)) (by (with_reducible repeat (first | refine blk_drewN ?_ _ | refine blk_drew ?_ | refine blk_alloc ?_ _)); exact BK526.out) hb); have n2_ := Aside0.mk (below_step (by repeat (first | (with_reducible first | exact HB.out | apply below_alloc | apply pw_below_drewN | apply below_drew1 | refine below_set ?_ GE523.out | refine below_set ?_ GE526.out) | exact HB.out)) hb); have n3_ := Aside0.mk (hbox); have n4_ := Aside0.mk ((by rw [hg]; exact (below_size (by repeat (first | (with_reducible first | exact HB.out | apply below_alloc | apply pw_below_drewN | apply below_drew1 | refine below_set ?_ GE523.out | refine below_set ?_ GE526.out) | exact HB.out))) : w.heap.size ≤ gb529)); have n5_ := Aside0.mk ((by rw [hg]; exact (below_size (by repeat (first | (with_reducible first | exact HB.out | apply below_alloc | apply pw_below_drewN | apply below_drew1 | refine below_set ?_ GE523.out | refine below_set ?_ GE526.out) | exact HB.out))) : w.heap.size ≤ gb529)); have n6_ := Aside0.mk ((by rw [hg]; exact Nat.ne_of_lt (blk_lt (g := gb523) (o := .cells #[.int .i64 a0_0, .int .i64 a0_1, .int .i64 a0_2, .int .i64 a0_3, .int .i64 a0_4, .int .i64 a0_5, .int .i64 a0_6, .int .i64 a0_7, .int .i64 a0_8, .int .i64 a0_9, .int .i64 a0_10, .int .i64 a0_11] 23 (0, 0)) (by (with_reducible repeat (first | refine blk_drewN ?_ _ | refine blk_drew ?_ | refine blk_alloc ?_ _)); exact BK523.out)) : gb523 ≠ gb529)); have n7_ := Aside0.mk ((by rw [hg]; exact Nat.ne_of_gt (blk_lt (g := gb523) (o := .cells #[.int .i64 a0_0, .int .i64 a0_1, .int .i64 a0_2, .int .i64 a0_3, .int .i64 a0_4, .int .i64 a0_5, .int .i64 a0_6, .int .i64 a0_7, .int .i64 a0_8, .int .i64 a0_9, .int .i64 a0_10, .int .i64 a0_11] 23 (0, 0)) (by (with_reducible repeat (first | refine blk_drewN ?_ _ | refine blk_drew ?_ | refine blk_alloc ?_ _)); exact BK523.out)) : gb529 ≠ gb523)); have n8_ := Aside0.mk ((by rw [hg]; exact Nat.ne_of_lt (blk_lt (g := gb526) (o := .cells #[.int .i64 a1, .int .i64 (wrap64 ((wrap64 (a1 + a3)) + a2)), .int .i64 (wrap64 ((wrap64 ((wrap64 ((wrap64 (a1 + a3)) + a4)) + a2)) + a6)), .int .i64 (wrap64 ((wrap64 ((wrap64 (a1 + a3)) + a4)) + a5))] 57 (0, 0)) (by (with_reducible repeat (first | refine blk_drewN ?_ _ | refine blk_drew ?_ | refine blk_alloc ?_ _)); exact BK526.out)) : gb526 ≠ gb529)); have n9_ := Aside0.mk ((by rw [hg]; exact Nat.ne_of_gt (blk_lt (g := gb526) (o := .cells #[.int .i64 a1, .int .i64 (wrap64 ((wrap64 (a1 + a3)) + a2)), .int .i64 (wrap64 ((wrap64 ((wrap64 ((wrap64 (a1 + a3)) + a4)) + a2)) + a6)), .int .i64 (wrap64 ((wrap64 ((wrap64 (a1 + a3)) + a4)) + a5))] 57 (0, 0)) (by (with_reducible repeat (first | refine blk_drewN ?_ _ | refine blk_drew ?_ | refine blk_alloc ?_ _)); exact BK526.out)) : gb529 ≠ gb526)); clear BK523; clear BK526; clear HB; have BK523 := n0_; have BK526 := n1_; have HB := n2_; have BK529 := n3_; have GW529 := n4_; have GE529 := n5_; have NB523_529 := n6_; have NB529_523 := n7_; have NB526_529 := n8_; have NB529_526 := n9_; clear n0_ n1_ n2_ n3_ n4_ n5_ n6_ n7_ n8_ n9_; clear hb hbox hg; have hnb58 := NB529_523.out; have hnc58 := NB523_529.out; have hnb59 := NB529_526.out; have hnc59 := NB526_529.out; have hcz60_0 : w57.cell? ⟨gb529, 0, none⟩ = some (.int .i64 0) := (blk_cell BK529.out 0).trans rfl; have hcz60_1 : w57.cell? ⟨gb529, 1, none⟩ = some (.int .i64 0) := (blk_cell BK529.out 1).trans rfl; have hfz60_0 := blk_frozen BK529.out 0; have hfz60_1 := blk_frozen BK529.out 1; have hcz61_0 : w57.cell? ⟨gb523, 0, none⟩ = some (.int .i64 a0_0) := (blk_cell BK523.out 0).trans rfl; have hcz61_1 : w57.cell? ⟨gb523, 1, none⟩ = some (.int .i64 a0_1) := (blk_cell BK523.out 1).trans rfl; have hcz61_2 : w57.cell? ⟨gb523, 2, none⟩ = some (.int .i64 a0_2) := (blk_cell BK523.out 2).trans rfl; have hcz61_3 : w57.cell? ⟨gb523, 3, none⟩ = some (.int .i64 a0_3) := (blk_cell BK523.out 3).trans rfl; have hcz61_4 : w57.cell? ⟨gb523, 4, none⟩ = some (.int .i64 a0_4) := (blk_cell BK523.out 4).trans rfl; have hcz61_5 : w57.cell? ⟨gb523, 5, none⟩ = some (.int .i64 a0_5) := (blk_cell BK523.out 5).trans rfl; have hcz61_6 : w57.cell? ⟨gb523, 6, none⟩ = some (.int .i64 a0_6) := (blk_cell BK523.out 6).trans rfl; have hcz61_7 : w57.cell? ⟨gb523, 7, none⟩ = some (.int .i64 a0_7) := (blk_cell BK523.out 7).trans rfl; have hcz61_8 : w57.cell? ⟨gb523, 8, none⟩ = some (.int .i64 a0_8) := (blk_cell BK523.out 8).trans rfl; have hcz61_9 : w57.cell? ⟨gb523, 9, none⟩ = some (.int .i64 a0_9) := (blk_cell BK523.out 9).trans rfl; have hcz61_10 : w57.cell? ⟨gb523, 10, none⟩ = some (.int .i64 a0_10) := (blk_cell BK523.out 10).trans rfl; have hcz61_11 : w57.cell? ⟨gb523, 11, none⟩ = some (.int .i64 a0_11) := (blk_cell BK523.out 11).trans rfl; have hfz61_0 := blk_frozen BK523.out 0; have hfz61_1 := blk_frozen BK523.out 1; have hfz61_2 := blk_frozen BK523.out 2; have hfz61_3 := blk_frozen BK523.out 3; have hfz61_4 := blk_frozen BK523.out 4; have hfz61_5 := blk_frozen BK523.out 5; have hfz61_6 := blk_frozen BK523.out 6; have hfz61_7 := blk_frozen BK523.out 7; have hfz61_8 := blk_frozen BK523.out 8; have hfz61_9 := blk_frozen BK523.out 9; have hfz61_10 := blk_frozen BK523.out 10; have hfz61_11 := blk_frozen BK523.out 11; have hcz62_0 : w57.cell? ⟨gb526, 0, none⟩ = some (.int .i64 a1) := (blk_cell BK526.out 0).trans rfl; have hcz62_1 : w57.cell? ⟨gb526, 1, none⟩ = some (.int .i64 (wrap64 ((wrap64 (a1 + a3)) + a2))) := (blk_cell BK526.out 1).trans rfl; have hcz62_2 : w57.cell? ⟨gb526, 2, none⟩ = some (.int .i64 (wrap64 ((wrap64 ((wrap64 ((wrap64 (a1 + a3)) + a4)) + a2)) + a6))) := (blk_cell BK526.out 2).trans rfl; have hcz62_3 : w57.cell? ⟨gb526, 3, none⟩ = some (.int .i64 (wrap64 ((wrap64 ((wrap64 (a1 + a3)) + a4)) + a5))) := (blk_cell BK526.out 3).trans rfl; have hfz62_0 := blk_frozen BK526.out 0; have hfz62_1 := blk_frozen BK526.out 1; have hfz62_2 := blk_frozen BK526.out 2; have hfz62_3 := blk_frozen BK526.out 3) | (go_at_call 34; (try simp only [i64_w, i32_w]); (with_reducible refine (probe_Right.calls kj9 a0_0 a0_1 a0_2 a0_3 a0_4 a0_5 a0_6 a0_7 a0_8 a0_9 a0_10 a0_11 a1 (wrap64 ((wrap64 (a1 + a3)) + a2)) (wrap64 ((wrap64 ((wrap64 ((wrap64 (a1 + a3)) + a4)) + a2)) + a6)) (wrap64 ((wrap64 ((wrap64 (a1 + a3)) + a4)) + a5)) t530 _ A51.out).mono ?_); rintro e w63 ⟨rfl, hb⟩; have n0_ := Aside0.mk (blk_below (g := gb523) (o := .cells #[.int .i64 a0_0, .int .i64 a0_1, .int .i64 a0_2, .int .i64 a0_3, .int .i64 a0_4, .int .i64 a0_5, .int .i64 a0_6, .int .i64 a0_7, .int .i64 a0_8, .int .i64 a0_9, .int .i64 a0_10, .int .i64 a0_11] 23 (0, 0)) (by (with_reducible repeat (first | refine blk_drewN ?_ _ | refine blk_drew ?_ | refine blk_alloc ?_ _)); refine blk_far ?_ NB523_529.out _; (with_reducible repeat (first | refine blk_drewN ?_ _ | refine blk_drew ?_ | refine blk_alloc ?_ _)); refine blk_far ?_ NB523_529.out _; (with_reducible repeat (first | refine blk_drewN ?_ _ | refine blk_drew ?_ | refine blk_alloc ?_ _)); exact BK523.out) hb); have n1_ := Aside0.mk (blk_below (g := gb526) (o := .cells #[.int .i64 a1, .int .i64 (wrap64 ((wrap64 (a1 + a3)) + a2)), .int .i64 (wrap64 ((wrap64 ((wrap64 ((wrap64 (a1 + a3)) + a4)) + a2)) + a6)), .int .i64 (wrap64 ((wrap64 ((wrap64 (a1 + a3)) + a4)) + a5))] 57 (0, 0)) (by (with_reducible repeat (first | refine blk_drewN ?_ _ | refine blk_drew ?_ | refine blk_alloc ?_ _)); refine blk_far ?_ NB526_529.out _; (with_reducible repeat (first | refine blk_drewN ?_ _ | refine blk_drew ?_ | refine blk_alloc ?_ _)); refine blk_far ?_ NB526_529.out _; (with_reducible repeat (first | refine blk_drewN ?_ _ | refine blk_drew ?_ | refine blk_alloc ?_ _)); exact BK526.out) hb); have n2_ := Aside0.mk (blk_below (g := gb529) (o := .cells #[.int .i64 t527, .int .i64 t528] 25 (0, 0)) (by (with_reducible repeat (first | refine blk_drewN ?_ _ | refine blk_drew ?_ | refine blk_alloc ?_ _)); refine blk_put (cs := #[.int .i64 t527, .int .i64 0]) ?_ 1 _ rfl; (with_reducible repeat (first | refine blk_drewN ?_ _ | refine blk_drew ?_ | refine blk_alloc ?_ _)); refine blk_put (cs := #[.int .i64 0, .int .i64 0]) ?_ 0 _ rfl; (with_reducible repeat (first | refine blk_drewN ?_ _ | refine blk_drew ?_ | refine blk_alloc ?_ _)); exact BK529.out) hb); have n3_ := Aside0.mk (below_step (by repeat (first | (with_reducible first | exact HB.out | apply below_alloc | apply pw_below_drewN | apply below_drew1 | refine below_set ?_ GE523.out | refine below_set ?_ GE526.out | refine below_set ?_ GE529.out) | exact HB.out)) hb); clear BK523; clear BK526; clear BK529; clear HB; have BK523 := n0_; have BK526 := n1_; have BK529 := n2_; have HB := n3_; clear n0_ n1_ n2_ n3_; (try clear hb); (try clear hb2); (try clear hk); (try clear hi)))
              go_ret
              exact ⟨by first | rfl | (simp [errW_none, errW_some] <;> rfl) | (simp [*, errW_none, errW_some] <;> rfl), by repeat (first | (with_reducible first | exact HB.out | apply below_alloc | apply pw_below_drewN | apply below_drew1 | refine below_set ?_ GE523.out | refine below_set ?_ GE526.out | refine below_set ?_ GE529.out) | exact HB.out)⟩
             ·rw [if_neg c50] at H
              have c50b0 : decide ((wrap64 (t528 - t527)) ≤ (wrap64 (a0_6 + (wrap64 (4 * a0_4))))) = false := decide_eq_false c50
              clear c50
              exact absurd ((Option.some.inj H).trans hT.out) (by decide)
            ·rw [if_neg c49] at H
             have c49b0 : decide (a2 ≤ t528) = false := decide_eq_false c49
             clear c49
             exact absurd ((Option.some.inj H).trans hT.out) (by decide)
           ·rw [if_neg c48] at H
            have c48b0 : decide (t527 ≤ a2) = false := decide_eq_false c48
            clear c48
            exact absurd ((Option.some.inj H).trans hT.out) (by decide)
 ·replace c9 := Bool.eq_false_iff.mpr c9
  subst c9
  have H1 : (some false) = some r := by rw [if_neg (show ¬ (false = true) by decide)] at H; exact H
  clear H
  have H := H1
  clear H1
  exact absurd ((Option.some.inj H).trans hT.out) (by decide)

end Go.Proofs.Ytigpigfoahlfjaa.Q
