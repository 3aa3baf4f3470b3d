/- The calls of these Go functions answer what the Lean functions beside them answer; written by a program (wip/pr2.py, out of the print of the loaded program); under no condition but those that stand in the theorems. -/
import Derived.Test.YtigpigfoahlfjaaQx0
import Derived.Test.YtigpigfoahlfjaaQx1
import Derived.Test.YtigpigfoahlfjaaQx30
import Derived.Test.YtigpigfoahlfjaaQx32
import Derived.Test.YtigpigfoahlfjaaQx37
import Derived.Test.YtigpigfoahlfjaaQx38
namespace Go.Proofs.Ytigpigfoahlfjaa.Q
open Go.RowKit Go.Proofs.YtigpigfoahlfjaaW.PrintWords Go.Proofs.YtigpigfoahlfjaaW.PrintLast Go.Proofs.YtigpigfoahlfjaaW.PrintMore
attribute [local go_sem] max2_int min2_int max_two min_two max_three min_three max_four min_four   -- for this text's walks alone
set_option linter.unusedVariables false
set_option linter.unusedSimpArgs false

attribute [local go_sem high] eqA25
/-! ### clepsydralaw10_ProbeBest: function 13 -/
def clepsydralaw10_ProbeBest.l0 : Nat → List (S57) → Bool → List (S57) → Int → Int → Int → Int → Int → Int → Int → Int → Int → Int → Int → Int → Int → Int → Int → Int → Option (Bool)
 | 0, _, _, _, _, _, _, _, _, _, _, _, _, _, _, _, _, _, _, _ => none
 | k + 1, x1, x6, x18, x19, x20, x548000, x548001, x548002, x548003, x548004, x548005, x548006, x548007, x548008, x548009, x548010, x548011, x550000, x550001 => if x20 < x19 then (if 0 ≤ x20 then (if x20 < (x18.length : Int) then ((clepsydralaw10_ahead.f k x548000 x548001 x548002 x548003 x548004 x548005 x548006 x548007 x548008 x548009 x548010 x548011 ((rd_T57 x18 x20).f0) ((rd_T57 x18 x20).f1) ((rd_T57 x18 x20).f2) ((rd_T57 x18 x20).f3)).bind fun bt556 => (if bt556.1 ≤ bt556.2 then (if x6 = true then ((clepsydraref03_Wide.f bt556.1 bt556.2).bind fun t559 => ((clepsydraref03_Wide.f x550000 x550001).bind fun t560 => (if t559 < t560 then (clepsydralaw10_ProbeBest.l0 k x1 true x18 x19 (wrap64 (x20 + 1)) x548000 x548001 x548002 x548003 x548004 x548005 x548006 x548007 x548008 x548009 x548010 x548011 bt556.1 bt556.2) else (clepsydralaw10_ProbeBest.l0 k x1 x6 x18 x19 (wrap64 (x20 + 1)) x548000 x548001 x548002 x548003 x548004 x548005 x548006 x548007 x548008 x548009 x548010 x548011 x550000 x550001)))) else (clepsydralaw10_ProbeBest.l0 k x1 true x18 x19 (wrap64 (x20 + 1)) x548000 x548001 x548002 x548003 x548004 x548005 x548006 x548007 x548008 x548009 x548010 x548011 bt556.1 bt556.2)) else (clepsydralaw10_ProbeBest.l0 k x1 x6 x18 x19 (wrap64 (x20 + 1)) x548000 x548001 x548002 x548003 x548004 x548005 x548006 x548007 x548008 x548009 x548010 x548011 x550000 x550001))) else (none)) else (none)) else ((probe_Best.f k x548000 x548001 x548002 x548003 x548004 x548005 x548006 x548007 x548008 x548009 x548010 x548011 x1).bind fun bt550 => (if (bt550.2.2 == x6) = true then (some (bt550.1 == x550000 && (bt550.2.1 == x550001))) else (some false)))
def clepsydralaw10_ProbeBest.f (k : Nat) (a0_0 : Int) (a0_1 : Int) (a0_2 : Int) (a0_3 : Int) (a0_4 : Int) (a0_5 : Int) (a0_6 : Int) (a0_7 : Int) (a0_8 : Int) (a0_9 : Int) (a0_10 : Int) (a0_11 : Int) (l1 : List (S57)) : Option (Bool) := (clepsydralaw10_alive.f k).bind fun t548 => (if t548 = true then (if (l1.length : Int) > 256 then (some true) else (clepsydralaw10_ProbeBest.l0 k l1 false l1 (l1.length : Int) 0 a0_0 a0_1 a0_2 a0_3 a0_4 a0_5 a0_6 a0_7 a0_8 a0_9 a0_10 a0_11 0 0)) else (some false))
theorem clepsydralaw10_ProbeBest.mono_l : ∀ k, (∀ y0 y1 y2 y3 y4 y5 y6 y7 y8 y9 y10 y11 y12 y13 y14 y15 y16 y17 y18, LeO (clepsydralaw10_ProbeBest.l0 k y0 y1 y2 y3 y4 y5 y6 y7 y8 y9 y10 y11 y12 y13 y14 y15 y16 y17 y18) (clepsydralaw10_ProbeBest.l0 (k + 1) y0 y1 y2 y3 y4 y5 y6 y7 y8 y9 y10 y11 y12 y13 y14 y15 y16 y17 y18))
 | 0 => fun _ _ _ _ _ _ _ _ _ _ _ _ _ _ _ _ _ _ _ r h => by simp [clepsydralaw10_ProbeBest.l0] at h
 | k + 1 => by
  have ih0 := clepsydralaw10_ProbeBest.mono_l k
  ·intro y0 y1 y2 y3 y4 y5 y6 y7 y8 y9 y10 y11 y12 y13 y14 y15 y16 y17 y18
   unfold clepsydralaw10_ProbeBest.l0
   repeat' first
   | (with_reducible exact ih0 _ _ _ _ _ _ _ _ _ _ _ _ _ _ _ _ _ _ _)
   | (with_reducible exact clepsydralaw10_ahead.mono _ _ _ _ _ _ _ _ _ _ _ _ _ _ _ _ _)
   | (with_reducible exact clepsydralaw10_alive.mono _)
   | (with_reducible exact probe_Best.mono _ _ _ _ _ _ _ _ _ _ _ _ _ _)
   | (with_reducible exact LeO.refl _)
   | (with_reducible exact LeO.none _)
   | (with_reducible refine LeO.ite ?_ ?_)
   | (with_reducible refine LeO.bind ?_ (fun _ => ?_))
   | exact ih0 _ _ _ _ _ _ _ _ _ _ _ _ _ _ _ _ _ _ _
   | exact clepsydralaw10_ahead.mono _ _ _ _ _ _ _ _ _ _ _ _ _ _ _ _ _
   | exact clepsydralaw10_alive.mono _
   | exact probe_Best.mono _ _ _ _ _ _ _ _ _ _ _ _ _ _
   | exact LeO.none _
   | refine LeO.ite ?_ ?_
   | refine LeO.bind ?_ (fun _ => ?_)
theorem clepsydralaw10_ProbeBest.mono : ∀ a0 a1 a2 a3 a4 a5 a6 a7 a8 a9 a10 a11 a12 k, LeO (clepsydralaw10_ProbeBest.f k a0 a1 a2 a3 a4 a5 a6 a7 a8 a9 a10 a11 a12) (clepsydralaw10_ProbeBest.f (k + 1) a0 a1 a2 a3 a4 a5 a6 a7 a8 a9 a10 a11 a12) := by
 intro a0 a1 a2 a3 a4 a5 a6 a7 a8 a9 a10 a11 a12 k
 have ih0 := clepsydralaw10_ProbeBest.mono_l k
 unfold clepsydralaw10_ProbeBest.f
 repeat' first
   | (with_reducible exact ih0 _ _ _ _ _ _ _ _ _ _ _ _ _ _ _ _ _ _ _)
   | (with_reducible exact clepsydralaw10_ahead.mono _ _ _ _ _ _ _ _ _ _ _ _ _ _ _ _ _)
   | (with_reducible exact clepsydralaw10_alive.mono _)
   | (with_reducible exact probe_Best.mono _ _ _ _ _ _ _ _ _ _ _ _ _ _)
   | (with_reducible exact LeO.refl _)
   | (with_reducible exact LeO.none _)
   | (with_reducible refine LeO.ite ?_ ?_)
   | (with_reducible refine LeO.bind ?_ (fun _ => ?_))
   | exact ih0 _ _ _ _ _ _ _ _ _ _ _ _ _ _ _ _ _ _ _
   | exact clepsydralaw10_ahead.mono _ _ _ _ _ _ _ _ _ _ _ _ _ _ _ _ _
   | exact clepsydralaw10_alive.mono _
   | exact probe_Best.mono _ _ _ _ _ _ _ _ _ _ _ _ _ _
   | exact LeO.none _
   | refine LeO.ite ?_ ?_
   | refine LeO.bind ?_ (fun _ => ?_)
def clepsydralaw10_ProbeBest.T10 : Bool × List (List Nat × List Nat) := (true, [([], []), ([0], [0]), ([], []), ([2], [2]), ([1, 3], [1, 3]), ([4], [4]), ([5], [5]), ([6, 5], [5, 6]), ([7, 5, 5], [5, 7]), ([8], [8]), ([9, 8, 8], [8, 9]), ([8], [8]), ([11, 10, 8], [8, 11]), ([10, 12, 8], [8, 10, 12]), ([8, 13, 5], [5, 8, 13]), ([5, 14], [5, 14])])
def clepsydralaw10_ProbeBest.B10 : List Nat := [0, 1, 0, 4, 15, 31, 63, 127, 255, 511, 1023, 511, 4095, 8191, 16383, 32767]
theorem clepsydralaw10_ProbeBest.tab10 : rtab .any (opsOf Try.f13 10) = clepsydralaw10_ProbeBest.T10 := by kernel_rfl
theorem clepsydralaw10_ProbeBest.bits10 : waitsOk clepsydralaw10_ProbeBest.T10.2 clepsydralaw10_ProbeBest.B10 = true := by kernel_rfl
set_option maxHeartbeats 8000000 in
set_option maxRecDepth 100000 in
theorem clepsydralaw10_ProbeBest.calls (k : Nat) (a0_0 : Int) (a0_1 : Int) (a0_2 : Int) (a0_3 : Int) (a0_4 : Int) (a0_5 : Int) (a0_6 : Int) (a0_7 : Int) (a0_8 : Int) (a0_9 : Int) (a0_10 : Int) (a0_11 : Int) (A1 : Option Addr) (c1 : Nat) (l1 : List (S57)) (r : Bool) (w : World) (hr1 : Kd.C k57 w A1 l1.length l1) (hc1 : l1.length ≤ c1) (hT : Aside0 (r = true)) (h : clepsydralaw10_ProbeBest.f k a0_0 a0_1 a0_2 a0_3 a0_4 a0_5 a0_6 a0_7 a0_8 a0_9 a0_10 a0_11 l1 = some r) :
  Calls Try.prog 13 #[.agg #[.int .i64 a0_0, .int .i64 a0_1, .int .i64 a0_2, .int .i64 a0_3, .int .i64 a0_4, .int .i64 a0_5, .int .i64 a0_6, .int .i64 a0_7, .int .i64 a0_8, .int .i64 a0_9, .int .i64 a0_10, .int .i64 a0_11], .slice A1 l1.length c1] w fun e w' => e = .returned (.bool r) ∧ Below w.heap.size w w' := by
 have hu23 := Try.underlying23
 have hu25 := Try.underlying25
 have hu57 := Try.underlying57
 have HR1 := Aside0.mk hr1
 have HC1 := Aside0.mk hc1
 clear hr1 hc1
 have HB := Aside0.mk (Below.refl w.heap.size w)
 have H : ((clepsydralaw10_alive.f k).bind fun t548 => (if t548 = true then (if (l1.length : Int) > 256 then (some true) else (clepsydralaw10_ProbeBest.l0 k l1 false l1 (l1.length : Int) 0 a0_0 a0_1 a0_2 a0_3 a0_4 a0_5 a0_6 a0_7 a0_8 a0_9 a0_10 a0_11 0 0)) else (some false))) = some r := h
 clear h
 replace H := Option.bind_eq_some_iff.mp H
 obtain ⟨t548, A30, H⟩ := H
 replace H : (if t548 = true then (if (l1.length : Int) > 256 then (some true) else (clepsydralaw10_ProbeBest.l0 k l1 false l1 (l1.length : Int) 0 a0_0 a0_1 a0_2 a0_3 a0_4 a0_5 a0_6 a0_7 a0_8 a0_9 a0_10 a0_11 0 0)) else (some false)) = some r := H
 have A3 := Aside0.mk A30
 clear A30
 by_cases c4 : t548 = true
 ·subst c4
  have H1 : (if (l1.length : Int) > 256 then (some true) else (clepsydralaw10_ProbeBest.l0 k l1 false l1 (l1.length : Int) 0 a0_0 a0_1 a0_2 a0_3 a0_4 a0_5 a0_6 a0_7 a0_8 a0_9 a0_10 a0_11 0 0)) = some r := by rw [if_pos rfl] at H; exact H
  clear H
  have H := H1
  clear H1
  by_cases c5 : (l1.length : Int) > 256
  ·rw [if_pos c5] at H
   have c5b0 : decide (256 < (l1.length : Int)) = true := decide_eq_true c5
   have c5b1 : decide (256 < l1.length) = true := decide_eq_true (by omega)
   clear c5
   obtain rfl := Option.some.inj H
   go_enter Try.func13, Try.ntmps13
   go_wp2_with (first | ((with_reducible refine gate_dst (N := 2) rfl ?_); refine box_event ?hg (N := 2) ?hd (cs := #[.int .i64 a0_0, .int .i64 a0_1, .int .i64 a0_2, .int .i64 a0_3, .int .i64 a0_4, .int .i64 a0_5, .int .i64 a0_6, .int .i64 a0_7, .int .i64 a0_8, .int .i64 a0_9, .int .i64 a0_10, .int .i64 a0_11]) (t := 23) ?hr ?_; (case hd => rfl); (case hg => rfl); (case hr => first | (go_simp; done) | (go_simp; rfl)); intro gb547 hg w6 hbox hb; have n0_ := Aside0.mk (below_step (by repeat (first | (with_reducible first | exact HB.out | apply below_alloc | apply pw_below_drewN | apply below_drew1) | exact HB.out)) hb); have n1_ := Aside0.mk (hbox); have n2_ := Aside0.mk ((by rw [hg]; exact (below_size (by repeat (first | (with_reducible first | exact HB.out | apply below_alloc | apply pw_below_drewN | apply below_drew1) | exact HB.out))) : w.heap.size ≤ gb547)); have n3_ := Aside0.mk ((by rw [hg]; exact (below_size (by repeat (first | (with_reducible first | exact HB.out | apply below_alloc | apply pw_below_drewN | apply below_drew1) | exact HB.out))) : w.heap.size ≤ gb547)); clear HB; have HB := n0_; have BK547 := n1_; have GW547 := n2_; have GE547 := n3_; clear n0_ n1_ n2_ n3_; clear hb hbox hg) | ((with_reducible refine gate_callee (f := 31) rfl ?_); refine goesL_ (some 12) rfl rfl Try.func31 (by kernel_rfl) rfl #[] rfl (by (try simp only [List.map_toArray, List.map_cons, List.map_nil]); first | done | rfl | (simp only [List.length_drop, List.length_take]; rfl)) ?_; (with_reducible refine (clepsydralaw10_alive.calls k  true _ A3.out).mono ?_); rintro e w7 ⟨rfl, hb⟩; refine ⟨_, rfl, ?_⟩; have n0_ := Aside0.mk (blk_below (g := gb547) (o := .cells #[.int .i64 a0_0, .int .i64 a0_1, .int .i64 a0_2, .int .i64 a0_3, .int .i64 a0_4, .int .i64 a0_5, .int .i64 a0_6, .int .i64 a0_7, .int .i64 a0_8, .int .i64 a0_9, .int .i64 a0_10, .int .i64 a0_11] 23 (0, 0)) (by (with_reducible repeat (first | refine blk_drewN ?_ _ | refine blk_drew ?_ | refine blk_alloc ?_ _)); exact BK547.out) hb); have n1_ := Aside0.mk (below_step (by repeat (first | (with_reducible first | exact HB.out | apply below_alloc | apply pw_below_drewN | apply below_drew1 | refine below_set ?_ GE547.out) | exact HB.out)) hb); clear BK547; clear HB; have BK547 := n0_; have HB := n1_; clear n0_ n1_; (try clear hb); (try clear hb2); (try clear hk); (try clear hi)))
   go_ret
   exact ⟨by first | rfl | (simp [errW_none, errW_some] <;> rfl) | (simp [*, errW_none, errW_some] <;> rfl), by repeat (first | (with_reducible first | exact HB.out | apply below_alloc | apply pw_below_drewN | apply below_drew1 | refine below_set ?_ GE547.out) | exact HB.out)⟩
  ·rw [if_neg c5] at H
   have c5b0 : decide (256 < (l1.length : Int)) = false := decide_eq_false c5
   have c5b1 : decide (256 < l1.length) = false := decide_eq_false (by omega)
   clear c5
   have H' := Aside0.mk H
   clear H
   go_enter Try.func13, Try.ntmps13
   go_wp2_with (first | ((with_reducible refine gate_dst (N := 2) rfl ?_); refine box_event ?hg (N := 2) ?hd (cs := #[.int .i64 a0_0, .int .i64 a0_1, .int .i64 a0_2, .int .i64 a0_3, .int .i64 a0_4, .int .i64 a0_5, .int .i64 a0_6, .int .i64 a0_7, .int .i64 a0_8, .int .i64 a0_9, .int .i64 a0_10, .int .i64 a0_11]) (t := 23) ?hr ?_; (case hd => rfl); (case hg => rfl); (case hr => first | (go_simp; done) | (go_simp; rfl)); intro gb547 hg w8 hbox hb; have n0_ := Aside0.mk (below_step (by repeat (first | (with_reducible first | exact HB.out | apply below_alloc | apply pw_below_drewN | apply below_drew1) | exact HB.out)) hb); have n1_ := Aside0.mk (hbox); have n2_ := Aside0.mk ((by rw [hg]; exact (below_size (by repeat (first | (with_reducible first | exact HB.out | apply below_alloc | apply pw_below_drewN | apply below_drew1) | exact HB.out))) : w.heap.size ≤ gb547)); have n3_ := Aside0.mk ((by rw [hg]; exact (below_size (by repeat (first | (with_reducible first | exact HB.out | apply below_alloc | apply pw_below_drewN | apply below_drew1) | exact HB.out))) : w.heap.size ≤ gb547)); clear HB; have HB := n0_; have BK547 := n1_; have GW547 := n2_; have GE547 := n3_; clear n0_ n1_ n2_ n3_; clear hb hbox hg) | ((with_reducible refine gate_callee (f := 31) rfl ?_); refine goesL_ (some 12) rfl rfl Try.func31 (by kernel_rfl) rfl #[] rfl (by (try simp only [List.map_toArray, List.map_cons, List.map_nil]); first | done | rfl | (simp only [List.length_drop, List.length_take]; rfl)) ?_; (with_reducible refine (clepsydralaw10_alive.calls k  true _ A3.out).mono ?_); rintro e w9 ⟨rfl, hb⟩; refine ⟨_, rfl, ?_⟩; have n0_ := Aside0.mk (blk_below (g := gb547) (o := .cells #[.int .i64 a0_0, .int .i64 a0_1, .int .i64 a0_2, .int .i64 a0_3, .int .i64 a0_4, .int .i64 a0_5, .int .i64 a0_6, .int .i64 a0_7, .int .i64 a0_8, .int .i64 a0_9, .int .i64 a0_10, .int .i64 a0_11] 23 (0, 0)) (by (with_reducible repeat (first | refine blk_drewN ?_ _ | refine blk_drew ?_ | refine blk_alloc ?_ _)); exact BK547.out) hb); have n1_ := Aside0.mk (below_step (by repeat (first | (with_reducible first | exact HB.out | apply below_alloc | apply pw_below_drewN | apply below_drew1 | refine below_set ?_ GE547.out) | exact HB.out)) hb); clear BK547; clear HB; have BK547 := n0_; have HB := n1_; clear n0_ n1_; (try clear hb); (try clear hb2); (try clear hk); (try clear hi)) | ((with_reducible refine gate_dst (N := 5) rfl ?_); refine box_event ?hg (N := 5) ?hd (cs := #[.int .i64 0, .int .i64 0]) (t := 25) ?hr ?_; (case hd => rfl); (case hg => rfl); (case hr => first | (go_simp; done) | (go_simp; rfl)); intro gb549 hg w10 hbox hb; have n0_ := Aside0.mk (blk_below (g := gb547) (o := .cells #[.int .i64 a0_0, .int .i64 a0_1, .int .i64 a0_2, .int .i64 a0_3, .int .i64 a0_4, .int .i64 a0_5, .int .i64 a0_6, .int .i64 a0_7, .int .i64 a0_8, .int .i64 a0_9, .int .i64 a0_10, .int .i64 a0_11] 23 (0, 0)) (by (with_reducible repeat (first | refine blk_drewN ?_ _ | refine blk_drew ?_ | refine blk_alloc ?_ _)); exact BK547.out) hb); have n1_ := Aside0.mk (below_step (by repeat (first | (with_reducible first | exact HB.out | apply below_alloc | apply pw_below_drewN | apply below_drew1 | refine below_set ?_ GE547.out) | exact HB.out)) hb); have n2_ := Aside0.mk (hbox); have n3_ := Aside0.mk ((by rw [hg]; exact (below_size (by repeat (first | (with_reducible first | exact HB.out | apply below_alloc | apply pw_below_drewN | apply below_drew1 | refine below_set ?_ GE547.out) | exact HB.out))) : w.heap.size ≤ gb549)); have n4_ := Aside0.mk ((by rw [hg]; exact (below_size (by repeat (first | (with_reducible first | exact HB.out | apply below_alloc | apply pw_below_drewN | apply below_drew1 | refine below_set ?_ GE547.out) | exact HB.out))) : w.heap.size ≤ gb549)); have n5_ := Aside0.mk ((by rw [hg]; exact Nat.ne_of_lt (blk_lt (g := gb547) (o := .cells #[.int .i64 a0_0, .int .i64 a0_1, .int .i64 a0_2, .int .i64 a0_3, .int .i64 a0_4, .int .i64 a0_5, .int .i64 a0_6, .int .i64 a0_7, .int .i64 a0_8, .int .i64 a0_9, .int .i64 a0_10, .int .i64 a0_11] 23 (0, 0)) (by (with_reducible repeat (first | refine blk_drewN ?_ _ | refine blk_drew ?_ | refine blk_alloc ?_ _)); exact BK547.out)) : gb547 ≠ gb549)); have n6_ := Aside0.mk ((by rw [hg]; exact Nat.ne_of_gt (blk_lt (g := gb547) (o := .cells #[.int .i64 a0_0, .int .i64 a0_1, .int .i64 a0_2, .int .i64 a0_3, .int .i64 a0_4, .int .i64 a0_5, .int .i64 a0_6, .int .i64 a0_7, .int .i64 a0_8, .int .i64 a0_9, .int .i64 a0_10, .int .i64 a0_11] 23 (0, 0)) (by (with_reducible repeat (first | refine blk_drewN ?_ _ | refine blk_drew ?_ | refine blk_alloc ?_ _)); exact BK547.out)) : gb549 ≠ gb547)); clear BK547; clear HB; have BK547 := n0_; have HB := n1_; have BK549 := n2_; have GW549 := n3_; have GE549 := n4_; have NB547_549 := n5_; have NB549_547 := n6_; clear n0_ n1_ n2_ n3_ n4_ n5_ n6_; clear hb hbox hg; have hnb11 := NB549_547.out; have hnc11 := NB547_549.out; have hcz12_0 : w10.cell? ⟨gb549, 0, none⟩ = some (.int .i64 0) := (blk_cell BK549.out 0).trans rfl; have hcz12_1 : w10.cell? ⟨gb549, 1, none⟩ = some (.int .i64 0) := (blk_cell BK549.out 1).trans rfl; have hfz12_0 := blk_frozen BK549.out 0; have hfz12_1 := blk_frozen BK549.out 1))
   go_loopg [6, 20] k (fun kq v6 v20 w' => ∃ (x6_1 : Bool) (x20_1 : Int) (x550000_1 : Int) (x550001_1 : Int), v6 = .bool x6_1 ∧ v20 = .int .i64 x20_1 ∧ Aside0 (clepsydralaw10_ProbeBest.l0 kq l1 x6_1 l1 (l1.length : Int) x20_1 a0_0 a0_1 a0_2 a0_3 a0_4 a0_5 a0_6 a0_7 a0_8 a0_9 a0_10 a0_11 x550000_1 x550001_1 = some r) ∧ Aside0 (kq ≤ k) ∧ Aside0 (w'.heap[gb547]? = some (.cells #[.int .i64 a0_0, .int .i64 a0_1, .int .i64 a0_2, .int .i64 a0_3, .int .i64 a0_4, .int .i64 a0_5, .int .i64 a0_6, .int .i64 a0_7, .int .i64 a0_8, .int .i64 a0_9, .int .i64 a0_10, .int .i64 a0_11] 23 (0, 0))) ∧ Aside0 (w'.heap[gb549]? = some (.cells #[.int .i64 x550000_1, .int .i64 x550001_1] 25 (0, 0))) ∧ Aside0 (Below w.heap.size w w'))
   case atStart => exact ⟨(false), (0), (0), (0), (by first | rfl | (simp; done) | (simp [*]; done) | (simp [Int.tdiv_eq_ediv_of_nonneg]; done) | (simp [Go.RowKit.wrap64]; done) | (simp [*, Go.RowKit.wrap64]; done)), (by first | rfl | (simp; done) | (simp [*]; done) | (simp [Int.tdiv_eq_ediv_of_nonneg]; done) | (simp [Go.RowKit.wrap64]; done) | (simp [*, Go.RowKit.wrap64]; done)), H', ⟨Nat.le_refl _⟩, ⟨by (with_reducible repeat (first | refine blk_drewN ?_ _ | refine blk_drew ?_ | refine blk_alloc ?_ _)); refine blk_far ?_ NB547_549.out _; (with_reducible repeat (first | refine blk_drewN ?_ _ | refine blk_drew ?_ | refine blk_alloc ?_ _)); refine blk_far ?_ NB547_549.out _; (with_reducible repeat (first | refine blk_drewN ?_ _ | refine blk_drew ?_ | refine blk_alloc ?_ _)); exact BK547.out⟩, ⟨by (with_reducible repeat (first | refine blk_drewN ?_ _ | refine blk_drew ?_ | refine blk_alloc ?_ _)); refine blk_put (cs := #[.int .i64 0, .int .i64 0]) ?_ 1 _ rfl; (with_reducible repeat (first | refine blk_drewN ?_ _ | refine blk_drew ?_ | refine blk_alloc ?_ _)); refine blk_put (cs := #[.int .i64 0, .int .i64 0]) ?_ 0 _ rfl; (with_reducible repeat (first | refine blk_drewN ?_ _ | refine blk_drew ?_ | refine blk_alloc ?_ _)); exact BK549.out⟩, ⟨by repeat (first | (with_reducible first | exact HB.out | apply below_alloc | apply pw_below_drewN | apply below_drew1 | refine below_set ?_ GE547.out | refine below_set ?_ GE549.out) | exact HB.out)⟩⟩
   case round =>
    clear H'
    try clear c1
    try clear p2
    try clear c3
    try clear c4
    try clear c5
    try clear c5b0
    try clear c5b1
    try clear c11
    try clear hcz12_0
    try clear hcz12_1
    try clear hfz12_0
    try clear hfz12_1
    obtain ⟨x6_1, x20_1, x550000_1, x550001_1, rfl, rfl, HA, HK1, BK547, BK549, HB⟩ := hrel
    cases gk with
    | zero => exact absurd HA.out (by simp [clepsydralaw10_ProbeBest.l0])
    | succ k1 =>
     have H := HA.out
     clear HA
     simp only [clepsydralaw10_ProbeBest.l0] at H
     by_cases c13 : x20_1 < (l1.length : Int)
     ·rw [if_pos c13] at H
      have c13b0 : decide (x20_1 < (l1.length : Int)) = true := decide_eq_true c13
      clear c13
      by_cases c14 : 0 ≤ x20_1
      ·rw [if_pos c14] at H
       have c14b0 : decide (0 ≤ x20_1) = true := decide_eq_true c14
       clear c14
       by_cases c15 : x20_1 < (l1.length : Int)
       ·rw [if_pos c15] at H
        have c15b0 : decide (x20_1 < (l1.length : Int)) = true := decide_eq_true c15
        clear c15
        replace H := Option.bind_eq_some_iff.mp H
        obtain ⟨⟨t556, t557⟩, A160, H⟩ := H
        replace H : (if t556 ≤ t557 then (if x6_1 = true then ((clepsydraref03_Wide.f t556 t557).bind fun t559 => ((clepsydraref03_Wide.f x550000_1 x550001_1).bind fun t560 => (if t559 < t560 then (clepsydralaw10_ProbeBest.l0 k1 l1 true l1 (l1.length : Int) (wrap64 (x20_1 + 1)) a0_0 a0_1 a0_2 a0_3 a0_4 a0_5 a0_6 a0_7 a0_8 a0_9 a0_10 a0_11 t556 t557) else (clepsydralaw10_ProbeBest.l0 k1 l1 x6_1 l1 (l1.length : Int) (wrap64 (x20_1 + 1)) a0_0 a0_1 a0_2 a0_3 a0_4 a0_5 a0_6 a0_7 a0_8 a0_9 a0_10 a0_11 x550000_1 x550001_1)))) else (clepsydralaw10_ProbeBest.l0 k1 l1 true l1 (l1.length : Int) (wrap64 (x20_1 + 1)) a0_0 a0_1 a0_2 a0_3 a0_4 a0_5 a0_6 a0_7 a0_8 a0_9 a0_10 a0_11 t556 t557)) else (clepsydralaw10_ProbeBest.l0 k1 l1 x6_1 l1 (l1.length : Int) (wrap64 (x20_1 + 1)) a0_0 a0_1 a0_2 a0_3 a0_4 a0_5 a0_6 a0_7 a0_8 a0_9 a0_10 a0_11 x550000_1 x550001_1)) = some r := H
        have A16 := Aside0.mk A160
        clear A160
        by_cases c17 : t556 ≤ t557
        ·rw [if_pos c17] at H
         have c17b0 : decide (t556 ≤ t557) = true := decide_eq_true c17
         clear c17
         by_cases c18 : x6_1 = true
         ·subst c18
          have H1 : ((clepsydraref03_Wide.f t556 t557).bind fun t559 => ((clepsydraref03_Wide.f x550000_1 x550001_1).bind fun t560 => (if t559 < t560 then (clepsydralaw10_ProbeBest.l0 k1 l1 true l1 (l1.length : Int) (wrap64 (x20_1 + 1)) a0_0 a0_1 a0_2 a0_3 a0_4 a0_5 a0_6 a0_7 a0_8 a0_9 a0_10 a0_11 t556 t557) else (clepsydralaw10_ProbeBest.l0 k1 l1 true l1 (l1.length : Int) (wrap64 (x20_1 + 1)) a0_0 a0_1 a0_2 a0_3 a0_4 a0_5 a0_6 a0_7 a0_8 a0_9 a0_10 a0_11 x550000_1 x550001_1)))) = some r := by rw [if_pos rfl] at H; exact H
          clear H
          have H := H1
          clear H1
          replace H := Option.bind_eq_some_iff.mp H
          obtain ⟨t559, A190, H⟩ := H
          replace H : ((clepsydraref03_Wide.f x550000_1 x550001_1).bind fun t560 => (if t559 < t560 then (clepsydralaw10_ProbeBest.l0 k1 l1 true l1 (l1.length : Int) (wrap64 (x20_1 + 1)) a0_0 a0_1 a0_2 a0_3 a0_4 a0_5 a0_6 a0_7 a0_8 a0_9 a0_10 a0_11 t556 t557) else (clepsydralaw10_ProbeBest.l0 k1 l1 true l1 (l1.length : Int) (wrap64 (x20_1 + 1)) a0_0 a0_1 a0_2 a0_3 a0_4 a0_5 a0_6 a0_7 a0_8 a0_9 a0_10 a0_11 x550000_1 x550001_1))) = some r := H
          have A19 := Aside0.mk A190
          clear A190
          replace H := Option.bind_eq_some_iff.mp H
          obtain ⟨t560, A200, H⟩ := H
          replace H : (if t559 < t560 then (clepsydralaw10_ProbeBest.l0 k1 l1 true l1 (l1.length : Int) (wrap64 (x20_1 + 1)) a0_0 a0_1 a0_2 a0_3 a0_4 a0_5 a0_6 a0_7 a0_8 a0_9 a0_10 a0_11 t556 t557) else (clepsydralaw10_ProbeBest.l0 k1 l1 true l1 (l1.length : Int) (wrap64 (x20_1 + 1)) a0_0 a0_1 a0_2 a0_3 a0_4 a0_5 a0_6 a0_7 a0_8 a0_9 a0_10 a0_11 x550000_1 x550001_1)) = some r := H
          have A20 := Aside0.mk A200
          clear A200
          by_cases c21 : t559 < t560
          ·rw [if_pos c21] at H
           have c21b0 : decide (t559 < t560) = true := decide_eq_true c21
           clear c21
           have H' := Aside0.mk H
           clear H
           have p554 : 0 ≤ (x20_1 : Int) := of_decide_eq_true (by first | (with_reducible assumption) | assumption)
           have q554 : x20_1 < (l1.length : Int) := of_decide_eq_true (by first | (with_reducible assumption) | assumption)
           obtain ⟨ad554, e554, hx554_0, hx554_1, hx554_2, hx554_3⟩ := at_T57 HR1.out x20_1 p554 q554
           cases e554
           replace hx554_0 := (HB.out.cell (World.block_lt_of_cell? w _ hx554_0)).trans hx554_0
           replace hx554_1 := (HB.out.cell (World.block_lt_of_cell? w _ hx554_1)).trans hx554_1
           replace hx554_2 := (HB.out.cell (World.block_lt_of_cell? w _ hx554_2)).trans hx554_2
           replace hx554_3 := (HB.out.cell (World.block_lt_of_cell? w _ hx554_3)).trans hx554_3
           replace p554 := eq_true p554
           replace q554 := eq_true q554
           try go_wp2_with (first | ((with_reducible refine gate_dst (N := 8) rfl ?_); refine box_event ?hg (N := 8) ?hd (cs := #[.int .i64 0, .int .i64 0, .int .i64 0, .int .i64 0]) (t := 57) ?hr ?_; (case hd => rfl); (case hg => rfl); (case hr => first | (go_simp; done) | (go_simp; rfl)); intro gb555 hg w22 hbox hb; have n0_ := Aside0.mk (blk_below (g := gb547) (o := .cells #[.int .i64 a0_0, .int .i64 a0_1, .int .i64 a0_2, .int .i64 a0_3, .int .i64 a0_4, .int .i64 a0_5, .int .i64 a0_6, .int .i64 a0_7, .int .i64 a0_8, .int .i64 a0_9, .int .i64 a0_10, .int .i64 a0_11] 23 (0, 0)) (by (with_reducible repeat (first | refine blk_drewN ?_ _ | refine blk_drew ?_ | refine blk_alloc ?_ _)); exact BK547.out) hb); have n1_ := Aside0.mk (blk_below (g := gb549) (o := .cells #[.int .i64 x550000_1, .int .i64 x550001_1] 25 (0, 0)) (by (with_reducible repeat (first | refine blk_drewN ?_ _ | refine blk_drew ?_ | refine blk_alloc ?_ _)); exact BK549.out) hb); have n2_ := Aside0.mk (below_step (by repeat (first | (with_reducible first | exact HB.out | apply below_alloc | apply pw_below_drewN | apply below_drew1 | refine below_set ?_ GE547.out | refine below_set ?_ GE549.out) | exact HB.out)) hb); have n3_ := Aside0.mk (hbox); have n4_ := Aside0.mk ((by rw [hg]; exact (below_size (by repeat (first | (with_reducible first | exact HB.out | apply below_alloc | apply pw_below_drewN | apply below_drew1 | refine below_set ?_ GE547.out | refine below_set ?_ GE549.out) | exact HB.out))) : w.heap.size ≤ gb555)); have n5_ := Aside0.mk ((by rw [hg]; exact (below_size (by repeat (first | (with_reducible first | exact HB.out | apply below_alloc | apply pw_below_drewN | apply below_drew1 | refine below_set ?_ GE547.out | refine below_set ?_ GE549.out) | exact HB.out))) : w.heap.size ≤ gb555)); have n6_ := Aside0.mk ((by rw [hg]; exact Nat.ne_of_lt (blk_lt (g := gb547) (o := .cells #[.int .i64 a0_0, .int .i64 a0_1, .int .i64 a0_2, .int .i64 a0_3, .int .i64 a0_4, .int .i64 a0_5, .int .i64 a0_6, .int .i64 a0_7, .int .i64 a0_8, .int .i64 a0_9, .int .i64 a0_10, .int .i64 a0_11] 23 (0, 0)) (by (with_reducible repeat (first | refine blk_drewN ?_ _ | refine blk_drew ?_ | refine blk_alloc ?_ _)); exact BK547.out)) : gb547 ≠ gb555)); have n7_ := Aside0.mk ((by rw [hg]; exact Nat.ne_of_gt (blk_lt (g := gb547) (o := .cells #[.int .i64 a0_0, .int .i64 a0_1, .int .i64 a0_2, .int .i64 a0_3, .int .i64 a0_4, .int .i64 a0_5, .int .i64 a0_6, .int .i64 a0_7, .int .i64 a0_8, .int .i64 a0_9, .int .i64 a0_10, .int .i64 a0_11] 23 (0, 0)) (by (with_reducible repeat (first | refine blk_drewN ?_ _ | refine blk_drew ?_ | refine blk_alloc ?_ _)); exact BK547.out)) : gb555 ≠ gb547)); have n8_ := Aside0.mk ((by rw [hg]; exact Nat.ne_of_lt (blk_lt (g := gb549) (o := .cells #[.int .i64 x550000_1, .int .i64 x550001_1] 25 (0, 0)) (by (with_reducible repeat (first | refine blk_drewN ?_ _ | refine blk_drew ?_ | refine blk_alloc ?_ _)); exact BK549.out)) : gb549 ≠ gb555)); have n9_ := Aside0.mk ((by rw [hg]; exact Nat.ne_of_gt (blk_lt (g := gb549) (o := .cells #[.int .i64 x550000_1, .int .i64 x550001_1] 25 (0, 0)) (by (with_reducible repeat (first | refine blk_drewN ?_ _ | refine blk_drew ?_ | refine blk_alloc ?_ _)); exact BK549.out)) : gb555 ≠ gb549)); clear BK547; clear BK549; clear HB; have BK547 := n0_; have BK549 := n1_; have HB := n2_; have BK555 := n3_; have GW555 := n4_; have GE555 := n5_; have NB547_555 := n6_; have NB555_547 := n7_; have NB549_555 := n8_; have NB555_549 := n9_; clear n0_ n1_ n2_ n3_ n4_ n5_ n6_ n7_ n8_ n9_; clear hb hbox hg; have hnb23 := NB555_547.out; have hnc23 := NB547_555.out; have hnb24 := NB555_549.out; have hnc24 := NB549_555.out; have hcz25_0 : w22.cell? ⟨gb555, 0, none⟩ = some (.int .i64 0) := (blk_cell BK555.out 0).trans rfl; have hcz25_1 : w22.cell? ⟨gb555, 1, none⟩ = some (.int .i64 0) := (blk_cell BK555.out 1).trans rfl; have hcz25_2 : w22.cell? ⟨gb555, 2, none⟩ = some (.int .i64 0) := (blk_cell BK555.out 2).trans rfl; have hcz25_3 : w22.cell? ⟨gb555, 3, none⟩ = some (.int .i64 0) := (blk_cell BK555.out 3).trans rfl; have hfz25_0 := blk_frozen BK555.out 0; have hfz25_1 := blk_frozen BK555.out 1; have hfz25_2 := blk_frozen BK555.out 2; have hfz25_3 := blk_frozen BK555.out 3; have hnb26 := NB547_549.out; have hnc26 := NB549_547.out; have hcz27_0 : w22.cell? ⟨gb547, 0, none⟩ = some (.int .i64 a0_0) := (blk_cell BK547.out 0).trans rfl; have hcz27_1 : w22.cell? ⟨gb547, 1, none⟩ = some (.int .i64 a0_1) := (blk_cell BK547.out 1).trans rfl; have hcz27_2 : w22.cell? ⟨gb547, 2, none⟩ = some (.int .i64 a0_2) := (blk_cell BK547.out 2).trans rfl; have hcz27_3 : w22.cell? ⟨gb547, 3, none⟩ = some (.int .i64 a0_3) := (blk_cell BK547.out 3).trans rfl; have hcz27_4 : w22.cell? ⟨gb547, 4, none⟩ = some (.int .i64 a0_4) := (blk_cell BK547.out 4).trans rfl; have hcz27_5 : w22.cell? ⟨gb547, 5, none⟩ = some (.int .i64 a0_5) := (blk_cell BK547.out 5).trans rfl; have hcz27_6 : w22.cell? ⟨gb547, 6, none⟩ = some (.int .i64 a0_6) := (blk_cell BK547.out 6).trans rfl; have hcz27_7 : w22.cell? ⟨gb547, 7, none⟩ = some (.int .i64 a0_7) := (blk_cell BK547.out 7).trans rfl; have hcz27_8 : w22.cell? ⟨gb547, 8, none⟩ = some (.int .i64 a0_8) := (blk_cell BK547.out 8).trans rfl; have hcz27_9 : w22.cell? ⟨gb547, 9, none⟩ = some (.int .i64 a0_9) := (blk_cell BK547.out 9).trans rfl; have hcz27_10 : w22.cell? ⟨gb547, 10, none⟩ = some (.int .i64 a0_10) := (blk_cell BK547.out 10).trans rfl; have hcz27_11 : w22.cell? ⟨gb547, 11, none⟩ = some (.int .i64 a0_11) := (blk_cell BK547.out 11).trans rfl; have hfz27_0 := blk_frozen BK547.out 0; have hfz27_1 := blk_frozen BK547.out 1; have hfz27_2 := blk_frozen BK547.out 2; have hfz27_3 := blk_frozen BK547.out 3; have hfz27_4 := blk_frozen BK547.out 4; have hfz27_5 := blk_frozen BK547.out 5; have hfz27_6 := blk_frozen BK547.out 6; have hfz27_7 := blk_frozen BK547.out 7; have hfz27_8 := blk_frozen BK547.out 8; have hfz27_9 := blk_frozen BK547.out 9; have hfz27_10 := blk_frozen BK547.out 10; have hfz27_11 := blk_frozen BK547.out 11) | ((with_reducible refine gate_callee (f := 32) rfl ?_); refine goesL_ (some 26) rfl rfl Try.func32 (by kernel_rfl) rfl #[.agg #[.int .i64 a0_0, .int .i64 a0_1, .int .i64 a0_2, .int .i64 a0_3, .int .i64 a0_4, .int .i64 a0_5, .int .i64 a0_6, .int .i64 a0_7, .int .i64 a0_8, .int .i64 a0_9, .int .i64 a0_10, .int .i64 a0_11], .agg #[.int .i64 ((rd_T57 l1 x20_1).f0), .int .i64 ((rd_T57 l1 x20_1).f1), .int .i64 ((rd_T57 l1 x20_1).f2), .int .i64 ((rd_T57 l1 x20_1).f3)]] rfl (by (try simp only [List.map_toArray, List.map_cons, List.map_nil]); first | done | rfl | (simp only [List.length_drop, List.length_take]; rfl)) ?_; (with_reducible refine (clepsydralaw10_ahead.calls k1 a0_0 a0_1 a0_2 a0_3 a0_4 a0_5 a0_6 a0_7 a0_8 a0_9 a0_10 a0_11 ((rd_T57 l1 x20_1).f0) ((rd_T57 l1 x20_1).f1) ((rd_T57 l1 x20_1).f2) ((rd_T57 l1 x20_1).f3) t556 t557 _ A16.out).mono ?_); rintro e w28 ⟨rfl, hb⟩; refine ⟨_, rfl, ?_⟩; have n0_ := Aside0.mk (blk_below (g := gb547) (o := .cells #[.int .i64 a0_0, .int .i64 a0_1, .int .i64 a0_2, .int .i64 a0_3, .int .i64 a0_4, .int .i64 a0_5, .int .i64 a0_6, .int .i64 a0_7, .int .i64 a0_8, .int .i64 a0_9, .int .i64 a0_10, .int .i64 a0_11] 23 (0, 0)) (by (with_reducible repeat (first | refine blk_drewN ?_ _ | refine blk_drew ?_ | refine blk_alloc ?_ _)); refine blk_far ?_ NB547_555.out _; (with_reducible repeat (first | refine blk_drewN ?_ _ | refine blk_drew ?_ | refine blk_alloc ?_ _)); refine blk_far ?_ NB547_555.out _; (with_reducible repeat (first | refine blk_drewN ?_ _ | refine blk_drew ?_ | refine blk_alloc ?_ _)); refine blk_far ?_ NB547_555.out _; (with_reducible repeat (first | refine blk_drewN ?_ _ | refine blk_drew ?_ | refine blk_alloc ?_ _)); refine blk_far ?_ NB547_555.out _; (with_reducible repeat (first | refine blk_drewN ?_ _ | refine blk_drew ?_ | refine blk_alloc ?_ _)); exact BK547.out) hb); have n1_ := Aside0.mk (blk_below (g := gb549) (o := .cells #[.int .i64 x550000_1, .int .i64 x550001_1] 25 (0, 0)) (by (with_reducible repeat (first | refine blk_drewN ?_ _ | refine blk_drew ?_ | refine blk_alloc ?_ _)); refine blk_far ?_ NB549_555.out _; (with_reducible repeat (first | refine blk_drewN ?_ _ | refine blk_drew ?_ | refine blk_alloc ?_ _)); refine blk_far ?_ NB549_555.out _; (with_reducible repeat (first | refine blk_drewN ?_ _ | refine blk_drew ?_ | refine blk_alloc ?_ _)); refine blk_far ?_ NB549_555.out _; (with_reducible repeat (first | refine blk_drewN ?_ _ | refine blk_drew ?_ | refine blk_alloc ?_ _)); refine blk_far ?_ NB549_555.out _; (with_reducible repeat (first | refine blk_drewN ?_ _ | refine blk_drew ?_ | refine blk_alloc ?_ _)); exact BK549.out) hb); have n2_ := Aside0.mk (blk_below (g := gb555) (o := .cells #[.int .i64 ((rd_T57 l1 x20_1).f0), .int .i64 ((rd_T57 l1 x20_1).f1), .int .i64 ((rd_T57 l1 x20_1).f2), .int .i64 ((rd_T57 l1 x20_1).f3)] 57 (0, 0)) (by (with_reducible repeat (first | refine blk_drewN ?_ _ | refine blk_drew ?_ | refine blk_alloc ?_ _)); refine blk_put (cs := #[.int .i64 ((rd_T57 l1 x20_1).f0), .int .i64 ((rd_T57 l1 x20_1).f1), .int .i64 ((rd_T57 l1 x20_1).f2), .int .i64 0]) ?_ 3 _ rfl; (with_reducible repeat (first | refine blk_drewN ?_ _ | refine blk_drew ?_ | refine blk_alloc ?_ _)); refine blk_put (cs := #[.int .i64 ((rd_T57 l1 x20_1).f0), .int .i64 ((rd_T57 l1 x20_1).f1), .int .i64 0, .int .i64 0]) ?_ 2 _ rfl; (with_reducible repeat (first | refine blk_drewN ?_ _ | refine blk_drew ?_ | refine blk_alloc ?_ _)); refine blk_put (cs := #[.int .i64 ((rd_T57 l1 x20_1).f0), .int .i64 0, .int .i64 0, .int .i64 0]) ?_ 1 _ rfl; (with_reducible repeat (first | refine blk_drewN ?_ _ | refine blk_drew ?_ | refine blk_alloc ?_ _)); refine blk_put (cs := #[.int .i64 0, .int .i64 0, .int .i64 0, .int .i64 0]) ?_ 0 _ rfl; (with_reducible repeat (first | refine blk_drewN ?_ _ | refine blk_drew ?_ | refine blk_alloc ?_ _)); exact BK555.out) hb); have n3_ := Aside0.mk (below_step (by repeat (first | (with_reducible first | exact HB.out | apply below_alloc | apply pw_below_drewN | apply below_drew1 | refine below_set ?_ GE547.out | refine below_set ?_ GE549.out | refine below_set ?_ GE555.out) | exact HB.out)) hb); clear BK547; clear BK549; clear BK555; clear HB; have BK547 := n0_; have BK549 := n1_; have BK555 := n2_; have HB := n3_; clear n0_ n1_ n2_ n3_; (try clear hb); (try clear hb2); (try clear hk); (try clear hi)) | ((with_reducible refine gate_dst (N := 9) rfl ?_); refine box_event ?hg (N := 9) ?hd (cs := #[.int .i64 0, .int .i64 0]) (t := 25) ?hr ?_; (case hd => rfl); (case hg => rfl); (case hr => first | (go_simp; done) | (go_simp; rfl)); intro gb558 hg w29 hbox hb; have n0_ := Aside0.mk (blk_below (g := gb547) (o := .cells #[.int .i64 a0_0, .int .i64 a0_1, .int .i64 a0_2, .int .i64 a0_3, .int .i64 a0_4, .int .i64 a0_5, .int .i64 a0_6, .int .i64 a0_7, .int .i64 a0_8, .int .i64 a0_9, .int .i64 a0_10, .int .i64 a0_11] 23 (0, 0)) (by (with_reducible repeat (first | refine blk_drewN ?_ _ | refine blk_drew ?_ | refine blk_alloc ?_ _)); exact BK547.out) hb); have n1_ := Aside0.mk (blk_below (g := gb549) (o := .cells #[.int .i64 x550000_1, .int .i64 x550001_1] 25 (0, 0)) (by (with_reducible repeat (first | refine blk_drewN ?_ _ | refine blk_drew ?_ | refine blk_alloc ?_ _)); exact BK549.out) hb); have n2_ := Aside0.mk (blk_below (g := gb555) (o := .cells #[.int .i64 ((rd_T57 l1 x20_1).f0), .int .i64 ((rd_T57 l1 x20_1).f1), .int .i64 ((rd_T57 l1 x20_1).f2), .int .i64 ((rd_T57 l1 x20_1).f3)] 57 (0, 0)) (by (with_reducible repeat (first | refine blk_drewN ?_ _ | refine blk_drew ?_ | refine blk_alloc ?_ _)); exact BK555.out) hb); have n3_ := Aside0.mk (below_step (by repeat (first | (with_reducible first | exact HB.out | apply below_alloc | apply pw_below_drewN | apply below_drew1 | refine below_set ?_ GE547.out | refine below_set ?_ GE549.out | refine below_set ?_ GE555.out) | exact HB.out)) hb); have n4_ := Aside0.mk (hbox); have n5_ := Aside0.mk ((by rw [hg]; exact (below_size (by repeat (first | (with_reducible first | exact HB.out | apply below_alloc | apply pw_below_drewN | apply below_drew1 | refine below_set ?_ GE547.out | refine below_set ?_ GE549.out | refine below_set ?_ GE555.out) | exact HB.out))) : w.heap.size ≤ gb558)); have n6_ := Aside0.mk ((by rw [hg]; exact (below_size (by repeat (first | (with_reducible first | exact HB.out | apply below_alloc | apply pw_below_drewN | apply below_drew1 | refine below_set ?_ GE547.out | refine below_set ?_ GE549.out | refine below_set ?_ GE555.out) | exact HB.out))) : w.heap.size ≤ gb558)); have n7_ := Aside0.mk ((by rw [hg]; exact Nat.ne_of_lt (blk_lt (g := gb547) (o := .cells #[.int .i64 a0_0, .int .i64 a0_1, .int .i64 a0_2, .int .i64 a0_3, .int .i64 a0_4, .int .i64 a0_5, .int .i64 a0_6, .int .i64 a0_7, .int .i64 a0_8, .int .i64 a0_9, .int .i64 a0_10, .int .i64 a0_11] 23 (0, 0)) (by (with_reducible repeat (first | refine blk_drewN ?_ _ | refine blk_drew ?_ | refine blk_alloc ?_ _)); exact BK547.out)) : gb547 ≠ gb558)); have n8_ := Aside0.mk ((by rw [hg]; exact Nat.ne_of_gt (blk_lt (g := gb547) (o := .cells #[.int .i64 a0_0, .int .i64 a0_1, .int .i64 a0_2, .int .i64 a0_3, .int .i64 a0_4, .int .i64 a0_5, .int .i64 a0_6, .int .i64 a0_7, .int .i64 a0_8, .int .i64 a0_9, .int .i64 a0_10, .int .i64 a0_11] 23 (0, 0)) (by (with_reducible repeat (first | refine blk_drewN ?_ _ | refine blk_drew ?_ | refine blk_alloc ?_ _)); exact BK547.out)) : gb558 ≠ gb547)); have n9_ := Aside0.mk ((by rw [hg]; exact Nat.ne_of_lt (blk_lt (g := gb549) (o := .cells #[.int .i64 x550000_1, .int .i64 x550001_1] 25 (0, 0)) (by (with_reducible repeat (first | refine blk_drewN ?_ _ | refine blk_drew ?_ | refine blk_alloc ?_ _)); exact BK549.out)) : gb549 ≠ gb558)); have n10_ := Aside0.mk ((by rw [hg]; exact Nat.ne_of_gt (blk_lt (g := gb549) (o := .cells #[.int .i64 x550000_1, .int .i64 x550001_1] 25 (0, 0)) (by (with_reducible repeat (first | refine blk_drewN ?_ _ | refine blk_drew ?_ | refine blk_alloc ?_ _)); exact BK549.out)) : gb558 ≠ gb549)); have n11_ := Aside0.mk ((by rw [hg]; exact Nat.ne_of_lt (blk_lt (g := gb555) (o := .cells #[.int .i64 ((rd_T57 l1 x20_1).f0), .int .i64 ((rd_T57 l1 x20_1).f1), .int .i64 ((rd_T57 l1 x20_1).f2), .int .i64 ((rd_T57 l1 x20_1).f3)] 57 (0, 0)) (by (with_reducible repeat (first | refine blk_drewN ?_ _ | refine blk_drew ?_ | refine blk_alloc ?_ _)); exact BK555.out)) : gb555 ≠ gb558)); have n12_ := Aside0.mk ((by rw [hg]; exact Nat.ne_of_gt (blk_lt (g := gb555) (o := .cells #[.int .i64 ((rd_T57 l1 x20_1).f0), .int .i64 ((rd_T57 l1 x20_1).f1), .int .i64 ((rd_T57 l1 x20_1).f2), .int .i64 ((rd_T57 l1 x20_1).f3)] 57 (0, 0)) (by (with_reducible repeat (first | refine blk_drewN ?_ _ | refine blk_drew ?_ | refine blk_alloc ?_ _)); exact BK555.out)) : gb558 ≠ gb555)); clear BK547; clear BK549; clear BK555; clear HB; have BK547 := n0_; have BK549 := n1_; have BK555 := n2_; have HB := n3_; have BK558 := n4_; have GW558 := n5_; have GE558 := n6_; have NB547_558 := n7_; have NB558_547 := n8_; have NB549_558 := n9_; have NB558_549 := n10_; have NB555_558 := n11_; have NB558_555 := n12_; clear n0_ n1_ n2_ n3_ n4_ n5_ n6_ n7_ n8_ n9_ n10_ n11_ n12_; clear hb hbox hg; have hnb30 := NB558_547.out; have hnc30 := NB547_558.out; have hnb31 := NB558_549.out; have hnc31 := NB549_558.out; have hnb32 := NB558_555.out; have hnc32 := NB555_558.out; have hcz33_0 : w29.cell? ⟨gb558, 0, none⟩ = some (.int .i64 0) := (blk_cell BK558.out 0).trans rfl; have hcz33_1 : w29.cell? ⟨gb558, 1, none⟩ = some (.int .i64 0) := (blk_cell BK558.out 1).trans rfl; have hfz33_0 := blk_frozen BK558.out 0; have hfz33_1 := blk_frozen BK558.out 1))
           have n0_ : Aside0 (((w29.setCell ⟨gb558, 0, none⟩ (.int .i64 t556)).setCell ⟨gb558, 1, none⟩ (.int .i64 t557)).heap[gb547]? = some (.cells #[.int .i64 a0_0, .int .i64 a0_1, .int .i64 a0_2, .int .i64 a0_3, .int .i64 a0_4, .int .i64 a0_5, .int .i64 a0_6, .int .i64 a0_7, .int .i64 a0_8, .int .i64 a0_9, .int .i64 a0_10, .int .i64 a0_11] 23 (0, 0))) := ⟨by (with_reducible repeat (first | refine blk_drewN ?_ _ | refine blk_drew ?_ | refine blk_alloc ?_ _)); refine blk_far ?_ NB547_558.out _; (with_reducible repeat (first | refine blk_drewN ?_ _ | refine blk_drew ?_ | refine blk_alloc ?_ _)); refine blk_far ?_ NB547_558.out _; (with_reducible repeat (first | refine blk_drewN ?_ _ | refine blk_drew ?_ | refine blk_alloc ?_ _)); exact BK547.out⟩
           have n1_ : Aside0 (((w29.setCell ⟨gb558, 0, none⟩ (.int .i64 t556)).setCell ⟨gb558, 1, none⟩ (.int .i64 t557)).heap[gb549]? = some (.cells #[.int .i64 x550000_1, .int .i64 x550001_1] 25 (0, 0))) := ⟨by (with_reducible repeat (first | refine blk_drewN ?_ _ | refine blk_drew ?_ | refine blk_alloc ?_ _)); refine blk_far ?_ NB549_558.out _; (with_reducible repeat (first | refine blk_drewN ?_ _ | refine blk_drew ?_ | refine blk_alloc ?_ _)); refine blk_far ?_ NB549_558.out _; (with_reducible repeat (first | refine blk_drewN ?_ _ | refine blk_drew ?_ | refine blk_alloc ?_ _)); exact BK549.out⟩
           have n2_ : Aside0 (((w29.setCell ⟨gb558, 0, none⟩ (.int .i64 t556)).setCell ⟨gb558, 1, none⟩ (.int .i64 t557)).heap[gb555]? = some (.cells #[.int .i64 ((rd_T57 l1 x20_1).f0), .int .i64 ((rd_T57 l1 x20_1).f1), .int .i64 ((rd_T57 l1 x20_1).f2), .int .i64 ((rd_T57 l1 x20_1).f3)] 57 (0, 0))) := ⟨by (with_reducible repeat (first | refine blk_drewN ?_ _ | refine blk_drew ?_ | refine blk_alloc ?_ _)); refine blk_far ?_ NB555_558.out _; (with_reducible repeat (first | refine blk_drewN ?_ _ | refine blk_drew ?_ | refine blk_alloc ?_ _)); refine blk_far ?_ NB555_558.out _; (with_reducible repeat (first | refine blk_drewN ?_ _ | refine blk_drew ?_ | refine blk_alloc ?_ _)); exact BK555.out⟩
           have n3_ : Aside0 (((w29.setCell ⟨gb558, 0, none⟩ (.int .i64 t556)).setCell ⟨gb558, 1, none⟩ (.int .i64 t557)).heap[gb558]? = some (.cells #[.int .i64 t556, .int .i64 t557] 25 (0, 0))) := ⟨by (with_reducible repeat (first | refine blk_drewN ?_ _ | refine blk_drew ?_ | refine blk_alloc ?_ _)); refine blk_put (cs := #[.int .i64 t556, .int .i64 0]) ?_ 1 _ rfl; (with_reducible repeat (first | refine blk_drewN ?_ _ | refine blk_drew ?_ | refine blk_alloc ?_ _)); refine blk_put (cs := #[.int .i64 0, .int .i64 0]) ?_ 0 _ rfl; (with_reducible repeat (first | refine blk_drewN ?_ _ | refine blk_drew ?_ | refine blk_alloc ?_ _)); exact BK558.out⟩
           have n4_ : Aside0 (Below w.heap.size w ((w29.setCell ⟨gb558, 0, none⟩ (.int .i64 t556)).setCell ⟨gb558, 1, none⟩ (.int .i64 t557))) := ⟨by repeat (first | (with_reducible first | exact HB.out | apply below_alloc | apply pw_below_drewN | apply below_drew1 | refine below_set ?_ GE547.out | refine below_set ?_ GE549.out | refine below_set ?_ GE555.out | refine below_set ?_ GE558.out) | exact HB.out)⟩
           (try clear BK547)
           (try clear BK549)
           (try clear BK555)
           (try clear BK558)
           (try clear HB)
           generalize ((w29.setCell ⟨gb558, 0, none⟩ (.int .i64 t556)).setCell ⟨gb558, 1, none⟩ (.int .i64 t557)) = w34 at n0_ n1_ n2_ n3_ n4_ ⊢
           have BK547 := n0_
           have BK549 := n1_
           have BK555 := n2_
           have BK558 := n3_
           have HB := n4_
           clear n0_ n1_ n2_ n3_ n4_
           have n0_ := Aside0.mk (blk_drew BK547.out)
           have n1_ := Aside0.mk (blk_drew BK549.out)
           have n2_ := Aside0.mk (blk_drew BK555.out)
           have n3_ := Aside0.mk (blk_drew BK558.out)
           have n4_ := Aside0.mk (below_drew1 HB.out)
           clear BK547
           clear BK549
           clear BK555
           clear BK558
           clear HB
           have BK547 := n0_
           have BK549 := n1_
           have BK555 := n2_
           have BK558 := n3_
           have HB := n4_
           clear n0_ n1_ n2_ n3_ n4_
           refine start_ (n := 16) (S := fun w' => w'.cell? ⟨gb558, 0, none⟩ = some (.int .i64 t556) ∧ w'.cell? ⟨gb558, 1, none⟩ = some (.int .i64 t557) ∧ w'.cell? ⟨gb549, 0, none⟩ = some (.int .i64 x550000_1) ∧ w'.cell? ⟨gb549, 1, none⟩ = some (.int .i64 x550001_1)) (ds := []) #[false, false, false, false, false, false, false, false, false, false, false, false, false, false, false, false] (by kernel_rfl) rfl rfl ⟨(blk_cell BK558.out 0).trans rfl, (blk_cell BK558.out 1).trans rfl, (blk_cell BK549.out 0).trans rfl, (blk_cell BK549.out 1).trans rfl⟩ (fun hHeld => ?_); refine with_tabW clepsydralaw10_ProbeBest.tab10 clepsydralaw10_ProbeBest.bits10 (fun HT_ HW_ => ?_)
           generalize w34.drew = w35 at BK547 BK549 BK555 BK558 HB hHeld ⊢
           refine pure_ (i := 0) (N := some 27) (v := ?_) (a' := ?_) #[true, false, false, false, false, false, false, false, false, false, false, false, false, false, false, false] rfl rfl (any_of HT_.out (by kernel_rfl)) (fun _ _ _ h => h) (Or.inl ⟨by rfl, ?_⟩) ?_ ?_
           rotate_left
           ·intro w'
            go_simp
            with_reducible rfl
           rotate_left
           ·simp only [Act.put, List.setIfInBounds_toArray, List.set_cons_zero, List.set_cons_succ, i64_w, i32_w]
            rfl
           refine pure_ (i := 2) (N := some 29) (v := ?_) (a' := ?_) #[true, false, true, false, false, false, false, false, false, false, false, false, false, false, false, false] rfl rfl (any_of HT_.out (by kernel_rfl)) (fun _ _ _ h => h) (Or.inl ⟨by rfl, ?_⟩) ?_ ?_
           rotate_left
           ·intro w'
            go_simp
            with_reducible rfl
           rotate_left
           ·simp only [Act.put, List.setIfInBounds_toArray, List.set_cons_zero, List.set_cons_succ, i64_w, i32_w]
            rfl
           refine take_ (i := 1) (N := some 28) (v := ?_) (a' := ?_) #[true, true, true, false, false, false, false, false, false, false, false, false, false, false, false, false] rfl rfl (take_ofW HT_.out HW_.out (by kernel_rfl)) (fun _ _ _ h => h) (Or.inl ⟨by rfl, ?_⟩) hHeld ?_ ?_
           rotate_left
           ·rintro w' ⟨s0, s1, s2, s3⟩
            go_simp
            with_reducible rfl
           rotate_left
           ·simp only [Act.put, List.setIfInBounds_toArray, List.set_cons_zero, List.set_cons_succ, i64_w, i32_w]
            rfl
           refine take_ (i := 3) (N := some 30) (v := ?_) (a' := ?_) #[true, true, true, true, false, false, false, false, false, false, false, false, false, false, false, false] rfl rfl (take_ofW HT_.out HW_.out (by kernel_rfl)) (fun _ _ _ h => h) (Or.inl ⟨by rfl, ?_⟩) hHeld ?_ ?_
           rotate_left
           ·rintro w' ⟨s0, s1, s2, s3⟩
            go_simp
            with_reducible rfl
           rotate_left
           ·simp only [Act.put, List.setIfInBounds_toArray, List.set_cons_zero, List.set_cons_succ, i64_w, i32_w]
            rfl
           refine pure_ (i := 4) (N := some 31) (v := ?_) (a' := ?_) #[true, true, true, true, true, false, false, false, false, false, false, false, false, false, false, false] rfl rfl (any_of HT_.out (by kernel_rfl)) (fun _ _ _ h => h) (Or.inl ⟨by rfl, ?_⟩) ?_ ?_
           rotate_left
           ·intro w'
            go_simp
            with_reducible rfl
           rotate_left
           ·simp only [Act.put, List.setIfInBounds_toArray, List.set_cons_zero, List.set_cons_succ, i64_w, i32_w]
            rfl
           refine pure_ (i := 5) (N := some 32) (v := ?_) (a' := ?_) #[true, true, true, true, true, true, false, false, false, false, false, false, false, false, false, false] rfl rfl (any_of HT_.out (by kernel_rfl)) (fun _ _ _ h => h) (Or.inl ⟨by rfl, ?_⟩) ?_ ?_
           rotate_left
           ·intro w'
            go_simp
            with_reducible rfl
           rotate_left
           ·simp only [Act.put, List.setIfInBounds_toArray, List.set_cons_zero, List.set_cons_succ, i64_w, i32_w]
            rfl
           refine pure_ (i := 6) (N := some 33) (v := ?_) (a' := ?_) #[true, true, true, true, true, true, true, false, false, false, false, false, false, false, false, false] rfl rfl (any_of HT_.out (by kernel_rfl)) (fun _ _ _ h => h) (Or.inl ⟨by rfl, ?_⟩) ?_ ?_
           rotate_left
           ·intro w'
            go_simp
            with_reducible rfl
           rotate_left
           ·simp only [Act.put, List.setIfInBounds_toArray, List.set_cons_zero, List.set_cons_succ, i64_w, i32_w]
            rfl
           refine pure_ (i := 7) (N := some 34) (v := ?_) (a' := ?_) #[true, true, true, true, true, true, true, true, false, false, false, false, false, false, false, false] rfl rfl (any_of HT_.out (by kernel_rfl)) (fun _ _ _ h => h) (Or.inl ⟨by rfl, ?_⟩) ?_ ?_
           rotate_left
           ·intro w'
            go_simp
            with_reducible rfl
           rotate_left
           ·simp only [Act.put, List.setIfInBounds_toArray, List.set_cons_zero, List.set_cons_succ, i64_w, i32_w]
            rfl
           refine pure_ (i := 8) (N := some 35) (v := ?_) (a' := ?_) #[true, true, true, true, true, true, true, true, true, false, false, false, false, false, false, false] rfl rfl (any_of HT_.out (by kernel_rfl)) (fun _ _ _ h => h) (Or.inl ⟨by rfl, ?_⟩) ?_ ?_
           rotate_left
           ·intro w'
            go_simp
            with_reducible rfl
           rotate_left
           ·simp only [Act.put, List.setIfInBounds_toArray, List.set_cons_zero, List.set_cons_succ, i64_w, i32_w]
            rfl
           refine take_ (i := 9) (N := some 36) (v := ?_) (a' := ?_) #[true, true, true, true, true, true, true, true, true, true, false, false, false, false, false, false] rfl rfl (take_ofW HT_.out HW_.out (by kernel_rfl)) (fun _ _ _ h => h) (Or.inl ⟨by rfl, ?_⟩) hHeld ?_ ?_
           rotate_left
           ·rintro w' ⟨s0, s1, s2, s3⟩
            go_simp
            with_reducible rfl
           rotate_left
           ·simp only [Act.put, List.setIfInBounds_toArray, List.set_cons_zero, List.set_cons_succ, i64_w, i32_w]
            rfl
           refine take_ (i := 11) (N := some 38) (v := ?_) (a' := ?_) #[true, true, true, true, true, true, true, true, true, true, false, true, false, false, false, false] rfl rfl (take_ofW HT_.out HW_.out (by kernel_rfl)) (fun _ _ _ h => h) (Or.inl ⟨by rfl, ?_⟩) hHeld ?_ ?_
           rotate_left
           ·rintro w' ⟨s0, s1, s2, s3⟩
            go_simp
            with_reducible rfl
           rotate_left
           ·simp only [Act.put, List.setIfInBounds_toArray, List.set_cons_zero, List.set_cons_succ, i64_w, i32_w]
            rfl
           refine one_ (i := 10) (N := some 37) #[true, true, true, true, true, true, true, true, true, true, true, true, false, false, false, false] rfl rfl (one_of HT_.out (by kernel_rfl)) (by decide) (fun K hK => ?_)
           refine goes_ Try.func36 (by kernel_rfl) rfl #[.agg #[.int .i64 t556, .int .i64 t557]] (by rfl) rfl rfl (by (try simp only [List.map_toArray, List.map_cons, List.map_nil]); first | done | rfl | (simp only [List.length_drop, List.length_take]; rfl)) ?_
           with_reducible refine (clepsydraref03_Wide.calls t556 t557 t559 _ A19.out).mono ?_
           rintro e w36 ⟨rfl, hb⟩
           refine ⟨_, rfl, ?_⟩
           have n0_ := Aside0.mk (blk_below (g := gb547) (o := .cells #[.int .i64 a0_0, .int .i64 a0_1, .int .i64 a0_2, .int .i64 a0_3, .int .i64 a0_4, .int .i64 a0_5, .int .i64 a0_6, .int .i64 a0_7, .int .i64 a0_8, .int .i64 a0_9, .int .i64 a0_10, .int .i64 a0_11] 23 (0, 0)) (by (with_reducible repeat (first | refine blk_drewN ?_ _ | refine blk_drew ?_ | refine blk_alloc ?_ _)); exact BK547.out) hb)
           have n1_ := Aside0.mk (blk_below (g := gb549) (o := .cells #[.int .i64 x550000_1, .int .i64 x550001_1] 25 (0, 0)) (by (with_reducible repeat (first | refine blk_drewN ?_ _ | refine blk_drew ?_ | refine blk_alloc ?_ _)); exact BK549.out) hb)
           have n2_ := Aside0.mk (blk_below (g := gb555) (o := .cells #[.int .i64 ((rd_T57 l1 x20_1).f0), .int .i64 ((rd_T57 l1 x20_1).f1), .int .i64 ((rd_T57 l1 x20_1).f2), .int .i64 ((rd_T57 l1 x20_1).f3)] 57 (0, 0)) (by (with_reducible repeat (first | refine blk_drewN ?_ _ | refine blk_drew ?_ | refine blk_alloc ?_ _)); exact BK555.out) hb)
           have n3_ := Aside0.mk (blk_below (g := gb558) (o := .cells #[.int .i64 t556, .int .i64 t557] 25 (0, 0)) (by (with_reducible repeat (first | refine blk_drewN ?_ _ | refine blk_drew ?_ | refine blk_alloc ?_ _)); exact BK558.out) hb)
           have n4_ := Aside0.mk (below_step (by repeat (first | (with_reducible first | exact HB.out | apply below_alloc | apply pw_below_drewN | apply below_drew1 | refine below_set ?_ GE547.out | refine below_set ?_ GE549.out | refine below_set ?_ GE555.out | refine below_set ?_ GE558.out) | exact HB.out)) hb)
           clear BK547
           clear BK549
           clear BK555
           clear BK558
           clear HB
           have BK547 := n0_
           have BK549 := n1_
           have BK555 := n2_
           have BK558 := n3_
           have HB := n4_
           clear n0_ n1_ n2_ n3_ n4_
           (try clear hb)
           (try clear hb2)
           (try clear hk)
           (try clear hi)
           refine hK.out _ _ ⟨(blk_cell BK558.out 0).trans rfl, (blk_cell BK558.out 1).trans rfl, (blk_cell BK549.out 0).trans rfl, (blk_cell BK549.out 1).trans rfl⟩ (fun hHeld => ?_)
           clear hK K
           refine norm_ (a' := ?_) ?_ ?_
           rotate_left
           ·show Act.put _ (some 37) _ = _
            simp only [Act.put, List.setIfInBounds_toArray, List.set_cons_zero, List.set_cons_succ, i64_w, i32_w]
            rfl
           refine one_ (i := 12) (N := some 39) #[true, true, true, true, true, true, true, true, true, true, true, true, true, false, false, false] rfl rfl (one_of HT_.out (by kernel_rfl)) (by decide) (fun K hK => ?_)
           refine goes_ Try.func36 (by kernel_rfl) rfl #[.agg #[.int .i64 x550000_1, .int .i64 x550001_1]] (by rfl) rfl rfl (by (try simp only [List.map_toArray, List.map_cons, List.map_nil]); first | done | rfl | (simp only [List.length_drop, List.length_take]; rfl)) ?_
           with_reducible refine (clepsydraref03_Wide.calls x550000_1 x550001_1 t560 _ A20.out).mono ?_
           rintro e w37 ⟨rfl, hb⟩
           refine ⟨_, rfl, ?_⟩
           have n0_ := Aside0.mk (blk_below (g := gb547) (o := .cells #[.int .i64 a0_0, .int .i64 a0_1, .int .i64 a0_2, .int .i64 a0_3, .int .i64 a0_4, .int .i64 a0_5, .int .i64 a0_6, .int .i64 a0_7, .int .i64 a0_8, .int .i64 a0_9, .int .i64 a0_10, .int .i64 a0_11] 23 (0, 0)) (by (with_reducible repeat (first | refine blk_drewN ?_ _ | refine blk_drew ?_ | refine blk_alloc ?_ _)); exact BK547.out) hb)
           have n1_ := Aside0.mk (blk_below (g := gb549) (o := .cells #[.int .i64 x550000_1, .int .i64 x550001_1] 25 (0, 0)) (by (with_reducible repeat (first | refine blk_drewN ?_ _ | refine blk_drew ?_ | refine blk_alloc ?_ _)); exact BK549.out) hb)
           have n2_ := Aside0.mk (blk_below (g := gb555) (o := .cells #[.int .i64 ((rd_T57 l1 x20_1).f0), .int .i64 ((rd_T57 l1 x20_1).f1), .int .i64 ((rd_T57 l1 x20_1).f2), .int .i64 ((rd_T57 l1 x20_1).f3)] 57 (0, 0)) (by (with_reducible repeat (first | refine blk_drewN ?_ _ | refine blk_drew ?_ | refine blk_alloc ?_ _)); exact BK555.out) hb)
           have n3_ := Aside0.mk (blk_below (g := gb558) (o := .cells #[.int .i64 t556, .int .i64 t557] 25 (0, 0)) (by (with_reducible repeat (first | refine blk_drewN ?_ _ | refine blk_drew ?_ | refine blk_alloc ?_ _)); exact BK558.out) hb)
           have n4_ := Aside0.mk (below_step (by repeat (first | (with_reducible first | exact HB.out | apply below_alloc | apply pw_below_drewN | apply below_drew1 | refine below_set ?_ GE547.out | refine below_set ?_ GE549.out | refine below_set ?_ GE555.out | refine below_set ?_ GE558.out) | exact HB.out)) hb)
           clear BK547
           clear BK549
           clear BK555
           clear BK558
           clear HB
           have BK547 := n0_
           have BK549 := n1_
           have BK555 := n2_
           have BK558 := n3_
           have HB := n4_
           clear n0_ n1_ n2_ n3_ n4_
           (try clear hb)
           (try clear hb2)
           (try clear hk)
           (try clear hi)
           refine hK.out _ _ ⟨(blk_cell BK558.out 0).trans rfl, (blk_cell BK558.out 1).trans rfl, (blk_cell BK549.out 0).trans rfl, (blk_cell BK549.out 1).trans rfl⟩ (fun hHeld => ?_)
           clear hK K
           refine norm_ (a' := ?_) ?_ ?_
           rotate_left
           ·show Act.put _ (some 39) _ = _
            simp only [Act.put, List.setIfInBounds_toArray, List.set_cons_zero, List.set_cons_succ, i64_w, i32_w]
            rfl
           refine pure_ (i := 13) (N := some 40) (v := ?_) (a' := ?_) #[true, true, true, true, true, true, true, true, true, true, true, true, true, true, false, false] rfl rfl (any_of HT_.out (by kernel_rfl)) (fun _ _ _ h => h) (Or.inl ⟨by rfl, ?_⟩) ?_ ?_
           rotate_left
           ·intro w'
            go_simp
            with_reducible rfl
           rotate_left
           ·simp only [Act.put, List.setIfInBounds_toArray, List.set_cons_zero, List.set_cons_succ, i64_w, i32_w]
            rfl
           refine pure_ (i := 14) (N := some 41) (v := ?_) (a' := ?_) #[true, true, true, true, true, true, true, true, true, true, true, true, true, true, true, false] rfl rfl (any_of HT_.out (by kernel_rfl)) (fun _ _ _ h => h) (Or.inl ⟨by rfl, ?_⟩) ?_ ?_
           rotate_left
           ·intro w'
            go_simp
            with_reducible rfl
           rotate_left
           ·simp only [Act.put, List.setIfInBounds_toArray, List.set_cons_zero, List.set_cons_succ, i64_w, i32_w]
            rfl
           refine pure_ (i := 15) (N := some 42) (v := ?_) (a' := ?_) #[true, true, true, true, true, true, true, true, true, true, true, true, true, true, true, true] rfl rfl (any_of HT_.out (by kernel_rfl)) (fun _ _ _ h => h) (Or.inl ⟨by rfl, ?_⟩) ?_ ?_
           rotate_left
           ·intro w'
            go_simp
            with_reducible rfl
           rotate_left
           ·simp only [Act.put, List.setIfInBounds_toArray, List.set_cons_zero, List.set_cons_succ, i64_w, i32_w]
            rfl
           refine done_ (done_of HT_.out (by kernel_rfl)) ?_
           have hcz38_0 : w37.cell? ⟨gb558, 0, none⟩ = some (.int .i64 t556) := (blk_cell BK558.out 0).trans rfl
           have hcz38_1 : w37.cell? ⟨gb558, 1, none⟩ = some (.int .i64 t557) := (blk_cell BK558.out 1).trans rfl
           have hfz38_0 := blk_frozen BK558.out 0
           have hfz38_1 := blk_frozen BK558.out 1
           have hcz39_0 : w37.cell? ⟨gb549, 0, none⟩ = some (.int .i64 x550000_1) := (blk_cell BK549.out 0).trans rfl
           have hcz39_1 : w37.cell? ⟨gb549, 1, none⟩ = some (.int .i64 x550001_1) := (blk_cell BK549.out 1).trans rfl
           have hfz39_0 := blk_frozen BK549.out 0
           have hfz39_1 := blk_frozen BK549.out 1
           try go_wp2
           go_roundg k1
           case measure => have := HK1.out; omega
           case rel => exact ⟨(true), (wrap64 (x20_1 + 1)), (t556), (t557), (by first | rfl | (simp; done) | (simp [*]; done) | (simp [Int.tdiv_eq_ediv_of_nonneg]; done) | (simp [Go.RowKit.wrap64]; done) | (simp [*, Go.RowKit.wrap64]; done)), (by first | rfl | (simp; done) | (simp [*]; done) | (simp [Int.tdiv_eq_ediv_of_nonneg]; done) | (simp [Go.RowKit.wrap64]; done) | (simp [*, Go.RowKit.wrap64]; done)), H', ⟨by have := HK1.out; omega⟩, ⟨by (with_reducible repeat (first | refine blk_drewN ?_ _ | refine blk_drew ?_ | refine blk_alloc ?_ _)); refine blk_far ?_ NB547_549.out _; (with_reducible repeat (first | refine blk_drewN ?_ _ | refine blk_drew ?_ | refine blk_alloc ?_ _)); refine blk_far ?_ NB547_549.out _; (with_reducible repeat (first | refine blk_drewN ?_ _ | refine blk_drew ?_ | refine blk_alloc ?_ _)); exact BK547.out⟩, ⟨by (with_reducible repeat (first | refine blk_drewN ?_ _ | refine blk_drew ?_ | refine blk_alloc ?_ _)); refine blk_put (cs := #[.int .i64 t556, .int .i64 x550001_1]) ?_ 1 _ rfl; (with_reducible repeat (first | refine blk_drewN ?_ _ | refine blk_drew ?_ | refine blk_alloc ?_ _)); refine blk_put (cs := #[.int .i64 x550000_1, .int .i64 x550001_1]) ?_ 0 _ rfl; (with_reducible repeat (first | refine blk_drewN ?_ _ | refine blk_drew ?_ | refine blk_alloc ?_ _)); exact BK549.out⟩, ⟨by repeat (first | (with_reducible first | exact HB.out | apply below_alloc | apply pw_below_drewN | apply below_drew1 | refine below_set ?_ GE547.out | refine below_set ?_ GE549.out | refine below_set ?_ GE555.out | refine below_set ?_ GE558.out) | exact HB.out)⟩⟩
          ·rw [if_neg c21] at H
           have c21b0 : decide (t559 < t560) = false := decide_eq_false c21
           clear c21
           have H' := Aside0.mk H
           clear H
           have p554 : 0 ≤ (x20_1 : Int) := of_decide_eq_true (by first | (with_reducible assumption) | assumption)
           have q554 : x20_1 < (l1.length : Int) := of_decide_eq_true (by first | (with_reducible assumption) | assumption)
           obtain ⟨ad554, e554, hx554_0, hx554_1, hx554_2, hx554_3⟩ := at_T57 HR1.out x20_1 p554 q554
           cases e554
           replace hx554_0 := (HB.out.cell (World.block_lt_of_cell? w _ hx554_0)).trans hx554_0
           replace hx554_1 := (HB.out.cell (World.block_lt_of_cell? w _ hx554_1)).trans hx554_1
           replace hx554_2 := (HB.out.cell (World.block_lt_of_cell? w _ hx554_2)).trans hx554_2
           replace hx554_3 := (HB.out.cell (World.block_lt_of_cell? w _ hx554_3)).trans hx554_3
           replace p554 := eq_true p554
           replace q554 := eq_true q554
           try go_wp2_with (first | ((with_reducible refine gate_dst (N := 8) rfl ?_); refine box_event ?hg (N := 8) ?hd (cs := #[.int .i64 0, .int .i64 0, .int .i64 0, .int .i64 0]) (t := 57) ?hr ?_; (case hd => rfl); (case hg => rfl); (case hr => first | (go_simp; done) | (go_simp; rfl)); intro gb555 hg w40 hbox hb; have n0_ := Aside0.mk (blk_below (g := gb547) (o := .cells #[.int .i64 a0_0, .int .i64 a0_1, .int .i64 a0_2, .int .i64 a0_3, .int .i64 a0_4, .int .i64 a0_5, .int .i64 a0_6, .int .i64 a0_7, .int .i64 a0_8, .int .i64 a0_9, .int .i64 a0_10, .int .i64 a0_11] 23 (0, 0)) (by (with_reducible repeat (first | refine blk_drewN ?_ _ | refine blk_drew ?_ | refine blk_alloc ?_ _)); exact BK547.out) hb); have n1_ := Aside0.mk (blk_below (g := gb549) (o := .cells #[.int .i64 x550000_1, .int .i64 x550001_1] 25 (0, 0)) (by (with_reducible repeat (first | refine blk_drewN ?_ _ | refine blk_drew ?_ | refine blk_alloc ?_ _)); exact BK549.out) hb); have n2_ := Aside0.mk (below_step (by repeat (first | (with_reducible first | exact HB.out | apply below_alloc | apply pw_below_drewN | apply below_drew1 | refine below_set ?_ GE547.out | refine below_set ?_ GE549.out) | exact HB.out)) hb); have n3_ := Aside0.mk (hbox); have n4_ := Aside0.mk ((by rw [hg]; exact (below_size (by repeat (first | (with_reducible first | exact HB.out | apply below_alloc | apply pw_below_drewN | apply below_drew1 | refine below_set ?_ GE547.out | refine below_set ?_ GE549.out) | exact HB.out))) : w.heap.size ≤ gb555)); have n5_ := Aside0.mk ((by rw [hg]; exact (below_size (by repeat (first | (with_reducible first | exact HB.out | apply below_alloc | apply pw_below_drewN | apply below_drew1 | refine below_set ?_ GE547.out | refine below_set ?_ GE549.out) | exact HB.out))) : w.heap.size ≤ gb555)); have n6_ := Aside0.mk ((by rw [hg]; exact Nat.ne_of_lt (blk_lt (g := gb547) (o := .cells #[.int .i64 a0_0, .int .i64 a0_1, .int .i64 a0_2, .int .i64 a0_3, .int .i64 a0_4, .int .i64 a0_5, .int .i64 a0_6, .int .i64 a0_7, .int .i64 a0_8, .int .i64 a0_9, .int .i64 a0_10, .int .i64 a0_11] 23 (0, 0)) (by (with_reducible repeat (first | refine blk_drewN ?_ _ | refine blk_drew ?_ | refine blk_alloc ?_ _)); exact BK547.out)) : gb547 ≠ gb555)); have n7_ := Aside0.mk ((by rw [hg]; exact Nat.ne_of_gt (blk_lt (g := gb547) (o := .cells #[.int .i64 a0_0, .int .i64 a0_1, .int .i64 a0_2, .int .i64 a0_3, .int .i64 a0_4, .int .i64 a0_5, .int .i64 a0_6, .int .i64 a0_7, .int .i64 a0_8, .int .i64 a0_9, .int .i64 a0_10, .int .i64 a0_11] 23 (0, 0)) (by (with_reducible repeat (first | refine blk_drewN ?_ _ | refine blk_drew ?_ | refine blk_alloc ?_ _)); exact BK547.out)) : gb555 ≠ gb547)); have n8_ := Aside0.mk ((by rw [hg]; exact Nat.ne_of_lt (blk_lt (g := gb549) (o := .cells #[.int .i64 x550000_1, .int .i64 x550001_1] 25 (0, 0)) (by (with_reducible repeat (first | refine blk_drewN ?_ _ | refine blk_drew ?_ | refine blk_alloc ?_ _)); exact BK549.out)) : gb549 ≠ gb555)); have n9_ := Aside0.mk ((by rw [hg]; exact Nat.ne_of_gt (blk_lt (g := gb549) (o := .cells #[.int .i64 x550000_1, .int .i64 x550001_1] 25 (0, 0)) (by (with_reducible repeat (first | refine blk_drewN ?_ _ | refine blk_drew ?_ | refine blk_alloc ?_ _)); exact BK549.out)) : gb555 ≠ gb549)); clear BK547; clear BK549; clear HB; have BK547 := n0_; have BK549 := n1_; have HB := n2_; have BK555 := n3_; have GW555 := n4_; have GE555 := n5_; have NB547_555 := n6_; have NB555_547 := n7_; have NB549_555 := n8_; have NB555_549 := n9_; clear n0_ n1_ n2_ n3_ n4_ n5_ n6_ n7_ n8_ n9_; clear hb hbox hg; have hnb41 := NB555_547.out; have hnc41 := NB547_555.out; have hnb42 := NB555_549.out; have hnc42 := NB549_555.out; have hcz43_0 : w40.cell? ⟨gb555, 0, none⟩ = some (.int .i64 0) := (blk_cell BK555.out 0).trans rfl; have hcz43_1 : w40.cell? ⟨gb555, 1, none⟩ = some (.int .i64 0) := (blk_cell BK555.out 1).trans rfl; have hcz43_2 : w40.cell? ⟨gb555, 2, none⟩ = some (.int .i64 0) := (blk_cell BK555.out 2).trans rfl; have hcz43_3 : w40.cell? ⟨gb555, 3, none⟩ = some (.int .i64 0) := (blk_cell BK555.out 3).trans rfl; have hfz43_0 := blk_frozen BK555.out 0; have hfz43_1 := blk_frozen BK555.out 1; have hfz43_2 := blk_frozen BK555.out 2; have hfz43_3 := blk_frozen BK555.out 3; have hnb44 := NB547_549.out; have hnc44 := NB549_547.out; have hcz45_0 : w40.cell? ⟨gb547, 0, none⟩ = some (.int .i64 a0_0) := (blk_cell BK547.out 0).trans rfl; have hcz45_1 : w40.cell? ⟨gb547, 1, none⟩ = some (.int .i64 a0_1) := (blk_cell BK547.out 1).trans rfl; have hcz45_2 : w40.cell? ⟨gb547, 2, none⟩ = some (.int .i64 a0_2) := (blk_cell BK547.out 2).trans rfl; have hcz45_3 : w40.cell? ⟨gb547, 3, none⟩ = some (.int .i64 a0_3) := (blk_cell BK547.out 3).trans rfl; have hcz45_4 : w40.cell? ⟨gb547, 4, none⟩ = some (.int .i64 a0_4) := (blk_cell BK547.out 4).trans rfl; have hcz45_5 : w40.cell? ⟨gb547, 5, none⟩ = some (.int .i64 a0_5) := (blk_cell BK547.out 5).trans rfl; have hcz45_6 : w40.cell? ⟨gb547, 6, none⟩ = some (.int .i64 a0_6) := (blk_cell BK547.out 6).trans rfl; have hcz45_7 : w40.cell? ⟨gb547, 7, none⟩ = some (.int .i64 a0_7) := (blk_cell BK547.out 7).trans rfl; have hcz45_8 : w40.cell? ⟨gb547, 8, none⟩ = some (.int .i64 a0_8) := (blk_cell BK547.out 8).trans rfl; have hcz45_9 : w40.cell? ⟨gb547, 9, none⟩ = some (.int .i64 a0_9) := (blk_cell BK547.out 9).trans rfl; have hcz45_10 : w40.cell? ⟨gb547, 10, none⟩ = some (.int .i64 a0_10) := (blk_cell BK547.out 10).trans rfl; have hcz45_11 : w40.cell? ⟨gb547, 11, none⟩ = some (.int .i64 a0_11) := (blk_cell BK547.out 11).trans rfl; have hfz45_0 := blk_frozen BK547.out 0; have hfz45_1 := blk_frozen BK547.out 1; have hfz45_2 := blk_frozen BK547.out 2; have hfz45_3 := blk_frozen BK547.out 3; have hfz45_4 := blk_frozen BK547.out 4; have hfz45_5 := blk_frozen BK547.out 5; have hfz45_6 := blk_frozen BK547.out 6; have hfz45_7 := blk_frozen BK547.out 7; have hfz45_8 := blk_frozen BK547.out 8; have hfz45_9 := blk_frozen BK547.out 9; have hfz45_10 := blk_frozen BK547.out 10; have hfz45_11 := blk_frozen BK547.out 11) | ((with_reducible refine gate_callee (f := 32) rfl ?_); refine goesL_ (some 26) rfl rfl Try.func32 (by kernel_rfl) rfl #[.agg #[.int .i64 a0_0, .int .i64 a0_1, .int .i64 a0_2, .int .i64 a0_3, .int .i64 a0_4, .int .i64 a0_5, .int .i64 a0_6, .int .i64 a0_7, .int .i64 a0_8, .int .i64 a0_9, .int .i64 a0_10, .int .i64 a0_11], .agg #[.int .i64 ((rd_T57 l1 x20_1).f0), .int .i64 ((rd_T57 l1 x20_1).f1), .int .i64 ((rd_T57 l1 x20_1).f2), .int .i64 ((rd_T57 l1 x20_1).f3)]] rfl (by (try simp only [List.map_toArray, List.map_cons, List.map_nil]); first | done | rfl | (simp only [List.length_drop, List.length_take]; rfl)) ?_; (with_reducible refine (clepsydralaw10_ahead.calls k1 a0_0 a0_1 a0_2 a0_3 a0_4 a0_5 a0_6 a0_7 a0_8 a0_9 a0_10 a0_11 ((rd_T57 l1 x20_1).f0) ((rd_T57 l1 x20_1).f1) ((rd_T57 l1 x20_1).f2) ((rd_T57 l1 x20_1).f3) t556 t557 _ A16.out).mono ?_); rintro e w46 ⟨rfl, hb⟩; refine ⟨_, rfl, ?_⟩; have n0_ := Aside0.mk (blk_below (g := gb547) (o := .cells #[.int .i64 a0_0, .int .i64 a0_1, .int .i64 a0_2, .int .i64 a0_3, .int .i64 a0_4, .int .i64 a0_5, .int .i64 a0_6, .int .i64 a0_7, .int .i64 a0_8, .int .i64 a0_9, .int .i64 a0_10, .int .i64 a0_11] 23 (0, 0)) (by (with_reducible repeat (first | refine blk_drewN ?_ _ | refine blk_drew ?_ | refine blk_alloc ?_ _)); refine blk_far ?_ NB547_555.out _; (with_reducible repeat (first | refine blk_drewN ?_ _ | refine blk_drew ?_ | refine blk_alloc ?_ _)); refine blk_far ?_ NB547_555.out _; (with_reducible repeat (first | refine blk_drewN ?_ _ | refine blk_drew ?_ | refine blk_alloc ?_ _)); refine blk_far ?_ NB547_555.out _; (with_reducible repeat (first | refine blk_drewN ?_ _ | refine blk_drew ?_ | refine blk_alloc ?_ _)); refine blk_far ?_ NB547_555.out _; (with_reducible repeat (first | refine blk_drewN ?_ _ | refine blk_drew ?_ | refine blk_alloc ?_ _)); exact BK547.out) hb); have n1_ := Aside0.mk (blk_below (g := gb549) (o := .cells #[.int .i64 x550000_1, .int .i64 x550001_1] 25 (0, 0)) (by (with_reducible repeat (first | refine blk_drewN ?_ _ | refine blk_drew ?_ | refine blk_alloc ?_ _)); refine blk_far ?_ NB549_555.out _; (with_reducible repeat (first | refine blk_drewN ?_ _ | refine blk_drew ?_ | refine blk_alloc ?_ _)); refine blk_far ?_ NB549_555.out _; (with_reducible repeat (first | refine blk_drewN ?_ _ | refine blk_drew ?_ | refine blk_alloc ?_ _)); refine blk_far ?_ NB549_555.out _; (with_reducible repeat (first | refine blk_drewN ?_ _ | refine blk_drew ?_ | refine blk_alloc ?_ _)); refine blk_far ?_ NB549_555.out _; (with_reducible repeat (first | refine blk_drewN ?_ _ | refine blk_drew ?_ | refine blk_alloc ?_ _)); exact BK549.out) hb); have n2_ := Aside0.mk (blk_below (g := gb555) (o := .cells #[.int .i64 ((rd_T57 l1 x20_1).f0), .int .i64 ((rd_T57 l1 x20_1).f1), .int .i64 ((rd_T57 l1 x20_1).f2), .int .i64 ((rd_T57 l1 x20_1).f3)] 57 (0, 0)) (by (with_reducible repeat (first | refine blk_drewN ?_ _ | refine blk_drew ?_ | refine blk_alloc ?_ _)); refine blk_put (cs := #[.int .i64 ((rd_T57 l1 x20_1).f0), .int .i64 ((rd_T57 l1 x20_1).f1), .int .i64 ((rd_T57 l1 x20_1).f2), .int .i64 0]) ?_ 3 _ rfl; (with_reducible repeat (first | refine blk_drewN ?_ _ | refine blk_drew ?_ | refine blk_alloc ?_ _)); refine blk_put (cs := #[.int .i64 ((rd_T57 l1 x20_1).f0), .int .i64 ((rd_T57 l1 x20_1).f1), .int .i64 0, .int .i64 0]) ?_ 2 _ rfl; (with_reducible repeat (first | refine blk_drewN ?_ _ | refine blk_drew ?_ | refine blk_alloc ?_ _)); refine blk_put (cs := #[.int .i64 ((rd_T57 l1 x20_1).f0), .int .i64 0, .int .i64 0, .int .i64 0]) ?_ 1 _ rfl; (with_reducible repeat (first | refine blk_drewN ?_ _ | refine blk_drew ?_ | refine blk_alloc ?_ _)); refine blk_put (cs := #[.int .i64 0, .int .i64 0, .int .i64 0, .int .i64 0]) ?_ 0 _ rfl; (with_reducible repeat (first | refine blk_drewN ?_ _ | refine blk_drew ?_ | refine blk_alloc ?_ _)); exact BK555.out) hb); have n3_ := Aside0.mk (below_step (by repeat (first | (with_reducible first | exact HB.out | apply below_alloc | apply pw_below_drewN | apply below_drew1 | refine below_set ?_ GE547.out | refine below_set ?_ GE549.out | refine below_set ?_ GE555.out) | exact HB.out)) hb); clear BK547; clear BK549; clear BK555; clear HB; have BK547 := n0_; have BK549 := n1_; have BK555 := n2_; have HB := n3_; clear n0_ n1_ n2_ n3_; (try clear hb); (try clear hb2); (try clear hk); (try clear hi)) | ((with_reducible refine gate_dst (N := 9) rfl ?_); refine box_event ?hg (N := 9) ?hd (cs := #[.int .i64 0, .int .i64 0]) (t := 25) ?hr ?_; (case hd => rfl); (case hg => rfl); (case hr => first | (go_simp; done) | (go_simp; rfl)); intro gb558 hg w47 hbox hb; have n0_ := Aside0.mk (blk_below (g := gb547) (o := .cells #[.int .i64 a0_0, .int .i64 a0_1, .int .i64 a0_2, .int .i64 a0_3, .int .i64 a0_4, .int .i64 a0_5, .int .i64 a0_6, .int .i64 a0_7, .int .i64 a0_8, .int .i64 a0_9, .int .i64 a0_10, .int .i64 a0_11] 23 (0, 0)) (by (with_reducible repeat (first | refine blk_drewN ?_ _ | refine blk_drew ?_ | refine blk_alloc ?_ _)); exact BK547.out) hb); have n1_ := Aside0.mk (blk_below (g := gb549) (o := .cells #[.int .i64 x550000_1, .int .i64 x550001_1] 25 (0, 0)) (by (with_reducible repeat (first | refine blk_drewN ?_ _ | refine blk_drew ?_ | refine blk_alloc ?_ _)); exact BK549.out) hb); have n2_ := Aside0.mk (blk_below (g := gb555) (o := .cells #[.int .i64 ((rd_T57 l1 x20_1).f0), .int .i64 ((rd_T57 l1 x20_1).f1), .int .i64 ((rd_T57 l1 x20_1).f2), .int .i64 ((rd_T57 l1 x20_1).f3)] 57 (0, 0)) (by (with_reducible repeat (first | refine blk_drewN ?_ _ | refine blk_drew ?_ | refine blk_alloc ?_ _)); exact BK555.out) hb); have n3_ := Aside0.mk (below_step (by repeat (first | (with_reducible first | exact HB.out | apply below_alloc | apply pw_below_drewN | apply below_drew1 | refine below_set ?_ GE547.out | refine below_set ?_ GE549.out | refine below_set ?_ GE555.out) | exact HB.out)) hb); have n4_ := Aside0.mk (hbox); have n5_ := Aside0.mk ((by rw [hg]; exact (below_size (by repeat (first | (with_reducible first | exact HB.out | apply below_alloc | apply pw_below_drewN | apply below_drew1 | refine below_set ?_ GE547.out | refine below_set ?_ GE549.out | refine below_set ?_ GE555.out) | exact HB.out))) : w.heap.size ≤ gb558)); have n6_ := Aside0.mk ((by rw [hg]; exact (below_size (by repeat (first | (with_reducible first | exact HB.out | apply below_alloc | apply pw_below_drewN | apply below_drew1 | refine below_set ?_ GE547.out | refine below_set ?_ GE549.out | refine below_set ?_ GE555.out) | exact HB.out))) : w.heap.size ≤ gb558)); have n7_ := Aside0.mk ((by rw [hg]; exact Nat.ne_of_lt (blk_lt (g := gb547) (o := .cells #[.int .i64 a0_0, .int .i64 a0_1, .int .i64 a0_2, .int .i64 a0_3, .int .i64 a0_4, .int .i64 a0_5, .int .i64 a0_6, .int .i64 a0_7, .int .i64 a0_8, .int .i64 a0_9, .int .i64 a0_10, .int .i64 a0_11] 23 (0, 0)) (by (with_reducible repeat (first | refine blk_drewN ?_ _ | refine blk_drew ?_ | refine blk_alloc ?_ _)); exact BK547.out)) : gb547 ≠ gb558)); have n8_ := Aside0.mk ((by rw [hg]; exact Nat.ne_of_gt (blk_lt (g := gb547) (o := .cells #[.int .i64 a0_0, .int .i64 a0_1, .int .i64 a0_2, .int .i64 a0_3, .int .i64 a0_4, .int .i64 a0_5, .int .i64 a0_6, .int .i64 a0_7, .int .i64 a0_8, .int .i64 a0_9, .int .i64 a0_10, .int .i64 a0_11] 23 (0, 0)) (by (with_reducible repeat (first | refine blk_drewN ?_ _ | refine blk_drew ?_ | refine blk_alloc ?_ _)); exact BK547.out)) : gb558 ≠ gb547)); have n9_ := Aside0.mk ((by rw [hg]; exact Nat.ne_of_lt (blk_lt (g := gb549) (o := .cells #[.int .i64 x550000_1, .int .i64 x550001_1] 25 (0, 0)) (by (with_reducible repeat (first | refine blk_drewN ?_ _ | refine blk_drew ?_ | refine blk_alloc ?_ _)); exact BK549.out)) : gb549 ≠ gb558)); have n10_ := Aside0.mk ((by rw [hg]; exact Nat.ne_of_gt (blk_lt (g := gb549) (o := .cells #[.int .i64 x550000_1, .int .i64 x550001_1] 25 (0, 0)) (by (with_reducible repeat (first | refine blk_drewN ?_ _ | refine blk_drew ?_ | refine blk_alloc ?_ _)); exact BK549.out)) : gb558 ≠ gb549)); have n11_ := Aside0.mk ((by rw [hg]; exact Nat.ne_of_lt (blk_lt (g := gb555) (o := .cells #[.int .i64 ((rd_T57 l1 x20_1).f0), .int .i64 ((rd_T57 l1 x20_1).f1), .int .i64 ((rd_T57 l1 x20_1).f2), .int .i64 ((rd_T57 l1 x20_1).f3)] 57 (0, 0)) (by (with_reducible repeat (first | refine blk_drewN ?_ _ | refine blk_drew ?_ | refine blk_alloc ?_ _)); exact BK555.out)) : gb555 ≠ gb558)); have n12_ := Aside0.mk ((by rw [hg]; exact Nat.ne_of_gt (blk_lt (g := gb555) (o := .cells #[.int .i64 ((rd_T57 l1 x20_1).f0), .int .i64 ((rd_T57 l1 x20_1).f1), .int .i64 ((rd_T57 l1 x20_1).f2), .int .i64 ((rd_T57 l1 x20_1).f3)] 57 (0, 0)) (by (with_reducible repeat (first | refine blk_drewN ?_ _ | refine blk_drew ?_ | refine blk_alloc ?_ _)); exact BK555.out)) : gb558 ≠ gb555)); clear BK547; clear BK549; clear BK555; clear HB; have BK547 := n0_; have BK549 := n1_; have BK555 := n2_; have HB := n3_; have BK558 := n4_; have GW558 := n5_; have GE558 := n6_; have NB547_558 := n7_; have NB558_547 := n8_; have NB549_558 := n9_; have NB558_549 := n10_; have NB555_558 := n11_; have NB558_555 := n12_; clear n0_ n1_ n2_ n3_ n4_ n5_ n6_ n7_ n8_ n9_ n10_ n11_ n12_; clear hb hbox hg; have hnb48 := NB558_547.out; have hnc48 := NB547_558.out; have hnb49 := NB558_549.out; have hnc49 := NB549_558.out; have hnb50 := NB558_555.out; have hnc50 := NB555_558.out; have hcz51_0 : w47.cell? ⟨gb558, 0, none⟩ = some (.int .i64 0) := (blk_cell BK558.out 0).trans rfl; have hcz51_1 : w47.cell? ⟨gb558, 1, none⟩ = some (.int .i64 0) := (blk_cell BK558.out 1).trans rfl; have hfz51_0 := blk_frozen BK558.out 0; have hfz51_1 := blk_frozen BK558.out 1))
           have n0_ : Aside0 (((w47.setCell ⟨gb558, 0, none⟩ (.int .i64 t556)).setCell ⟨gb558, 1, none⟩ (.int .i64 t557)).heap[gb547]? = some (.cells #[.int .i64 a0_0, .int .i64 a0_1, .int .i64 a0_2, .int .i64 a0_3, .int .i64 a0_4, .int .i64 a0_5, .int .i64 a0_6, .int .i64 a0_7, .int .i64 a0_8, .int .i64 a0_9, .int .i64 a0_10, .int .i64 a0_11] 23 (0, 0))) := ⟨by (with_reducible repeat (first | refine blk_drewN ?_ _ | refine blk_drew ?_ | refine blk_alloc ?_ _)); refine blk_far ?_ NB547_558.out _; (with_reducible repeat (first | refine blk_drewN ?_ _ | refine blk_drew ?_ | refine blk_alloc ?_ _)); refine blk_far ?_ NB547_558.out _; (with_reducible repeat (first | refine blk_drewN ?_ _ | refine blk_drew ?_ | refine blk_alloc ?_ _)); exact BK547.out⟩
           have n1_ : Aside0 (((w47.setCell ⟨gb558, 0, none⟩ (.int .i64 t556)).setCell ⟨gb558, 1, none⟩ (.int .i64 t557)).heap[gb549]? = some (.cells #[.int .i64 x550000_1, .int .i64 x550001_1] 25 (0, 0))) := ⟨by (with_reducible repeat (first | refine blk_drewN ?_ _ | refine blk_drew ?_ | refine blk_alloc ?_ _)); refine blk_far ?_ NB549_558.out _; (with_reducible repeat (first | refine blk_drewN ?_ _ | refine blk_drew ?_ | refine blk_alloc ?_ _)); refine blk_far ?_ NB549_558.out _; (with_reducible repeat (first | refine blk_drewN ?_ _ | refine blk_drew ?_ | refine blk_alloc ?_ _)); exact BK549.out⟩
           have n2_ : Aside0 (((w47.setCell ⟨gb558, 0, none⟩ (.int .i64 t556)).setCell ⟨gb558, 1, none⟩ (.int .i64 t557)).heap[gb555]? = some (.cells #[.int .i64 ((rd_T57 l1 x20_1).f0), .int .i64 ((rd_T57 l1 x20_1).f1), .int .i64 ((rd_T57 l1 x20_1).f2), .int .i64 ((rd_T57 l1 x20_1).f3)] 57 (0, 0))) := ⟨by (with_reducible repeat (first | refine blk_drewN ?_ _ | refine blk_drew ?_ | refine blk_alloc ?_ _)); refine blk_far ?_ NB555_558.out _; (with_reducible repeat (first | refine blk_drewN ?_ _ | refine blk_drew ?_ | refine blk_alloc ?_ _)); refine blk_far ?_ NB555_558.out _; (with_reducible repeat (first | refine blk_drewN ?_ _ | refine blk_drew ?_ | refine blk_alloc ?_ _)); exact BK555.out⟩
           have n3_ : Aside0 (((w47.setCell ⟨gb558, 0, none⟩ (.int .i64 t556)).setCell ⟨gb558, 1, none⟩ (.int .i64 t557)).heap[gb558]? = some (.cells #[.int .i64 t556, .int .i64 t557] 25 (0, 0))) := ⟨by (with_reducible repeat (first | refine blk_drewN ?_ _ | refine blk_drew ?_ | refine blk_alloc ?_ _)); refine blk_put (cs := #[.int .i64 t556, .int .i64 0]) ?_ 1 _ rfl; (with_reducible repeat (first | refine blk_drewN ?_ _ | refine blk_drew ?_ | refine blk_alloc ?_ _)); refine blk_put (cs := #[.int .i64 0, .int .i64 0]) ?_ 0 _ rfl; (with_reducible repeat (first | refine blk_drewN ?_ _ | refine blk_drew ?_ | refine blk_alloc ?_ _)); exact BK558.out⟩
           have n4_ : Aside0 (Below w.heap.size w ((w47.setCell ⟨gb558, 0, none⟩ (.int .i64 t556)).setCell ⟨gb558, 1, none⟩ (.int .i64 t557))) := ⟨by repeat (first | (with_reducible first | exact HB.out | apply below_alloc | apply pw_below_drewN | apply below_drew1 | refine below_set ?_ GE547.out | refine below_set ?_ GE549.out | refine below_set ?_ GE555.out | refine below_set ?_ GE558.out) | exact HB.out)⟩
           (try clear BK547)
           (try clear BK549)
           (try clear BK555)
           (try clear BK558)
           (try clear HB)
           generalize ((w47.setCell ⟨gb558, 0, none⟩ (.int .i64 t556)).setCell ⟨gb558, 1, none⟩ (.int .i64 t557)) = w52 at n0_ n1_ n2_ n3_ n4_ ⊢
           have BK547 := n0_
           have BK549 := n1_
           have BK555 := n2_
           have BK558 := n3_
           have HB := n4_
           clear n0_ n1_ n2_ n3_ n4_
           have n0_ := Aside0.mk (blk_drew BK547.out)
           have n1_ := Aside0.mk (blk_drew BK549.out)
           have n2_ := Aside0.mk (blk_drew BK555.out)
           have n3_ := Aside0.mk (blk_drew BK558.out)
           have n4_ := Aside0.mk (below_drew1 HB.out)
           clear BK547
           clear BK549
           clear BK555
           clear BK558
           clear HB
           have BK547 := n0_
           have BK549 := n1_
           have BK555 := n2_
           have BK558 := n3_
           have HB := n4_
           clear n0_ n1_ n2_ n3_ n4_
           refine start_ (n := 16) (S := fun w' => w'.cell? ⟨gb558, 0, none⟩ = some (.int .i64 t556) ∧ w'.cell? ⟨gb558, 1, none⟩ = some (.int .i64 t557) ∧ w'.cell? ⟨gb549, 0, none⟩ = some (.int .i64 x550000_1) ∧ w'.cell? ⟨gb549, 1, none⟩ = some (.int .i64 x550001_1)) (ds := []) #[false, false, false, false, false, false, false, false, false, false, false, false, false, false, false, false] (by kernel_rfl) rfl rfl ⟨(blk_cell BK558.out 0).trans rfl, (blk_cell BK558.out 1).trans rfl, (blk_cell BK549.out 0).trans rfl, (blk_cell BK549.out 1).trans rfl⟩ (fun hHeld => ?_); refine with_tabW clepsydralaw10_ProbeBest.tab10 clepsydralaw10_ProbeBest.bits10 (fun HT_ HW_ => ?_)
           generalize w52.drew = w53 at BK547 BK549 BK555 BK558 HB hHeld ⊢
           refine pure_ (i := 0) (N := some 27) (v := ?_) (a' := ?_) #[true, false, false, false, false, false, false, false, false, false, false, false, false, false, false, false] rfl rfl (any_of HT_.out (by kernel_rfl)) (fun _ _ _ h => h) (Or.inl ⟨by rfl, ?_⟩) ?_ ?_
           rotate_left
           ·intro w'
            go_simp
            with_reducible rfl
           rotate_left
           ·simp only [Act.put, List.setIfInBounds_toArray, List.set_cons_zero, List.set_cons_succ, i64_w, i32_w]
            rfl
           refine pure_ (i := 2) (N := some 29) (v := ?_) (a' := ?_) #[true, false, true, false, false, false, false, false, false, false, false, false, false, false, false, false] rfl rfl (any_of HT_.out (by kernel_rfl)) (fun _ _ _ h => h) (Or.inl ⟨by rfl, ?_⟩) ?_ ?_
           rotate_left
           ·intro w'
            go_simp
            with_reducible rfl
           rotate_left
           ·simp only [Act.put, List.setIfInBounds_toArray, List.set_cons_zero, List.set_cons_succ, i64_w, i32_w]
            rfl
           refine take_ (i := 1) (N := some 28) (v := ?_) (a' := ?_) #[true, true, true, false, false, false, false, false, false, false, false, false, false, false, false, false] rfl rfl (take_ofW HT_.out HW_.out (by kernel_rfl)) (fun _ _ _ h => h) (Or.inl ⟨by rfl, ?_⟩) hHeld ?_ ?_
           rotate_left
           ·rintro w' ⟨s0, s1, s2, s3⟩
            go_simp
            with_reducible rfl
           rotate_left
           ·simp only [Act.put, List.setIfInBounds_toArray, List.set_cons_zero, List.set_cons_succ, i64_w, i32_w]
            rfl
           refine take_ (i := 3) (N := some 30) (v := ?_) (a' := ?_) #[true, true, true, true, false, false, false, false, false, false, false, false, false, false, false, false] rfl rfl (take_ofW HT_.out HW_.out (by kernel_rfl)) (fun _ _ _ h => h) (Or.inl ⟨by rfl, ?_⟩) hHeld ?_ ?_
           rotate_left
           ·rintro w' ⟨s0, s1, s2, s3⟩
            go_simp
            with_reducible rfl
           rotate_left
           ·simp only [Act.put, List.setIfInBounds_toArray, List.set_cons_zero, List.set_cons_succ, i64_w, i32_w]
            rfl
           refine pure_ (i := 4) (N := some 31) (v := ?_) (a' := ?_) #[true, true, true, true, true, false, false, false, false, false, false, false, false, false, false, false] rfl rfl (any_of HT_.out (by kernel_rfl)) (fun _ _ _ h => h) (Or.inl ⟨by rfl, ?_⟩) ?_ ?_
           rotate_left
           ·intro w'
            go_simp
            with_reducible rfl
           rotate_left
           ·simp only [Act.put, List.setIfInBounds_toArray, List.set_cons_zero, List.set_cons_succ, i64_w, i32_w]
            rfl
           refine pure_ (i := 5) (N := some 32) (v := ?_) (a' := ?_) #[true, true, true, true, true, true, false, false, false, false, false, false, false, false, false, false] rfl rfl (any_of HT_.out (by kernel_rfl)) (fun _ _ _ h => h) (Or.inl ⟨by rfl, ?_⟩) ?_ ?_
           rotate_left
           ·intro w'
            go_simp
            with_reducible rfl
           rotate_left
           ·simp only [Act.put, List.setIfInBounds_toArray, List.set_cons_zero, List.set_cons_succ, i64_w, i32_w]
            rfl
           refine pure_ (i := 6) (N := some 33) (v := ?_) (a' := ?_) #[true, true, true, true, true, true, true, false, false, false, false, false, false, false, false, false] rfl rfl (any_of HT_.out (by kernel_rfl)) (fun _ _ _ h => h) (Or.inl ⟨by rfl, ?_⟩) ?_ ?_
           rotate_left
           ·intro w'
            go_simp
            with_reducible rfl
           rotate_left
           ·simp only [Act.put, List.setIfInBounds_toArray, List.set_cons_zero, List.set_cons_succ, i64_w, i32_w]
            rfl
           refine pure_ (i := 7) (N := some 34) (v := ?_) (a' := ?_) #[true, true, true, true, true, true, true, true, false, false, false, false, false, false, false, false] rfl rfl (any_of HT_.out (by kernel_rfl)) (fun _ _ _ h => h) (Or.inl ⟨by rfl, ?_⟩) ?_ ?_
           rotate_left
           ·intro w'
            go_simp
            with_reducible rfl
           rotate_left
           ·simp only [Act.put, List.setIfInBounds_toArray, List.set_cons_zero, List.set_cons_succ, i64_w, i32_w]
            rfl
           refine pure_ (i := 8) (N := some 35) (v := ?_) (a' := ?_) #[true, true, true, true, true, true, true, true, true, false, false, false, false, false, false, false] rfl rfl (any_of HT_.out (by kernel_rfl)) (fun _ _ _ h => h) (Or.inl ⟨by rfl, ?_⟩) ?_ ?_
           rotate_left
           ·intro w'
            go_simp
            with_reducible rfl
           rotate_left
           ·simp only [Act.put, List.setIfInBounds_toArray, List.set_cons_zero, List.set_cons_succ, i64_w, i32_w]
            rfl
           refine take_ (i := 9) (N := some 36) (v := ?_) (a' := ?_) #[true, true, true, true, true, true, true, true, true, true, false, false, false, false, false, false] rfl rfl (take_ofW HT_.out HW_.out (by kernel_rfl)) (fun _ _ _ h => h) (Or.inl ⟨by rfl, ?_⟩) hHeld ?_ ?_
           rotate_left
           ·rintro w' ⟨s0, s1, s2, s3⟩
            go_simp
            with_reducible rfl
           rotate_left
           ·simp only [Act.put, List.setIfInBounds_toArray, List.set_cons_zero, List.set_cons_succ, i64_w, i32_w]
            rfl
           refine take_ (i := 11) (N := some 38) (v := ?_) (a' := ?_) #[true, true, true, true, true, true, true, true, true, true, false, true, false, false, false, false] rfl rfl (take_ofW HT_.out HW_.out (by kernel_rfl)) (fun _ _ _ h => h) (Or.inl ⟨by rfl, ?_⟩) hHeld ?_ ?_
           rotate_left
           ·rintro w' ⟨s0, s1, s2, s3⟩
            go_simp
            with_reducible rfl
           rotate_left
           ·simp only [Act.put, List.setIfInBounds_toArray, List.set_cons_zero, List.set_cons_succ, i64_w, i32_w]
            rfl
           refine one_ (i := 10) (N := some 37) #[true, true, true, true, true, true, true, true, true, true, true, true, false, false, false, false] rfl rfl (one_of HT_.out (by kernel_rfl)) (by decide) (fun K hK => ?_)
           refine goes_ Try.func36 (by kernel_rfl) rfl #[.agg #[.int .i64 t556, .int .i64 t557]] (by rfl) rfl rfl (by (try simp only [List.map_toArray, List.map_cons, List.map_nil]); first | done | rfl | (simp only [List.length_drop, List.length_take]; rfl)) ?_
           with_reducible refine (clepsydraref03_Wide.calls t556 t557 t559 _ A19.out).mono ?_
           rintro e w54 ⟨rfl, hb⟩
           refine ⟨_, rfl, ?_⟩
           have n0_ := Aside0.mk (blk_below (g := gb547) (o := .cells #[.int .i64 a0_0, .int .i64 a0_1, .int .i64 a0_2, .int .i64 a0_3, .int .i64 a0_4, .int .i64 a0_5, .int .i64 a0_6, .int .i64 a0_7, .int .i64 a0_8, .int .i64 a0_9, .int .i64 a0_10, .int .i64 a0_11] 23 (0, 0)) (by (with_reducible repeat (first | refine blk_drewN ?_ _ | refine blk_drew ?_ | refine blk_alloc ?_ _)); exact BK547.out) hb)
           have n1_ := Aside0.mk (blk_below (g := gb549) (o := .cells #[.int .i64 x550000_1, .int .i64 x550001_1] 25 (0, 0)) (by (with_reducible repeat (first | refine blk_drewN ?_ _ | refine blk_drew ?_ | refine blk_alloc ?_ _)); exact BK549.out) hb)
           have n2_ := Aside0.mk (blk_below (g := gb555) (o := .cells #[.int .i64 ((rd_T57 l1 x20_1).f0), .int .i64 ((rd_T57 l1 x20_1).f1), .int .i64 ((rd_T57 l1 x20_1).f2), .int .i64 ((rd_T57 l1 x20_1).f3)] 57 (0, 0)) (by (with_reducible repeat (first | refine blk_drewN ?_ _ | refine blk_drew ?_ | refine blk_alloc ?_ _)); exact BK555.out) hb)
           have n3_ := Aside0.mk (blk_below (g := gb558) (o := .cells #[.int .i64 t556, .int .i64 t557] 25 (0, 0)) (by (with_reducible repeat (first | refine blk_drewN ?_ _ | refine blk_drew ?_ | refine blk_alloc ?_ _)); exact BK558.out) hb)
           have n4_ := Aside0.mk (below_step (by repeat (first | (with_reducible first | exact HB.out | apply below_alloc | apply pw_below_drewN | apply below_drew1 | refine below_set ?_ GE547.out | refine below_set ?_ GE549.out | refine below_set ?_ GE555.out | refine below_set ?_ GE558.out) | exact HB.out)) hb)
           clear BK547
           clear BK549
           clear BK555
           clear BK558
           clear HB
           have BK547 := n0_
           have BK549 := n1_
           have BK555 := n2_
           have BK558 := n3_
           have HB := n4_
           clear n0_ n1_ n2_ n3_ n4_
           (try clear hb)
           (try clear hb2)
           (try clear hk)
           (try clear hi)
           refine hK.out _ _ ⟨(blk_cell BK558.out 0).trans rfl, (blk_cell BK558.out 1).trans rfl, (blk_cell BK549.out 0).trans rfl, (blk_cell BK549.out 1).trans rfl⟩ (fun hHeld => ?_)
           clear hK K
           refine norm_ (a' := ?_) ?_ ?_
           rotate_left
           ·show Act.put _ (some 37) _ = _
            simp only [Act.put, List.setIfInBounds_toArray, List.set_cons_zero, List.set_cons_succ, i64_w, i32_w]
            rfl
           refine one_ (i := 12) (N := some 39) #[true, true, true, true, true, true, true, true, true, true, true, true, true, false, false, false] rfl rfl (one_of HT_.out (by kernel_rfl)) (by decide) (fun K hK => ?_)
           refine goes_ Try.func36 (by kernel_rfl) rfl #[.agg #[.int .i64 x550000_1, .int .i64 x550001_1]] (by rfl) rfl rfl (by (try simp only [List.map_toArray, List.map_cons, List.map_nil]); first | done | rfl | (simp only [List.length_drop, List.length_take]; rfl)) ?_
           with_reducible refine (clepsydraref03_Wide.calls x550000_1 x550001_1 t560 _ A20.out).mono ?_
           rintro e w55 ⟨rfl, hb⟩
           refine ⟨_, rfl, ?_⟩
           have n0_ := Aside0.mk (blk_below (g := gb547) (o := .cells #[.int .i64 a0_0, .int .i64 a0_1, .int .i64 a0_2, .int .i64 a0_3, .int .i64 a0_4, .int .i64 a0_5, .int .i64 a0_6, .int .i64 a0_7, .int .i64 a0_8, .int .i64 a0_9, .int .i64 a0_10, .int .i64 a0_11] 23 (0, 0)) (by (with_reducible repeat (first | refine blk_drewN ?_ _ | refine blk_drew ?_ | refine blk_alloc ?_ _)); exact BK547.out) hb)
           have n1_ := Aside0.mk (blk_below (g := gb549) (o := .cells #[.int .i64 x550000_1, .int .i64 x550001_1] 25 (0, 0)) (by (with_reducible repeat (first | refine blk_drewN ?_ _ | refine blk_drew ?_ | refine blk_alloc ?_ _)); exact BK549.out) hb)
           have n2_ := Aside0.mk (blk_below (g := gb555) (o := .cells #[.int .i64 ((rd_T57 l1 x20_1).f0), .int .i64 ((rd_T57 l1 x20_1).f1), .int .i64 ((rd_T57 l1 x20_1).f2), .int .i64 ((rd_T57 l1 x20_1).f3)] 57 (0, 0)) (by (with_reducible repeat (first | refine blk_drewN ?_ _ | refine blk_drew ?_ | refine blk_alloc ?_ _)); exact BK555.out) hb)
           have n3_ := Aside0.mk (blk_below (g := gb558) (o := .cells #[.int .i64 t556, .int .i64 t557] 25 (0, 0)) (by (with_reducible repeat (first | refine blk_drewN ?_ _ | refine blk_drew ?_ | refine blk_alloc ?_ _)); exact BK558.out) hb)
           have n4_ := Aside0.mk (below_step (by repeat (first | (with_reducible first | exact HB.out | apply below_alloc | apply pw_below_drewN | apply below_drew1 | refine below_set ?_ GE547.out | refine below_set ?_ GE549.out | refine below_set ?_ GE555.out | refine below_set ?_ GE558.out) | exact HB.out)) hb)
           clear BK547
           clear BK549
           clear BK555
           clear BK558
           clear HB
           have BK547 := n0_
           have BK549 := n1_
           have BK555 := n2_
           have BK558 := n3_
           have HB := n4_
           clear n0_ n1_ n2_ n3_ n4_
           (try clear hb)
           (try clear hb2)
           (try clear hk)
           (try clear hi)
           refine hK.out _ _ ⟨(blk_cell BK558.out 0).trans rfl, (blk_cell BK558.out 1).trans rfl, (blk_cell BK549.out 0).trans rfl, (blk_cell BK549.out 1).trans rfl⟩ (fun hHeld => ?_)
           clear hK K
           refine norm_ (a' := ?_) ?_ ?_
           rotate_left
           ·show Act.put _ (some 39) _ = _
            simp only [Act.put, List.setIfInBounds_toArray, List.set_cons_zero, List.set_cons_succ, i64_w, i32_w]
            rfl
           refine pure_ (i := 13) (N := some 40) (v := ?_) (a' := ?_) #[true, true, true, true, true, true, true, true, true, true, true, true, true, true, false, false] rfl rfl (any_of HT_.out (by kernel_rfl)) (fun _ _ _ h => h) (Or.inl ⟨by rfl, ?_⟩) ?_ ?_
           rotate_left
           ·intro w'
            go_simp
            with_reducible rfl
           rotate_left
           ·simp only [Act.put, List.setIfInBounds_toArray, List.set_cons_zero, List.set_cons_succ, i64_w, i32_w]
            rfl
           refine pure_ (i := 14) (N := some 41) (v := ?_) (a' := ?_) #[true, true, true, true, true, true, true, true, true, true, true, true, true, true, true, false] rfl rfl (any_of HT_.out (by kernel_rfl)) (fun _ _ _ h => h) (Or.inl ⟨by rfl, ?_⟩) ?_ ?_
           rotate_left
           ·intro w'
            go_simp
            with_reducible rfl
           rotate_left
           ·simp only [Act.put, List.setIfInBounds_toArray, List.set_cons_zero, List.set_cons_succ, i64_w, i32_w]
            rfl
           refine pure_ (i := 15) (N := some 42) (v := ?_) (a' := ?_) #[true, true, true, true, true, true, true, true, true, true, true, true, true, true, true, true] rfl rfl (any_of HT_.out (by kernel_rfl)) (fun _ _ _ h => h) (Or.inl ⟨by rfl, ?_⟩) ?_ ?_
           rotate_left
           ·intro w'
            go_simp
            with_reducible rfl
           rotate_left
           ·simp only [Act.put, List.setIfInBounds_toArray, List.set_cons_zero, List.set_cons_succ, i64_w, i32_w]
            rfl
           refine done_ (done_of HT_.out (by kernel_rfl)) ?_
           try go_wp2
           go_roundg k1
           case measure => have := HK1.out; omega
           case rel => exact ⟨(true), (wrap64 (x20_1 + 1)), (x550000_1), (x550001_1), (by first | rfl | (simp; done) | (simp [*]; done) | (simp [Int.tdiv_eq_ediv_of_nonneg]; done) | (simp [Go.RowKit.wrap64]; done) | (simp [*, Go.RowKit.wrap64]; done)), (by first | rfl | (simp; done) | (simp [*]; done) | (simp [Int.tdiv_eq_ediv_of_nonneg]; done) | (simp [Go.RowKit.wrap64]; done) | (simp [*, Go.RowKit.wrap64]; done)), H', ⟨by have := HK1.out; omega⟩, ⟨by (with_reducible repeat (first | refine blk_drewN ?_ _ | refine blk_drew ?_ | refine blk_alloc ?_ _)); exact BK547.out⟩, ⟨by (with_reducible repeat (first | refine blk_drewN ?_ _ | refine blk_drew ?_ | refine blk_alloc ?_ _)); exact BK549.out⟩, ⟨by repeat (first | (with_reducible first | exact HB.out | apply below_alloc | apply pw_below_drewN | apply below_drew1 | refine below_set ?_ GE547.out | refine below_set ?_ GE549.out | refine below_set ?_ GE555.out | refine below_set ?_ GE558.out) | exact HB.out)⟩⟩
         ·replace c18 := Bool.eq_false_iff.mpr c18
          subst c18
          have H1 : (clepsydralaw10_ProbeBest.l0 k1 l1 true l1 (l1.length : Int) (wrap64 (x20_1 + 1)) a0_0 a0_1 a0_2 a0_3 a0_4 a0_5 a0_6 a0_7 a0_8 a0_9 a0_10 a0_11 t556 t557) = some r := by rw [if_neg (show ¬ (false = true) by decide)] at H; exact H
          clear H
          have H := H1
          clear H1
          have H' := Aside0.mk H
          clear H
          have p554 : 0 ≤ (x20_1 : Int) := of_decide_eq_true (by first | (with_reducible assumption) | assumption)
          have q554 : x20_1 < (l1.length : Int) := of_decide_eq_true (by first | (with_reducible assumption) | assumption)
          obtain ⟨ad554, e554, hx554_0, hx554_1, hx554_2, hx554_3⟩ := at_T57 HR1.out x20_1 p554 q554
          cases e554
          replace hx554_0 := (HB.out.cell (World.block_lt_of_cell? w _ hx554_0)).trans hx554_0
          replace hx554_1 := (HB.out.cell (World.block_lt_of_cell? w _ hx554_1)).trans hx554_1
          replace hx554_2 := (HB.out.cell (World.block_lt_of_cell? w _ hx554_2)).trans hx554_2
          replace hx554_3 := (HB.out.cell (World.block_lt_of_cell? w _ hx554_3)).trans hx554_3
          replace p554 := eq_true p554
          replace q554 := eq_true q554
          try go_wp2_with (first | ((with_reducible refine gate_dst (N := 8) rfl ?_); refine box_event ?hg (N := 8) ?hd (cs := #[.int .i64 0, .int .i64 0, .int .i64 0, .int .i64 0]) (t := 57) ?hr ?_; (case hd => rfl); (case hg => rfl); (case hr => first | (go_simp; done) | (go_simp; rfl)); intro gb555 hg w56 hbox hb; have n0_ := Aside0.mk (blk_below (g := gb547) (o := .cells #[.int .i64 a0_0, .int .i64 a0_1, .int .i64 a0_2, .int .i64 a0_3, .int .i64 a0_4, .int .i64 a0_5, .int .i64 a0_6, .int .i64 a0_7, .int .i64 a0_8, .int .i64 a0_9, .int .i64 a0_10, .int .i64 a0_11] 23 (0, 0)) (by (with_reducible repeat (first | refine blk_drewN ?_ _ | refine blk_drew ?_ | refine blk_alloc ?_ _)); exact BK547.out) hb); have n1_ := Aside0.mk (blk_below (g := gb549) (o := .cells #[.int .i64 x550000_1, .int .i64 x550001_1] 25 (0, 0)) (by (with_reducible repeat (first | refine blk_drewN ?_ _ | refine blk_drew ?_ | refine blk_alloc ?_ _)); exact BK549.out) hb); have n2_ := Aside0.mk (below_step (by repeat (first | (with_reducible first | exact HB.out | apply below_alloc | apply pw_below_drewN | apply below_drew1 | refine below_set ?_ GE547.out | refine below_set ?_ GE549.out) | exact HB.out)) hb); have n3_ := Aside0.mk (hbox); have n4_ := Aside0.mk ((by rw [hg]; exact (below_size (by repeat (first | (with_reducible first | exact HB.out | apply below_alloc | apply pw_below_drewN | apply below_drew1 | refine below_set ?_ GE547.out | refine below_set ?_ GE549.out) | exact HB.out))) : w.heap.size ≤ gb555)); have n5_ := Aside0.mk ((by rw [hg]; exact (below_size (by repeat (first | (with_reducible first | exact HB.out | apply below_alloc | apply pw_below_drewN | apply below_drew1 | refine below_set ?_ GE547.out | refine below_set ?_ GE549.out) | exact HB.out))) : w.heap.size ≤ gb555)); have n6_ := Aside0.mk ((by rw [hg]; exact Nat.ne_of_lt (blk_lt (g := gb547) (o := .cells #[.int .i64 a0_0, .int .i64 a0_1, .int .i64 a0_2, .int .i64 a0_3, .int .i64 a0_4, .int .i64 a0_5, .int .i64 a0_6, .int .i64 a0_7, .int .i64 a0_8, .int .i64 a0_9, .int .i64 a0_10, .int .i64 a0_11] 23 (0, 0)) (by (with_reducible repeat (first | refine blk_drewN ?_ _ | refine blk_drew ?_ | refine blk_alloc ?_ _)); exact BK547.out)) : gb547 ≠ gb555)); have n7_ := Aside0.mk ((by rw [hg]; exact Nat.ne_of_gt (blk_lt (g := gb547) (o := .cells #[.int .i64 a0_0, .int .i64 a0_1, .int .i64 a0_2, .int .i64 a0_3, .int .i64 a0_4, .int .i64 a0_5, .int .i64 a0_6, .int .i64 a0_7, .int .i64 a0_8, .int .i64 a0_9, .int .i64 a0_10, .int .i64 a0_11] 23 (0, 0)) (by (with_reducible repeat (first | refine blk_drewN ?_ _ | refine blk_drew ?_ | refine blk_alloc ?_ _)); exact BK547.out)) : gb555 ≠ gb547)); have n8_ := Aside0.mk ((by rw [hg]; exact Nat.ne_of_lt (blk_lt (g := gb549) (o := .cells #[.int .i64 x550000_1, .int .i64 x550001_1] 25 (0, 0)) (by (with_reducible repeat (first | refine blk_drewN ?_ _ | refine blk_drew ?_ | refine blk_alloc ?_ _)); exact BK549.out)) : gb549 ≠ gb555)); have n9_ := Aside0.mk ((by rw [hg]; exact Nat.ne_of_gt (blk_lt (g := gb549) (o := .cells #[.int .i64 x550000_1, .int .i64 x550001_1] 25 (0, 0)) (by (with_reducible repeat (first | refine blk_drewN ?_ _ | refine blk_drew ?_ | refine blk_alloc ?_ _)); exact BK549.out)) : gb555 ≠ gb549)); clear BK547; clear BK549; clear HB; have BK547 := n0_; have BK549 := n1_; have HB := n2_; have BK555 := n3_; have GW555 := n4_; have GE555 := n5_; have NB547_555 := n6_; have NB555_547 := n7_; have NB549_555 := n8_; have NB555_549 := n9_; clear n0_ n1_ n2_ n3_ n4_ n5_ n6_ n7_ n8_ n9_; clear hb hbox hg; have hnb57 := NB555_547.out; have hnc57 := NB547_555.out; have hnb58 := NB555_549.out; have hnc58 := NB549_555.out; have hcz59_0 : w56.cell? ⟨gb555, 0, none⟩ = some (.int .i64 0) := (blk_cell BK555.out 0).trans rfl; have hcz59_1 : w56.cell? ⟨gb555, 1, none⟩ = some (.int .i64 0) := (blk_cell BK555.out 1).trans rfl; have hcz59_2 : w56.cell? ⟨gb555, 2, none⟩ = some (.int .i64 0) := (blk_cell BK555.out 2).trans rfl; have hcz59_3 : w56.cell? ⟨gb555, 3, none⟩ = some (.int .i64 0) := (blk_cell BK555.out 3).trans rfl; have hfz59_0 := blk_frozen BK555.out 0; have hfz59_1 := blk_frozen BK555.out 1; have hfz59_2 := blk_frozen BK555.out 2; have hfz59_3 := blk_frozen BK555.out 3; have hnb60 := NB547_549.out; have hnc60 := NB549_547.out; have hcz61_0 : w56.cell? ⟨gb547, 0, none⟩ = some (.int .i64 a0_0) := (blk_cell BK547.out 0).trans rfl; have hcz61_1 : w56.cell? ⟨gb547, 1, none⟩ = some (.int .i64 a0_1) := (blk_cell BK547.out 1).trans rfl; have hcz61_2 : w56.cell? ⟨gb547, 2, none⟩ = some (.int .i64 a0_2) := (blk_cell BK547.out 2).trans rfl; have hcz61_3 : w56.cell? ⟨gb547, 3, none⟩ = some (.int .i64 a0_3) := (blk_cell BK547.out 3).trans rfl; have hcz61_4 : w56.cell? ⟨gb547, 4, none⟩ = some (.int .i64 a0_4) := (blk_cell BK547.out 4).trans rfl; have hcz61_5 : w56.cell? ⟨gb547, 5, none⟩ = some (.int .i64 a0_5) := (blk_cell BK547.out 5).trans rfl; have hcz61_6 : w56.cell? ⟨gb547, 6, none⟩ = some (.int .i64 a0_6) := (blk_cell BK547.out 6).trans rfl; have hcz61_7 : w56.cell? ⟨gb547, 7, none⟩ = some (.int .i64 a0_7) := (blk_cell BK547.out 7).trans rfl; have hcz61_8 : w56.cell? ⟨gb547, 8, none⟩ = some (.int .i64 a0_8) := (blk_cell BK547.out 8).trans rfl; have hcz61_9 : w56.cell? ⟨gb547, 9, none⟩ = some (.int .i64 a0_9) := (blk_cell BK547.out 9).trans rfl; have hcz61_10 : w56.cell? ⟨gb547, 10, none⟩ = some (.int .i64 a0_10) := (blk_cell BK547.out 10).trans rfl; have hcz61_11 : w56.cell? ⟨gb547, 11, none⟩ = some (.int .i64 a0_11) := (blk_cell BK547.out 11).trans rfl; have hfz61_0 := blk_frozen BK547.out 0; have hfz61_1 := blk_frozen BK547.out 1; have hfz61_2 := blk_frozen BK547.out 2; have hfz61_3 := blk_frozen BK547.out 3; have hfz61_4 := blk_frozen BK547.out 4; have hfz61_5 := blk_frozen BK547.out 5; have hfz61_6 := blk_frozen BK547.out 6; have hfz61_7 := blk_frozen BK547.out 7; have hfz61_8 := blk_frozen BK547.out 8; have hfz61_9 := blk_frozen BK547.out 9; have hfz61_10 := blk_frozen BK547.out 10; have hfz61_11 := blk_frozen BK547.out 11) | ((with_reducible refine gate_callee (f := 32) rfl ?_); refine goesL_ (some 26) rfl rfl Try.func32 (by kernel_rfl) rfl #[.agg #[.int .i64 a0_0, .int .i64 a0_1, .int .i64 a0_2, .int .i64 a0_3, .int .i64 a0_4, .int .i64 a0_5, .int .i64 a0_6, .int .i64 a0_7, .int .i64 a0_8, .int .i64 a0_9, .int .i64 a0_10, .int .i64 a0_11], .agg #[.int .i64 ((rd_T57 l1 x20_1).f0), .int .i64 ((rd_T57 l1 x20_1).f1), .int .i64 ((rd_T57 l1 x20_1).f2), .int .i64 ((rd_T57 l1 x20_1).f3)]] rfl (by (try simp only [List.map_toArray, List.map_cons, List.map_nil]); first | done | rfl | (simp only [List.length_drop, List.length_take]; rfl)) ?_; (with_reducible refine (clepsydralaw10_ahead.calls k1 a0_0 a0_1 a0_2 a0_3 a0_4 a0_5 a0_6 a0_7 a0_8 a0_9 a0_10 a0_11 ((rd_T57 l1 x20_1).f0) ((rd_T57 l1 x20_1).f1) ((rd_T57 l1 x20_1).f2) ((rd_T57 l1 x20_1).f3) t556 t557 _ A16.out).mono ?_); rintro e w62 ⟨rfl, hb⟩; refine ⟨_, rfl, ?_⟩; have n0_ := Aside0.mk (blk_below (g := gb547) (o := .cells #[.int .i64 a0_0, .int .i64 a0_1, .int .i64 a0_2, .int .i64 a0_3, .int .i64 a0_4, .int .i64 a0_5, .int .i64 a0_6, .int .i64 a0_7, .int .i64 a0_8, .int .i64 a0_9, .int .i64 a0_10, .int .i64 a0_11] 23 (0, 0)) (by (with_reducible repeat (first | refine blk_drewN ?_ _ | refine blk_drew ?_ | refine blk_alloc ?_ _)); refine blk_far ?_ NB547_555.out _; (with_reducible repeat (first | refine blk_drewN ?_ _ | refine blk_drew ?_ | refine blk_alloc ?_ _)); refine blk_far ?_ NB547_555.out _; (with_reducible repeat (first | refine blk_drewN ?_ _ | refine blk_drew ?_ | refine blk_alloc ?_ _)); refine blk_far ?_ NB547_555.out _; (with_reducible repeat (first | refine blk_drewN ?_ _ | refine blk_drew ?_ | refine blk_alloc ?_ _)); refine blk_far ?_ NB547_555.out _; (with_reducible repeat (first | refine blk_drewN ?_ _ | refine blk_drew ?_ | refine blk_alloc ?_ _)); exact BK547.out) hb); have n1_ := Aside0.mk (blk_below (g := gb549) (o := .cells #[.int .i64 x550000_1, .int .i64 x550001_1] 25 (0, 0)) (by (with_reducible repeat (first | refine blk_drewN ?_ _ | refine blk_drew ?_ | refine blk_alloc ?_ _)); refine blk_far ?_ NB549_555.out _; (with_reducible repeat (first | refine blk_drewN ?_ _ | refine blk_drew ?_ | refine blk_alloc ?_ _)); refine blk_far ?_ NB549_555.out _; (with_reducible repeat (first | refine blk_drewN ?_ _ | refine blk_drew ?_ | refine blk_alloc ?_ _)); refine blk_far ?_ NB549_555.out _; (with_reducible repeat (first | refine blk_drewN ?_ _ | refine blk_drew ?_ | refine blk_alloc ?_ _)); refine blk_far ?_ NB549_555.out _; (with_reducible repeat (first | refine blk_drewN ?_ _ | refine blk_drew ?_ | refine blk_alloc ?_ _)); exact BK549.out) hb); have n2_ := Aside0.mk (blk_below (g := gb555) (o := .cells #[.int .i64 ((rd_T57 l1 x20_1).f0), .int .i64 ((rd_T57 l1 x20_1).f1), .int .i64 ((rd_T57 l1 x20_1).f2), .int .i64 ((rd_T57 l1 x20_1).f3)] 57 (0, 0)) (by (with_reducible repeat (first | refine blk_drewN ?_ _ | refine blk_drew ?_ | refine blk_alloc ?_ _)); refine blk_put (cs := #[.int .i64 ((rd_T57 l1 x20_1).f0), .int .i64 ((rd_T57 l1 x20_1).f1), .int .i64 ((rd_T57 l1 x20_1).f2), .int .i64 0]) ?_ 3 _ rfl; (with_reducible repeat (first | refine blk_drewN ?_ _ | refine blk_drew ?_ | refine blk_alloc ?_ _)); refine blk_put (cs := #[.int .i64 ((rd_T57 l1 x20_1).f0), .int .i64 ((rd_T57 l1 x20_1).f1), .int .i64 0, .int .i64 0]) ?_ 2 _ rfl; (with_reducible repeat (first | refine blk_drewN ?_ _ | refine blk_drew ?_ | refine blk_alloc ?_ _)); refine blk_put (cs := #[.int .i64 ((rd_T57 l1 x20_1).f0), .int .i64 0, .int .i64 0, .int .i64 0]) ?_ 1 _ rfl; (with_reducible repeat (first | refine blk_drewN ?_ _ | refine blk_drew ?_ | refine blk_alloc ?_ _)); refine blk_put (cs := #[.int .i64 0, .int .i64 0, .int .i64 0, .int .i64 0]) ?_ 0 _ rfl; (with_reducible repeat (first | refine blk_drewN ?_ _ | refine blk_drew ?_ | refine blk_alloc ?_ _)); exact BK555.out) hb); have n3_ := Aside0.mk (below_step (by repeat (first | (with_reducible first | exact HB.out | apply below_alloc | apply pw_below_drewN | apply below_drew1 | refine below_set ?_ GE547.out | refine below_set ?_ GE549.out | refine below_set ?_ GE555.out) | exact HB.out)) hb); clear BK547; clear BK549; clear BK555; clear HB; have BK547 := n0_; have BK549 := n1_; have BK555 := n2_; have HB := n3_; clear n0_ n1_ n2_ n3_; (try clear hb); (try clear hb2); (try clear hk); (try clear hi)) | ((with_reducible refine gate_dst (N := 9) rfl ?_); refine box_event ?hg (N := 9) ?hd (cs := #[.int .i64 0, .int .i64 0]) (t := 25) ?hr ?_; (case hd => rfl); (case hg => rfl); (case hr => first | (go_simp; done) | (go_simp; rfl)); intro gb558 hg w63 hbox hb; have n0_ := Aside0.mk (blk_below (g := gb547) (o := .cells #[.int .i64 a0_0, .int .i64 a0_1, .int .i64 a0_2, .int .i64 a0_3, .int .i64 a0_4, .int .i64 a0_5, .int .i64 a0_6, .int .i64 a0_7, .int .i64 a0_8, .int .i64 a0_9, .int .i64 a0_10, .int .i64 a0_11] 23 (0, 0)) (by (with_reducible repeat (first | refine blk_drewN ?_ _ | refine blk_drew ?_ | refine blk_alloc ?_ _)); exact BK547.out) hb); have n1_ := Aside0.mk (blk_below (g := gb549) (o := .cells #[.int .i64 x550000_1, .int .i64 x550001_1] 25 (0, 0)) (by (with_reducible repeat (first | refine blk_drewN ?_ _ | refine blk_drew ?_ | refine blk_alloc ?_ _)); exact BK549.out) hb); have n2_ := Aside0.mk (blk_below (g := gb555) (o := .cells #[.int .i64 ((rd_T57 l1 x20_1).f0), .int .i64 ((rd_T57 l1 x20_1).f1), .int .i64 ((rd_T57 l1 x20_1).f2), .int .i64 ((rd_T57 l1 x20_1).f3)] 57 (0, 0)) (by (with_reducible repeat (first | refine blk_drewN ?_ _ | refine blk_drew ?_ | refine blk_alloc ?_ _)); exact BK555.out) hb); have n3_ := Aside0.mk (below_step (by repeat (first | (with_reducible first | exact HB.out | apply below_alloc | apply pw_below_drewN | apply below_drew1 | refine below_set ?_ GE547.out | refine below_set ?_ GE549.out | refine below_set ?_ GE555.out) | exact HB.out)) hb); have n4_ := Aside0.mk (hbox); have n5_ := Aside0.mk ((by rw [hg]; exact (below_size (by repeat (first | (with_reducible first | exact HB.out | apply below_alloc | apply pw_below_drewN | apply below_drew1 | refine below_set ?_ GE547.out | refine below_set ?_ GE549.out | refine below_set ?_ GE555.out) | exact HB.out))) : w.heap.size ≤ gb558)); have n6_ := Aside0.mk ((by rw [hg]; exact (below_size (by repeat (first | (with_reducible first | exact HB.out | apply below_alloc | apply pw_below_drewN | apply below_drew1 | refine below_set ?_ GE547.out | refine below_set ?_ GE549.out | refine below_set ?_ GE555.out) | exact HB.out))) : w.heap.size ≤ gb558)); have n7_ := Aside0.mk ((by rw [hg]; exact Nat.ne_of_lt (blk_lt (g := gb547) (o := .cells #[.int .i64 a0_0, .int .i64 a0_1, .int .i64 a0_2, .int .i64 a0_3, .int .i64 a0_4, .int .i64 a0_5, .int .i64 a0_6, .int .i64 a0_7, .int .i64 a0_8, .int .i64 a0_9, .int .i64 a0_10, .int .i64 a0_11] 23 (0, 0)) (by (with_reducible repeat (first | refine blk_drewN ?_ _ | refine blk_drew ?_ | refine blk_alloc ?_ _)); exact BK547.out)) : gb547 ≠ gb558)); have n8_ := Aside0.mk ((by rw [hg]; exact Nat.ne_of_gt (blk_lt (g := gb547) (o := .cells #[.int .i64 a0_0, .int .i64 a0_1, .int .i64 a0_2, .int .i64 a0_3, .int .i64 a0_4, .int .i64 a0_5, .int .i64 a0_6, .int .i64 a0_7, .int .i64 a0_8, .int .i64 a0_9, .int .i64 a0_10, .int .i64 a0_11] 23 (0, 0)) (by (with_reducible repeat (first | refine blk_drewN ?_ _ | refine blk_drew ?_ | refine blk_alloc ?_ _)); exact BK547.out)) : gb558 ≠ gb547)); have n9_ := Aside0.mk ((by rw [hg]; exact Nat.ne_of_lt (blk_lt (g := gb549) (o := .cells #[.int .i64 x550000_1, .int .i64 x550001_1] 25 (0, 0)) (by (with_reducible repeat (first | refine blk_drewN ?_ _ | refine blk_drew ?_ | refine blk_alloc ?_ _)); exact BK549.out)) : gb549 ≠ gb558)); have n10_ := Aside0.mk ((by rw [hg]; exact Nat.ne_of_gt (blk_lt (g := gb549) (o := .cells #[.int .i64 x550000_1, .int .i64 x550001_1] 25 (0, 0)) (by (with_reducible repeat (first | refine blk_drewN ?_ _ | refine blk_drew ?_ | refine blk_alloc ?_ _)); exact BK549.out)) : gb558 ≠ gb549)); have n11_ := Aside0.mk ((by rw [hg]; exact Nat.ne_of_lt (blk_lt (g := gb555) (o := .cells #[.int .i64 ((rd_T57 l1 x20_1).f0), .int .i64 ((rd_T57 l1 x20_1).f1), .int .i64 ((rd_T57 l1 x20_1).f2), .int .i64 ((rd_T57 l1 x20_1).f3)] 57 (0, 0)) (by (with_reducible repeat (first | refine blk_drewN ?_ _ | refine blk_drew ?_ | refine blk_alloc ?_ _)); exact BK555.out)) : gb555 ≠ gb558)); have n12_ := Aside0.mk ((by rw [hg]; exact Nat.ne_of_gt (blk_lt (g := gb555) (o := .cells #[.int .i64 ((rd_T57 l1 x20_1).f0), .int .i64 ((rd_T57 l1 x20_1).f1), .int .i64 ((rd_T57 l1 x20_1).f2), .int .i64 ((rd_T57 l1 x20_1).f3)] 57 (0, 0)) (by (with_reducible repeat (first | refine blk_drewN ?_ _ | refine blk_drew ?_ | refine blk_alloc ?_ _)); exact BK555.out)) : gb558 ≠ gb555)); clear BK547; clear BK549; clear BK555; clear HB; have BK547 := n0_; have BK549 := n1_; have BK555 := n2_; have HB := n3_; have BK558 := n4_; have GW558 := n5_; have GE558 := n6_; have NB547_558 := n7_; have NB558_547 := n8_; have NB549_558 := n9_; have NB558_549 := n10_; have NB555_558 := n11_; have NB558_555 := n12_; clear n0_ n1_ n2_ n3_ n4_ n5_ n6_ n7_ n8_ n9_ n10_ n11_ n12_; clear hb hbox hg; have hnb64 := NB558_547.out; have hnc64 := NB547_558.out; have hnb65 := NB558_549.out; have hnc65 := NB549_558.out; have hnb66 := NB558_555.out; have hnc66 := NB555_558.out; have hcz67_0 : w63.cell? ⟨gb558, 0, none⟩ = some (.int .i64 0) := (blk_cell BK558.out 0).trans rfl; have hcz67_1 : w63.cell? ⟨gb558, 1, none⟩ = some (.int .i64 0) := (blk_cell BK558.out 1).trans rfl; have hfz67_0 := blk_frozen BK558.out 0; have hfz67_1 := blk_frozen BK558.out 1))
          have n0_ : Aside0 (((w63.setCell ⟨gb558, 0, none⟩ (.int .i64 t556)).setCell ⟨gb558, 1, none⟩ (.int .i64 t557)).heap[gb547]? = some (.cells #[.int .i64 a0_0, .int .i64 a0_1, .int .i64 a0_2, .int .i64 a0_3, .int .i64 a0_4, .int .i64 a0_5, .int .i64 a0_6, .int .i64 a0_7, .int .i64 a0_8, .int .i64 a0_9, .int .i64 a0_10, .int .i64 a0_11] 23 (0, 0))) := ⟨by (with_reducible repeat (first | refine blk_drewN ?_ _ | refine blk_drew ?_ | refine blk_alloc ?_ _)); refine blk_far ?_ NB547_558.out _; (with_reducible repeat (first | refine blk_drewN ?_ _ | refine blk_drew ?_ | refine blk_alloc ?_ _)); refine blk_far ?_ NB547_558.out _; (with_reducible repeat (first | refine blk_drewN ?_ _ | refine blk_drew ?_ | refine blk_alloc ?_ _)); exact BK547.out⟩
          have n1_ : Aside0 (((w63.setCell ⟨gb558, 0, none⟩ (.int .i64 t556)).setCell ⟨gb558, 1, none⟩ (.int .i64 t557)).heap[gb549]? = some (.cells #[.int .i64 x550000_1, .int .i64 x550001_1] 25 (0, 0))) := ⟨by (with_reducible repeat (first | refine blk_drewN ?_ _ | refine blk_drew ?_ | refine blk_alloc ?_ _)); refine blk_far ?_ NB549_558.out _; (with_reducible repeat (first | refine blk_drewN ?_ _ | refine blk_drew ?_ | refine blk_alloc ?_ _)); refine blk_far ?_ NB549_558.out _; (with_reducible repeat (first | refine blk_drewN ?_ _ | refine blk_drew ?_ | refine blk_alloc ?_ _)); exact BK549.out⟩
          have n2_ : Aside0 (((w63.setCell ⟨gb558, 0, none⟩ (.int .i64 t556)).setCell ⟨gb558, 1, none⟩ (.int .i64 t557)).heap[gb555]? = some (.cells #[.int .i64 ((rd_T57 l1 x20_1).f0), .int .i64 ((rd_T57 l1 x20_1).f1), .int .i64 ((rd_T57 l1 x20_1).f2), .int .i64 ((rd_T57 l1 x20_1).f3)] 57 (0, 0))) := ⟨by (with_reducible repeat (first | refine blk_drewN ?_ _ | refine blk_drew ?_ | refine blk_alloc ?_ _)); refine blk_far ?_ NB555_558.out _; (with_reducible repeat (first | refine blk_drewN ?_ _ | refine blk_drew ?_ | refine blk_alloc ?_ _)); refine blk_far ?_ NB555_558.out _; (with_reducible repeat (first | refine blk_drewN ?_ _ | refine blk_drew ?_ | refine blk_alloc ?_ _)); exact BK555.out⟩
          have n3_ : Aside0 (((w63.setCell ⟨gb558, 0, none⟩ (.int .i64 t556)).setCell ⟨gb558, 1, none⟩ (.int .i64 t557)).heap[gb558]? = some (.cells #[.int .i64 t556, .int .i64 t557] 25 (0, 0))) := ⟨by (with_reducible repeat (first | refine blk_drewN ?_ _ | refine blk_drew ?_ | refine blk_alloc ?_ _)); refine blk_put (cs := #[.int .i64 t556, .int .i64 0]) ?_ 1 _ rfl; (with_reducible repeat (first | refine blk_drewN ?_ _ | refine blk_drew ?_ | refine blk_alloc ?_ _)); refine blk_put (cs := #[.int .i64 0, .int .i64 0]) ?_ 0 _ rfl; (with_reducible repeat (first | refine blk_drewN ?_ _ | refine blk_drew ?_ | refine blk_alloc ?_ _)); exact BK558.out⟩
          have n4_ : Aside0 (Below w.heap.size w ((w63.setCell ⟨gb558, 0, none⟩ (.int .i64 t556)).setCell ⟨gb558, 1, none⟩ (.int .i64 t557))) := ⟨by repeat (first | (with_reducible first | exact HB.out | apply below_alloc | apply pw_below_drewN | apply below_drew1 | refine below_set ?_ GE547.out | refine below_set ?_ GE549.out | refine below_set ?_ GE555.out | refine below_set ?_ GE558.out) | exact HB.out)⟩
          (try clear BK547)
          (try clear BK549)
          (try clear BK555)
          (try clear BK558)
          (try clear HB)
          generalize ((w63.setCell ⟨gb558, 0, none⟩ (.int .i64 t556)).setCell ⟨gb558, 1, none⟩ (.int .i64 t557)) = w68 at n0_ n1_ n2_ n3_ n4_ ⊢
          have BK547 := n0_
          have BK549 := n1_
          have BK555 := n2_
          have BK558 := n3_
          have HB := n4_
          clear n0_ n1_ n2_ n3_ n4_
          have n0_ := Aside0.mk (blk_drew BK547.out)
          have n1_ := Aside0.mk (blk_drew BK549.out)
          have n2_ := Aside0.mk (blk_drew BK555.out)
          have n3_ := Aside0.mk (blk_drew BK558.out)
          have n4_ := Aside0.mk (below_drew1 HB.out)
          clear BK547
          clear BK549
          clear BK555
          clear BK558
          clear HB
          have BK547 := n0_
          have BK549 := n1_
          have BK555 := n2_
          have BK558 := n3_
          have HB := n4_
          clear n0_ n1_ n2_ n3_ n4_
          refine start_ (n := 16) (S := fun w' => w'.cell? ⟨gb558, 0, none⟩ = some (.int .i64 t556) ∧ w'.cell? ⟨gb558, 1, none⟩ = some (.int .i64 t557)) (ds := []) #[false, false, false, false, false, false, false, false, false, false, false, false, false, false, false, false] (by kernel_rfl) rfl rfl ⟨(blk_cell BK558.out 0).trans rfl, (blk_cell BK558.out 1).trans rfl⟩ (fun hHeld => ?_); refine with_tabW clepsydralaw10_ProbeBest.tab10 clepsydralaw10_ProbeBest.bits10 (fun HT_ HW_ => ?_)
          generalize w68.drew = w69 at BK547 BK549 BK555 BK558 HB hHeld ⊢
          refine pure_ (i := 0) (N := some 27) (v := ?_) (a' := ?_) #[true, false, false, false, false, false, false, false, false, false, false, false, false, false, false, false] rfl rfl (any_of HT_.out (by kernel_rfl)) (fun _ _ _ h => h) (Or.inl ⟨by rfl, ?_⟩) ?_ ?_
          rotate_left
          ·intro w'
           go_simp
           with_reducible rfl
          rotate_left
          ·simp only [Act.put, List.setIfInBounds_toArray, List.set_cons_zero, List.set_cons_succ, i64_w, i32_w]
           rfl
          refine pure_ (i := 2) (N := some 29) (v := ?_) (a' := ?_) #[true, false, true, false, false, false, false, false, false, false, false, false, false, false, false, false] rfl rfl (any_of HT_.out (by kernel_rfl)) (fun _ _ _ h => h) (Or.inl ⟨by rfl, ?_⟩) ?_ ?_
          rotate_left
          ·intro w'
           go_simp
           with_reducible rfl
          rotate_left
          ·simp only [Act.put, List.setIfInBounds_toArray, List.set_cons_zero, List.set_cons_succ, i64_w, i32_w]
           rfl
          refine take_ (i := 1) (N := some 28) (v := ?_) (a' := ?_) #[true, true, true, false, false, false, false, false, false, false, false, false, false, false, false, false] rfl rfl (take_ofW HT_.out HW_.out (by kernel_rfl)) (fun _ _ _ h => h) (Or.inl ⟨by rfl, ?_⟩) hHeld ?_ ?_
          rotate_left
          ·rintro w' ⟨s0, s1⟩
           go_simp
           with_reducible rfl
          rotate_left
          ·simp only [Act.put, List.setIfInBounds_toArray, List.set_cons_zero, List.set_cons_succ, i64_w, i32_w]
           rfl
          refine take_ (i := 3) (N := some 30) (v := ?_) (a' := ?_) #[true, true, true, true, false, false, false, false, false, false, false, false, false, false, false, false] rfl rfl (take_ofW HT_.out HW_.out (by kernel_rfl)) (fun _ _ _ h => h) (Or.inl ⟨by rfl, ?_⟩) hHeld ?_ ?_
          rotate_left
          ·rintro w' ⟨s0, s1⟩
           go_simp
           with_reducible rfl
          rotate_left
          ·simp only [Act.put, List.setIfInBounds_toArray, List.set_cons_zero, List.set_cons_succ, i64_w, i32_w]
           rfl
          refine pure_ (i := 4) (N := some 31) (v := ?_) (a' := ?_) #[true, true, true, true, true, false, false, false, false, false, false, false, false, false, false, false] rfl rfl (any_of HT_.out (by kernel_rfl)) (fun _ _ _ h => h) (Or.inl ⟨by rfl, ?_⟩) ?_ ?_
          rotate_left
          ·intro w'
           go_simp
           with_reducible rfl
          rotate_left
          ·simp only [Act.put, List.setIfInBounds_toArray, List.set_cons_zero, List.set_cons_succ, i64_w, i32_w]
           rfl
          refine pure_ (i := 5) (N := some 32) (v := ?_) (a' := ?_) #[true, true, true, true, true, true, false, false, false, false, false, false, false, false, false, false] rfl rfl (any_of HT_.out (by kernel_rfl)) (fun _ _ _ h => h) (Or.inl ⟨by rfl, ?_⟩) ?_ ?_
          rotate_left
          ·intro w'
           go_simp
           with_reducible rfl
          rotate_left
          ·simp only [Act.put, List.setIfInBounds_toArray, List.set_cons_zero, List.set_cons_succ, i64_w, i32_w]
           rfl
          refine pure_ (i := 6) (N := some 33) (v := ?_) (a' := ?_) #[true, true, true, true, true, true, true, false, false, false, false, false, false, false, false, false] rfl rfl (any_of HT_.out (by kernel_rfl)) (fun _ _ _ h => h) (Or.inl ⟨by rfl, ?_⟩) ?_ ?_
          rotate_left
          ·intro w'
           go_simp
           with_reducible rfl
          rotate_left
          ·simp only [Act.put, List.setIfInBounds_toArray, List.set_cons_zero, List.set_cons_succ, i64_w, i32_w]
           rfl
          refine pure_ (i := 7) (N := some 34) (v := ?_) (a' := ?_) #[true, true, true, true, true, true, true, true, false, false, false, false, false, false, false, false] rfl rfl (any_of HT_.out (by kernel_rfl)) (fun _ _ _ h => h) (Or.inl ⟨by rfl, ?_⟩) ?_ ?_
          rotate_left
          ·intro w'
           go_simp
           with_reducible rfl
          rotate_left
          ·simp only [Act.put, List.setIfInBounds_toArray, List.set_cons_zero, List.set_cons_succ, i64_w, i32_w]
           rfl
          refine pure_ (i := 8) (N := some 35) (v := ?_) (a' := ?_) #[true, true, true, true, true, true, true, true, true, false, false, false, false, false, false, false] rfl rfl (any_of HT_.out (by kernel_rfl)) (fun _ _ _ h => h) (Or.inl ⟨by rfl, ?_⟩) ?_ ?_
          rotate_left
          ·intro w'
           go_simp
           with_reducible rfl
          rotate_left
          ·simp only [Act.put, List.setIfInBounds_toArray, List.set_cons_zero, List.set_cons_succ, i64_w, i32_w]
           rfl
          refine pure_ (i := 9) (N := some 36) (v := undef) (a' := ?_) #[true, true, true, true, true, true, true, true, true, true, false, false, false, false, false, false] rfl rfl (any_of HT_.out (by kernel_rfl)) (fun _ _ _ h => h) (Or.inr ⟨by rfl, rfl⟩) ?_ ?_
          rotate_left
          ·simp only [Act.put, List.setIfInBounds_toArray, List.set_cons_zero, List.set_cons_succ, i64_w, i32_w]
           rfl
          refine pure_ (i := 10) (N := some 37) (v := undef) (a' := ?_) #[true, true, true, true, true, true, true, true, true, true, true, false, false, false, false, false] rfl rfl (any_of HT_.out (by kernel_rfl)) (fun _ _ _ h => h) (Or.inr ⟨by rfl, rfl⟩) ?_ ?_
          rotate_left
          ·simp only [Act.put, List.setIfInBounds_toArray, List.set_cons_zero, List.set_cons_succ, i64_w, i32_w]
           rfl
          refine pure_ (i := 11) (N := some 38) (v := undef) (a' := ?_) #[true, true, true, true, true, true, true, true, true, true, true, true, false, false, false, false] rfl rfl (any_of HT_.out (by kernel_rfl)) (fun _ _ _ h => h) (Or.inr ⟨by rfl, rfl⟩) ?_ ?_
          rotate_left
          ·simp only [Act.put, List.setIfInBounds_toArray, List.set_cons_zero, List.set_cons_succ, i64_w, i32_w]
           rfl
          refine pure_ (i := 12) (N := some 39) (v := undef) (a' := ?_) #[true, true, true, true, true, true, true, true, true, true, true, true, true, false, false, false] rfl rfl (any_of HT_.out (by kernel_rfl)) (fun _ _ _ h => h) (Or.inr ⟨by rfl, rfl⟩) ?_ ?_
          rotate_left
          ·simp only [Act.put, List.setIfInBounds_toArray, List.set_cons_zero, List.set_cons_succ, i64_w, i32_w]
           rfl
          refine pure_ (i := 13) (N := some 40) (v := undef) (a' := ?_) #[true, true, true, true, true, true, true, true, true, true, true, true, true, true, false, false] rfl rfl (any_of HT_.out (by kernel_rfl)) (fun _ _ _ h => h) (Or.inr ⟨by rfl, rfl⟩) ?_ ?_
          rotate_left
          ·simp only [Act.put, List.setIfInBounds_toArray, List.set_cons_zero, List.set_cons_succ, i64_w, i32_w]
           rfl
          refine pure_ (i := 14) (N := some 41) (v := ?_) (a' := ?_) #[true, true, true, true, true, true, true, true, true, true, true, true, true, true, true, false] rfl rfl (any_of HT_.out (by kernel_rfl)) (fun _ _ _ h => h) (Or.inl ⟨by rfl, ?_⟩) ?_ ?_
          rotate_left
          ·intro w'
           go_simp
           with_reducible rfl
          rotate_left
          ·simp only [Act.put, List.setIfInBounds_toArray, List.set_cons_zero, List.set_cons_succ, i64_w, i32_w]
           rfl
          refine pure_ (i := 15) (N := some 42) (v := ?_) (a' := ?_) #[true, true, true, true, true, true, true, true, true, true, true, true, true, true, true, true] rfl rfl (any_of HT_.out (by kernel_rfl)) (fun _ _ _ h => h) (Or.inl ⟨by rfl, ?_⟩) ?_ ?_
          rotate_left
          ·intro w'
           go_simp
           with_reducible rfl
          rotate_left
          ·simp only [Act.put, List.setIfInBounds_toArray, List.set_cons_zero, List.set_cons_succ, i64_w, i32_w]
           rfl
          refine done_ (done_of HT_.out (by kernel_rfl)) ?_
          have hcz70_0 : w69.cell? ⟨gb558, 0, none⟩ = some (.int .i64 t556) := (blk_cell BK558.out 0).trans rfl
          have hcz70_1 : w69.cell? ⟨gb558, 1, none⟩ = some (.int .i64 t557) := (blk_cell BK558.out 1).trans rfl
          have hfz70_0 := blk_frozen BK558.out 0
          have hfz70_1 := blk_frozen BK558.out 1
          have hcz71_0 : w69.cell? ⟨gb549, 0, none⟩ = some (.int .i64 x550000_1) := (blk_cell BK549.out 0).trans rfl
          have hcz71_1 : w69.cell? ⟨gb549, 1, none⟩ = some (.int .i64 x550001_1) := (blk_cell BK549.out 1).trans rfl
          have hfz71_0 := blk_frozen BK549.out 0
          have hfz71_1 := blk_frozen BK549.out 1
          try go_wp2
          go_roundg k1
          case measure => have := HK1.out; omega
          case rel => exact ⟨(true), (wrap64 (x20_1 + 1)), (t556), (t557), (by first | rfl | (simp; done) | (simp [*]; done) | (simp [Int.tdiv_eq_ediv_of_nonneg]; done) | (simp [Go.RowKit.wrap64]; done) | (simp [*, Go.RowKit.wrap64]; done)), (by first | rfl | (simp; done) | (simp [*]; done) | (simp [Int.tdiv_eq_ediv_of_nonneg]; done) | (simp [Go.RowKit.wrap64]; done) | (simp [*, Go.RowKit.wrap64]; done)), H', ⟨by have := HK1.out; omega⟩, ⟨by (with_reducible repeat (first | refine blk_drewN ?_ _ | refine blk_drew ?_ | refine blk_alloc ?_ _)); refine blk_far ?_ NB547_549.out _; (with_reducible repeat (first | refine blk_drewN ?_ _ | refine blk_drew ?_ | refine blk_alloc ?_ _)); refine blk_far ?_ NB547_549.out _; (with_reducible repeat (first | refine blk_drewN ?_ _ | refine blk_drew ?_ | refine blk_alloc ?_ _)); exact BK547.out⟩, ⟨by (with_reducible repeat (first | refine blk_drewN ?_ _ | refine blk_drew ?_ | refine blk_alloc ?_ _)); refine blk_put (cs := #[.int .i64 t556, .int .i64 x550001_1]) ?_ 1 _ rfl; (with_reducible repeat (first | refine blk_drewN ?_ _ | refine blk_drew ?_ | refine blk_alloc ?_ _)); refine blk_put (cs := #[.int .i64 x550000_1, .int .i64 x550001_1]) ?_ 0 _ rfl; (with_reducible repeat (first | refine blk_drewN ?_ _ | refine blk_drew ?_ | refine blk_alloc ?_ _)); exact BK549.out⟩, ⟨by repeat (first | (with_reducible first | exact HB.out | apply below_alloc | apply pw_below_drewN | apply below_drew1 | refine below_set ?_ GE547.out | refine below_set ?_ GE549.out | refine below_set ?_ GE555.out | refine below_set ?_ GE558.out) | exact HB.out)⟩⟩
        ·rw [if_neg c17] at H
         have c17b0 : decide (t556 ≤ t557) = false := decide_eq_false c17
         clear c17
         have H' := Aside0.mk H
         clear H
         have p554 : 0 ≤ (x20_1 : Int) := of_decide_eq_true (by first | (with_reducible assumption) | assumption)
         have q554 : x20_1 < (l1.length : Int) := of_decide_eq_true (by first | (with_reducible assumption) | assumption)
         obtain ⟨ad554, e554, hx554_0, hx554_1, hx554_2, hx554_3⟩ := at_T57 HR1.out x20_1 p554 q554
         cases e554
         replace hx554_0 := (HB.out.cell (World.block_lt_of_cell? w _ hx554_0)).trans hx554_0
         replace hx554_1 := (HB.out.cell (World.block_lt_of_cell? w _ hx554_1)).trans hx554_1
         replace hx554_2 := (HB.out.cell (World.block_lt_of_cell? w _ hx554_2)).trans hx554_2
         replace hx554_3 := (HB.out.cell (World.block_lt_of_cell? w _ hx554_3)).trans hx554_3
         replace p554 := eq_true p554
         replace q554 := eq_true q554
         try go_wp2_with (first | ((with_reducible refine gate_dst (N := 8) rfl ?_); refine box_event ?hg (N := 8) ?hd (cs := #[.int .i64 0, .int .i64 0, .int .i64 0, .int .i64 0]) (t := 57) ?hr ?_; (case hd => rfl); (case hg => rfl); (case hr => first | (go_simp; done) | (go_simp; rfl)); intro gb555 hg w72 hbox hb; have n0_ := Aside0.mk (blk_below (g := gb547) (o := .cells #[.int .i64 a0_0, .int .i64 a0_1, .int .i64 a0_2, .int .i64 a0_3, .int .i64 a0_4, .int .i64 a0_5, .int .i64 a0_6, .int .i64 a0_7, .int .i64 a0_8, .int .i64 a0_9, .int .i64 a0_10, .int .i64 a0_11] 23 (0, 0)) (by (with_reducible repeat (first | refine blk_drewN ?_ _ | refine blk_drew ?_ | refine blk_alloc ?_ _)); exact BK547.out) hb); have n1_ := Aside0.mk (blk_below (g := gb549) (o := .cells #[.int .i64 x550000_1, .int .i64 x550001_1] 25 (0, 0)) (by (with_reducible repeat (first | refine blk_drewN ?_ _ | refine blk_drew ?_ | refine blk_alloc ?_ _)); exact BK549.out) hb); have n2_ := Aside0.mk (below_step (by repeat (first | (with_reducible first | exact HB.out | apply below_alloc | apply pw_below_drewN | apply below_drew1 | refine below_set ?_ GE547.out | refine below_set ?_ GE549.out) | exact HB.out)) hb); have n3_ := Aside0.mk (hbox); have n4_ := Aside0.mk ((by rw [hg]; exact (below_size (by repeat (first | (with_reducible first | exact HB.out | apply below_alloc | apply pw_below_drewN | apply below_drew1 | refine below_set ?_ GE547.out | refine below_set ?_ GE549.out) | exact HB.out))) : w.heap.size ≤ gb555)); have n5_ := Aside0.mk ((by rw [hg]; exact (below_size (by repeat (first | (with_reducible first | exact HB.out | apply below_alloc | apply pw_below_drewN | apply below_drew1 | refine below_set ?_ GE547.out | refine below_set ?_ GE549.out) | exact HB.out))) : w.heap.size ≤ gb555)); have n6_ := Aside0.mk ((by rw [hg]; exact Nat.ne_of_lt (blk_lt (g := gb547) (o := .cells #[.int .i64 a0_0, .int .i64 a0_1, .int .i64 a0_2, .int .i64 a0_3, .int .i64 a0_4, .int .i64 a0_5, .int .i64 a0_6, .int .i64 a0_7, .int .i64 a0_8, .int .i64 a0_9, .int .i64 a0_10, .int .i64 a0_11] 23 (0, 0)) (by (with_reducible repeat (first | refine blk_drewN ?_ _ | refine blk_drew ?_ | refine blk_alloc ?_ _)); exact BK547.out)) : gb547 ≠ gb555)); have n7_ := Aside0.mk ((by rw [hg]; exact Nat.ne_of_gt (blk_lt (g := gb547) (o := .cells #[.int .i64 a0_0, .int .i64 a0_1, .int .i64 a0_2, .int .i64 a0_3, .int .i64 a0_4, .int .i64 a0_5, .int .i64 a0_6, .int .i64 a0_7, .int .i64 a0_8, .int .i64 a0_9, .int .i64 a0_10, .int .i64 a0_11] 23 (0, 0)) (by (with_reducible repeat (first | refine blk_drewN ?_ _ | refine blk_drew ?_ | refine blk_alloc ?_ _)); exact BK547.out)) : gb555 ≠ gb547)); have n8_ := Aside0.mk ((by rw [hg]; exact Nat.ne_of_lt (blk_lt (g := gb549) (o := .cells #[.int .i64 x550000_1, .int .i64 x550001_1] 25 (0, 0)) (by (with_reducible repeat (first | refine blk_drewN ?_ _ | refine blk_drew ?_ | refine blk_alloc ?_ _)); exact BK549.out)) : gb549 ≠ gb555)); have n9_ := Aside0.mk ((by rw [hg]; exact Nat.ne_of_gt (blk_lt (g := gb549) (o := .cells #[.int .i64 x550000_1, .int .i64 x550001_1] 25 (0, 0)) (by (with_reducible repeat (first | refine blk_drewN ?_ _ | refine blk_drew ?_ | refine blk_alloc ?_ _)); exact BK549.out)) : gb555 ≠ gb549)); clear BK547; clear BK549; clear HB; have BK547 := n0_; have BK549 := n1_; have HB := n2_; have BK555 := n3_; have GW555 := n4_; have GE555 := n5_; have NB547_555 := n6_; have NB555_547 := n7_; have NB549_555 := n8_; have NB555_549 := n9_; clear n0_ n1_ n2_ n3_ n4_ n5_ n6_ n7_ n8_ n9_; clear hb hbox hg; have hnb73 := NB555_547.out; have hnc73 := NB547_555.out; have hnb74 := NB555_549.out; have hnc74 := NB549_555.out; have hcz75_0 : w72.cell? ⟨gb555, 0, none⟩ = some (.int .i64 0) := (blk_cell BK555.out 0).trans rfl; have hcz75_1 : w72.cell? ⟨gb555, 1, none⟩ = some (.int .i64 0) := (blk_cell BK555.out 1).trans rfl; have hcz75_2 : w72.cell? ⟨gb555, 2, none⟩ = some (.int .i64 0) := (blk_cell BK555.out 2).trans rfl; have hcz75_3 : w72.cell? ⟨gb555, 3, none⟩ = some (.int .i64 0) := (blk_cell BK555.out 3).trans rfl; have hfz75_0 := blk_frozen BK555.out 0; have hfz75_1 := blk_frozen BK555.out 1; have hfz75_2 := blk_frozen BK555.out 2; have hfz75_3 := blk_frozen BK555.out 3; have hnb76 := NB547_549.out; have hnc76 := NB549_547.out; have hcz77_0 : w72.cell? ⟨gb547, 0, none⟩ = some (.int .i64 a0_0) := (blk_cell BK547.out 0).trans rfl; have hcz77_1 : w72.cell? ⟨gb547, 1, none⟩ = some (.int .i64 a0_1) := (blk_cell BK547.out 1).trans rfl; have hcz77_2 : w72.cell? ⟨gb547, 2, none⟩ = some (.int .i64 a0_2) := (blk_cell BK547.out 2).trans rfl; have hcz77_3 : w72.cell? ⟨gb547, 3, none⟩ = some (.int .i64 a0_3) := (blk_cell BK547.out 3).trans rfl; have hcz77_4 : w72.cell? ⟨gb547, 4, none⟩ = some (.int .i64 a0_4) := (blk_cell BK547.out 4).trans rfl; have hcz77_5 : w72.cell? ⟨gb547, 5, none⟩ = some (.int .i64 a0_5) := (blk_cell BK547.out 5).trans rfl; have hcz77_6 : w72.cell? ⟨gb547, 6, none⟩ = some (.int .i64 a0_6) := (blk_cell BK547.out 6).trans rfl; have hcz77_7 : w72.cell? ⟨gb547, 7, none⟩ = some (.int .i64 a0_7) := (blk_cell BK547.out 7).trans rfl; have hcz77_8 : w72.cell? ⟨gb547, 8, none⟩ = some (.int .i64 a0_8) := (blk_cell BK547.out 8).trans rfl; have hcz77_9 : w72.cell? ⟨gb547, 9, none⟩ = some (.int .i64 a0_9) := (blk_cell BK547.out 9).trans rfl; have hcz77_10 : w72.cell? ⟨gb547, 10, none⟩ = some (.int .i64 a0_10) := (blk_cell BK547.out 10).trans rfl; have hcz77_11 : w72.cell? ⟨gb547, 11, none⟩ = some (.int .i64 a0_11) := (blk_cell BK547.out 11).trans rfl; have hfz77_0 := blk_frozen BK547.out 0; have hfz77_1 := blk_frozen BK547.out 1; have hfz77_2 := blk_frozen BK547.out 2; have hfz77_3 := blk_frozen BK547.out 3; have hfz77_4 := blk_frozen BK547.out 4; have hfz77_5 := blk_frozen BK547.out 5; have hfz77_6 := blk_frozen BK547.out 6; have hfz77_7 := blk_frozen BK547.out 7; have hfz77_8 := blk_frozen BK547.out 8; have hfz77_9 := blk_frozen BK547.out 9; have hfz77_10 := blk_frozen BK547.out 10; have hfz77_11 := blk_frozen BK547.out 11) | ((with_reducible refine gate_callee (f := 32) rfl ?_); refine goesL_ (some 26) rfl rfl Try.func32 (by kernel_rfl) rfl #[.agg #[.int .i64 a0_0, .int .i64 a0_1, .int .i64 a0_2, .int .i64 a0_3, .int .i64 a0_4, .int .i64 a0_5, .int .i64 a0_6, .int .i64 a0_7, .int .i64 a0_8, .int .i64 a0_9, .int .i64 a0_10, .int .i64 a0_11], .agg #[.int .i64 ((rd_T57 l1 x20_1).f0), .int .i64 ((rd_T57 l1 x20_1).f1), .int .i64 ((rd_T57 l1 x20_1).f2), .int .i64 ((rd_T57 l1 x20_1).f3)]] rfl (by (try simp only [List.map_toArray, List.map_cons, List.map_nil]); first | done | rfl | (simp only [List.length_drop, List.length_take]; rfl)) ?_; (with_reducible refine (clepsydralaw10_ahead.calls k1 a0_0 a0_1 a0_2 a0_3 a0_4 a0_5 a0_6 a0_7 a0_8 a0_9 a0_10 a0_11 ((rd_T57 l1 x20_1).f0) ((rd_T57 l1 x20_1).f1) ((rd_T57 l1 x20_1).f2) ((rd_T57 l1 x20_1).f3) t556 t557 _ A16.out).mono ?_); rintro e w78 ⟨rfl, hb⟩; refine ⟨_, rfl, ?_⟩; have n0_ := Aside0.mk (blk_below (g := gb547) (o := .cells #[.int .i64 a0_0, .int .i64 a0_1, .int .i64 a0_2, .int .i64 a0_3, .int .i64 a0_4, .int .i64 a0_5, .int .i64 a0_6, .int .i64 a0_7, .int .i64 a0_8, .int .i64 a0_9, .int .i64 a0_10, .int .i64 a0_11] 23 (0, 0)) (by (with_reducible repeat (first | refine blk_drewN ?_ _ | refine blk_drew ?_ | refine blk_alloc ?_ _)); refine blk_far ?_ NB547_555.out _; (with_reducible repeat (first | refine blk_drewN ?_ _ | refine blk_drew ?_ | refine blk_alloc ?_ _)); refine blk_far ?_ NB547_555.out _; (with_reducible repeat (first | refine blk_drewN ?_ _ | refine blk_drew ?_ | refine blk_alloc ?_ _)); refine blk_far ?_ NB547_555.out _; (with_reducible repeat (first | refine blk_drewN ?_ _ | refine blk_drew ?_ | refine blk_alloc ?_ _)); refine blk_far ?_ NB547_555.out _; (with_reducible repeat (first | refine blk_drewN ?_ _ | refine blk_drew ?_ | refine blk_alloc ?_ _)); exact BK547.out) hb); have n1_ := Aside0.mk (blk_below (g := gb549) (o := .cells #[.int .i64 x550000_1, .int .i64 x550001_1] 25 (0, 0)) (by (with_reducible repeat (first | refine blk_drewN ?_ _ | refine blk_drew ?_ | refine blk_alloc ?_ _)); refine blk_far ?_ NB549_555.out _; (with_reducible repeat (first | refine blk_drewN ?_ _ | refine blk_drew ?_ | refine blk_alloc ?_ _)); refine blk_far ?_ NB549_555.out _; (with_reducible repeat (first | refine blk_drewN ?_ _ | refine blk_drew ?_ | refine blk_alloc ?_ _)); refine blk_far ?_ NB549_555.out _; (with_reducible repeat (first | refine blk_drewN ?_ _ | refine blk_drew ?_ | refine blk_alloc ?_ _)); refine blk_far ?_ NB549_555.out _; (with_reducible repeat (first | refine blk_drewN ?_ _ | refine blk_drew ?_ | refine blk_alloc ?_ _)); exact BK549.out) hb); have n2_ := Aside0.mk (blk_below (g := gb555) (o := .cells #[.int .i64 ((rd_T57 l1 x20_1).f0), .int .i64 ((rd_T57 l1 x20_1).f1), .int .i64 ((rd_T57 l1 x20_1).f2), .int .i64 ((rd_T57 l1 x20_1).f3)] 57 (0, 0)) (by (with_reducible repeat (first | refine blk_drewN ?_ _ | refine blk_drew ?_ | refine blk_alloc ?_ _)); refine blk_put (cs := #[.int .i64 ((rd_T57 l1 x20_1).f0), .int .i64 ((rd_T57 l1 x20_1).f1), .int .i64 ((rd_T57 l1 x20_1).f2), .int .i64 0]) ?_ 3 _ rfl; (with_reducible repeat (first | refine blk_drewN ?_ _ | refine blk_drew ?_ | refine blk_alloc ?_ _)); refine blk_put (cs := #[.int .i64 ((rd_T57 l1 x20_1).f0), .int .i64 ((rd_T57 l1 x20_1).f1), .int .i64 0, .int .i64 0]) ?_ 2 _ rfl; (with_reducible repeat (first | refine blk_drewN ?_ _ | refine blk_drew ?_ | refine blk_alloc ?_ _)); refine blk_put (cs := #[.int .i64 ((rd_T57 l1 x20_1).f0), .int .i64 0, .int .i64 0, .int .i64 0]) ?_ 1 _ rfl; (with_reducible repeat (first | refine blk_drewN ?_ _ | refine blk_drew ?_ | refine blk_alloc ?_ _)); refine blk_put (cs := #[.int .i64 0, .int .i64 0, .int .i64 0, .int .i64 0]) ?_ 0 _ rfl; (with_reducible repeat (first | refine blk_drewN ?_ _ | refine blk_drew ?_ | refine blk_alloc ?_ _)); exact BK555.out) hb); have n3_ := Aside0.mk (below_step (by repeat (first | (with_reducible first | exact HB.out | apply below_alloc | apply pw_below_drewN | apply below_drew1 | refine below_set ?_ GE547.out | refine below_set ?_ GE549.out | refine below_set ?_ GE555.out) | exact HB.out)) hb); clear BK547; clear BK549; clear BK555; clear HB; have BK547 := n0_; have BK549 := n1_; have BK555 := n2_; have HB := n3_; clear n0_ n1_ n2_ n3_; (try clear hb); (try clear hb2); (try clear hk); (try clear hi)) | ((with_reducible refine gate_dst (N := 9) rfl ?_); refine box_event ?hg (N := 9) ?hd (cs := #[.int .i64 0, .int .i64 0]) (t := 25) ?hr ?_; (case hd => rfl); (case hg => rfl); (case hr => first | (go_simp; done) | (go_simp; rfl)); intro gb558 hg w79 hbox hb; have n0_ := Aside0.mk (blk_below (g := gb547) (o := .cells #[.int .i64 a0_0, .int .i64 a0_1, .int .i64 a0_2, .int .i64 a0_3, .int .i64 a0_4, .int .i64 a0_5, .int .i64 a0_6, .int .i64 a0_7, .int .i64 a0_8, .int .i64 a0_9, .int .i64 a0_10, .int .i64 a0_11] 23 (0, 0)) (by (with_reducible repeat (first | refine blk_drewN ?_ _ | refine blk_drew ?_ | refine blk_alloc ?_ _)); exact BK547.out) hb); have n1_ := Aside0.mk (blk_below (g := gb549) (o := .cells #[.int .i64 x550000_1, .int .i64 x550001_1] 25 (0, 0)) (by (with_reducible repeat (first | refine blk_drewN ?_ _ | refine blk_drew ?_ | refine blk_alloc ?_ _)); exact BK549.out) hb); have n2_ := Aside0.mk (blk_below (g := gb555) (o := .cells #[.int .i64 ((rd_T57 l1 x20_1).f0), .int .i64 ((rd_T57 l1 x20_1).f1), .int .i64 ((rd_T57 l1 x20_1).f2), .int .i64 ((rd_T57 l1 x20_1).f3)] 57 (0, 0)) (by (with_reducible repeat (first | refine blk_drewN ?_ _ | refine blk_drew ?_ | refine blk_alloc ?_ _)); exact BK555.out) hb); have n3_ := Aside0.mk (below_step (by repeat (first | (with_reducible first | exact HB.out | apply below_alloc | apply pw_below_drewN | apply below_drew1 | refine below_set ?_ GE547.out | refine below_set ?_ GE549.out | refine below_set ?_ GE555.out) | exact HB.out)) hb); have n4_ := Aside0.mk (hbox); have n5_ := Aside0.mk ((by rw [hg]; exact (below_size (by repeat (first | (with_reducible first | exact HB.out | apply below_alloc | apply pw_below_drewN | apply below_drew1 | refine below_set ?_ GE547.out | refine below_set ?_ GE549.out | refine below_set ?_ GE555.out) | exact HB.out))) : w.heap.size ≤ gb558)); have n6_ := Aside0.mk ((by rw [hg]; exact (below_size (by repeat (first | (with_reducible first | exact HB.out | apply below_alloc | apply pw_below_drewN | apply below_drew1 | refine below_set ?_ GE547.out | refine below_set ?_ GE549.out | refine below_set ?_ GE555.out) | exact HB.out))) : w.heap.size ≤ gb558)); have n7_ := Aside0.mk ((by rw [hg]; exact Nat.ne_of_lt (blk_lt (g := gb547) (o := .cells #[.int .i64 a0_0, .int .i64 a0_1, .int .i64 a0_2, .int .i64 a0_3, .int .i64 a0_4, .int .i64 a0_5, .int .i64 a0_6, .int .i64 a0_7, .int .i64 a0_8, .int .i64 a0_9, .int .i64 a0_10, .int .i64 a0_11] 23 (0, 0)) (by (with_reducible repeat (first | refine blk_drewN ?_ _ | refine blk_drew ?_ | refine blk_alloc ?_ _)); exact BK547.out)) : gb547 ≠ gb558)); have n8_ := Aside0.mk ((by rw [hg]; exact Nat.ne_of_gt (blk_lt (g := gb547) (o := .cells #[.int .i64 a0_0, .int .i64 a0_1, .int .i64 a0_2, .int .i64 a0_3, .int .i64 a0_4, .int .i64 a0_5, .int .i64 a0_6, .int .i64 a0_7, .int .i64 a0_8, .int .i64 a0_9, .int .i64 a0_10, .int .i64 a0_11] 23 (0, 0)) (by (with_reducible repeat (first | refine blk_drewN ?_ _ | refine blk_drew ?_ | refine blk_alloc ?_ _)); exact BK547.out)) : gb558 ≠ gb547)); have n9_ := Aside0.mk ((by rw [hg]; exact Nat.ne_of_lt (blk_lt (g := gb549) (o := .cells #[.int .i64 x550000_1, .int .i64 x550001_1] 25 (0, 0)) (by (with_reducible repeat (first | refine blk_drewN ?_ _ | refine blk_drew ?_ | refine blk_alloc ?_ _)); exact BK549.out)) : gb549 ≠ gb558)); have n10_ := Aside0.mk ((by rw [hg]; exact Nat.ne_of_gt (blk_lt (g := gb549) (o := .cells #[.int .i64 x550000_1, .int .i64 x550001_1] 25 (0, 0)) (by (with_reducible repeat (first | refine blk_drewN ?_ _ | refine blk_drew ?_ | refine blk_alloc ?_ _)); exact BK549.out)) : gb558 ≠ gb549)); have n11_ := Aside0.mk ((by rw [hg]; exact Nat.ne_of_lt (blk_lt (g := gb555) (o := .cells #[.int .i64 ((rd_T57 l1 x20_1).f0), .int .i64 ((rd_T57 l1 x20_1).f1), .int .i64 ((rd_T57 l1 x20_1).f2), .int .i64 ((rd_T57 l1 x20_1).f3)] 57 (0, 0)) (by (with_reducible repeat (first | refine blk_drewN ?_ _ | refine blk_drew ?_ | refine blk_alloc ?_ _)); exact BK555.out)) : gb555 ≠ gb558)); have n12_ := Aside0.mk ((by rw [hg]; exact Nat.ne_of_gt (blk_lt (g := gb555) (o := .cells #[.int .i64 ((rd_T57 l1 x20_1).f0), .int .i64 ((rd_T57 l1 x20_1).f1), .int .i64 ((rd_T57 l1 x20_1).f2), .int .i64 ((rd_T57 l1 x20_1).f3)] 57 (0, 0)) (by (with_reducible repeat (first | refine blk_drewN ?_ _ | refine blk_drew ?_ | refine blk_alloc ?_ _)); exact BK555.out)) : gb558 ≠ gb555)); clear BK547; clear BK549; clear BK555; clear HB; have BK547 := n0_; have BK549 := n1_; have BK555 := n2_; have HB := n3_; have BK558 := n4_; have GW558 := n5_; have GE558 := n6_; have NB547_558 := n7_; have NB558_547 := n8_; have NB549_558 := n9_; have NB558_549 := n10_; have NB555_558 := n11_; have NB558_555 := n12_; clear n0_ n1_ n2_ n3_ n4_ n5_ n6_ n7_ n8_ n9_ n10_ n11_ n12_; clear hb hbox hg; have hnb80 := NB558_547.out; have hnc80 := NB547_558.out; have hnb81 := NB558_549.out; have hnc81 := NB549_558.out; have hnb82 := NB558_555.out; have hnc82 := NB555_558.out; have hcz83_0 : w79.cell? ⟨gb558, 0, none⟩ = some (.int .i64 0) := (blk_cell BK558.out 0).trans rfl; have hcz83_1 : w79.cell? ⟨gb558, 1, none⟩ = some (.int .i64 0) := (blk_cell BK558.out 1).trans rfl; have hfz83_0 := blk_frozen BK558.out 0; have hfz83_1 := blk_frozen BK558.out 1))
         have n0_ : Aside0 (((w79.setCell ⟨gb558, 0, none⟩ (.int .i64 t556)).setCell ⟨gb558, 1, none⟩ (.int .i64 t557)).heap[gb547]? = some (.cells #[.int .i64 a0_0, .int .i64 a0_1, .int .i64 a0_2, .int .i64 a0_3, .int .i64 a0_4, .int .i64 a0_5, .int .i64 a0_6, .int .i64 a0_7, .int .i64 a0_8, .int .i64 a0_9, .int .i64 a0_10, .int .i64 a0_11] 23 (0, 0))) := ⟨by (with_reducible repeat (first | refine blk_drewN ?_ _ | refine blk_drew ?_ | refine blk_alloc ?_ _)); refine blk_far ?_ NB547_558.out _; (with_reducible repeat (first | refine blk_drewN ?_ _ | refine blk_drew ?_ | refine blk_alloc ?_ _)); refine blk_far ?_ NB547_558.out _; (with_reducible repeat (first | refine blk_drewN ?_ _ | refine blk_drew ?_ | refine blk_alloc ?_ _)); exact BK547.out⟩
         have n1_ : Aside0 (((w79.setCell ⟨gb558, 0, none⟩ (.int .i64 t556)).setCell ⟨gb558, 1, none⟩ (.int .i64 t557)).heap[gb549]? = some (.cells #[.int .i64 x550000_1, .int .i64 x550001_1] 25 (0, 0))) := ⟨by (with_reducible repeat (first | refine blk_drewN ?_ _ | refine blk_drew ?_ | refine blk_alloc ?_ _)); refine blk_far ?_ NB549_558.out _; (with_reducible repeat (first | refine blk_drewN ?_ _ | refine blk_drew ?_ | refine blk_alloc ?_ _)); refine blk_far ?_ NB549_558.out _; (with_reducible repeat (first | refine blk_drewN ?_ _ | refine blk_drew ?_ | refine blk_alloc ?_ _)); exact BK549.out⟩
         have n2_ : Aside0 (((w79.setCell ⟨gb558, 0, none⟩ (.int .i64 t556)).setCell ⟨gb558, 1, none⟩ (.int .i64 t557)).heap[gb555]? = some (.cells #[.int .i64 ((rd_T57 l1 x20_1).f0), .int .i64 ((rd_T57 l1 x20_1).f1), .int .i64 ((rd_T57 l1 x20_1).f2), .int .i64 ((rd_T57 l1 x20_1).f3)] 57 (0, 0))) := ⟨by (with_reducible repeat (first | refine blk_drewN ?_ _ | refine blk_drew ?_ | refine blk_alloc ?_ _)); refine blk_far ?_ NB555_558.out _; (with_reducible repeat (first | refine blk_drewN ?_ _ | refine blk_drew ?_ | refine blk_alloc ?_ _)); refine blk_far ?_ NB555_558.out _; (with_reducible repeat (first | refine blk_drewN ?_ _ | refine blk_drew ?_ | refine blk_alloc ?_ _)); exact BK555.out⟩
         have n3_ : Aside0 (((w79.setCell ⟨gb558, 0, none⟩ (.int .i64 t556)).setCell ⟨gb558, 1, none⟩ (.int .i64 t557)).heap[gb558]? = some (.cells #[.int .i64 t556, .int .i64 t557] 25 (0, 0))) := ⟨by (with_reducible repeat (first | refine blk_drewN ?_ _ | refine blk_drew ?_ | refine blk_alloc ?_ _)); refine blk_put (cs := #[.int .i64 t556, .int .i64 0]) ?_ 1 _ rfl; (with_reducible repeat (first | refine blk_drewN ?_ _ | refine blk_drew ?_ | refine blk_alloc ?_ _)); refine blk_put (cs := #[.int .i64 0, .int .i64 0]) ?_ 0 _ rfl; (with_reducible repeat (first | refine blk_drewN ?_ _ | refine blk_drew ?_ | refine blk_alloc ?_ _)); exact BK558.out⟩
         have n4_ : Aside0 (Below w.heap.size w ((w79.setCell ⟨gb558, 0, none⟩ (.int .i64 t556)).setCell ⟨gb558, 1, none⟩ (.int .i64 t557))) := ⟨by repeat (first | (with_reducible first | exact HB.out | apply below_alloc | apply pw_below_drewN | apply below_drew1 | refine below_set ?_ GE547.out | refine below_set ?_ GE549.out | refine below_set ?_ GE555.out | refine below_set ?_ GE558.out) | exact HB.out)⟩
         (try clear BK547)
         (try clear BK549)
         (try clear BK555)
         (try clear BK558)
         (try clear HB)
         generalize ((w79.setCell ⟨gb558, 0, none⟩ (.int .i64 t556)).setCell ⟨gb558, 1, none⟩ (.int .i64 t557)) = w84 at n0_ n1_ n2_ n3_ n4_ ⊢
         have BK547 := n0_
         have BK549 := n1_
         have BK555 := n2_
         have BK558 := n3_
         have HB := n4_
         clear n0_ n1_ n2_ n3_ n4_
         have n0_ := Aside0.mk (blk_drew BK547.out)
         have n1_ := Aside0.mk (blk_drew BK549.out)
         have n2_ := Aside0.mk (blk_drew BK555.out)
         have n3_ := Aside0.mk (blk_drew BK558.out)
         have n4_ := Aside0.mk (below_drew1 HB.out)
         clear BK547
         clear BK549
         clear BK555
         clear BK558
         clear HB
         have BK547 := n0_
         have BK549 := n1_
         have BK555 := n2_
         have BK558 := n3_
         have HB := n4_
         clear n0_ n1_ n2_ n3_ n4_
         refine start_ (n := 16) (S := fun w' => w'.cell? ⟨gb558, 0, none⟩ = some (.int .i64 t556) ∧ w'.cell? ⟨gb558, 1, none⟩ = some (.int .i64 t557)) (ds := []) #[false, false, false, false, false, false, false, false, false, false, false, false, false, false, false, false] (by kernel_rfl) rfl rfl ⟨(blk_cell BK558.out 0).trans rfl, (blk_cell BK558.out 1).trans rfl⟩ (fun hHeld => ?_); refine with_tabW clepsydralaw10_ProbeBest.tab10 clepsydralaw10_ProbeBest.bits10 (fun HT_ HW_ => ?_)
         generalize w84.drew = w85 at BK547 BK549 BK555 BK558 HB hHeld ⊢
         refine pure_ (i := 0) (N := some 27) (v := ?_) (a' := ?_) #[true, false, false, false, false, false, false, false, false, false, false, false, false, false, false, false] rfl rfl (any_of HT_.out (by kernel_rfl)) (fun _ _ _ h => h) (Or.inl ⟨by rfl, ?_⟩) ?_ ?_
         rotate_left
         ·intro w'
          go_simp
          with_reducible rfl
         rotate_left
         ·simp only [Act.put, List.setIfInBounds_toArray, List.set_cons_zero, List.set_cons_succ, i64_w, i32_w]
          rfl
         refine pure_ (i := 2) (N := some 29) (v := ?_) (a' := ?_) #[true, false, true, false, false, false, false, false, false, false, false, false, false, false, false, false] rfl rfl (any_of HT_.out (by kernel_rfl)) (fun _ _ _ h => h) (Or.inl ⟨by rfl, ?_⟩) ?_ ?_
         rotate_left
         ·intro w'
          go_simp
          with_reducible rfl
         rotate_left
         ·simp only [Act.put, List.setIfInBounds_toArray, List.set_cons_zero, List.set_cons_succ, i64_w, i32_w]
          rfl
         refine take_ (i := 1) (N := some 28) (v := ?_) (a' := ?_) #[true, true, true, false, false, false, false, false, false, false, false, false, false, false, false, false] rfl rfl (take_ofW HT_.out HW_.out (by kernel_rfl)) (fun _ _ _ h => h) (Or.inl ⟨by rfl, ?_⟩) hHeld ?_ ?_
         rotate_left
         ·rintro w' ⟨s0, s1⟩
          go_simp
          with_reducible rfl
         rotate_left
         ·simp only [Act.put, List.setIfInBounds_toArray, List.set_cons_zero, List.set_cons_succ, i64_w, i32_w]
          rfl
         refine take_ (i := 3) (N := some 30) (v := ?_) (a' := ?_) #[true, true, true, true, false, false, false, false, false, false, false, false, false, false, false, false] rfl rfl (take_ofW HT_.out HW_.out (by kernel_rfl)) (fun _ _ _ h => h) (Or.inl ⟨by rfl, ?_⟩) hHeld ?_ ?_
         rotate_left
         ·rintro w' ⟨s0, s1⟩
          go_simp
          with_reducible rfl
         rotate_left
         ·simp only [Act.put, List.setIfInBounds_toArray, List.set_cons_zero, List.set_cons_succ, i64_w, i32_w]
          rfl
         refine pure_ (i := 4) (N := some 31) (v := ?_) (a' := ?_) #[true, true, true, true, true, false, false, false, false, false, false, false, false, false, false, false] rfl rfl (any_of HT_.out (by kernel_rfl)) (fun _ _ _ h => h) (Or.inl ⟨by rfl, ?_⟩) ?_ ?_
         rotate_left
         ·intro w'
          go_simp
          with_reducible rfl
         rotate_left
         ·simp only [Act.put, List.setIfInBounds_toArray, List.set_cons_zero, List.set_cons_succ, i64_w, i32_w]
          rfl
         refine pure_ (i := 5) (N := some 32) (v := ?_) (a' := ?_) #[true, true, true, true, true, true, false, false, false, false, false, false, false, false, false, false] rfl rfl (any_of HT_.out (by kernel_rfl)) (fun _ _ _ h => h) (Or.inl ⟨by rfl, ?_⟩) ?_ ?_
         rotate_left
         ·intro w'
          go_simp
          with_reducible rfl
         rotate_left
         ·simp only [Act.put, List.setIfInBounds_toArray, List.set_cons_zero, List.set_cons_succ, i64_w, i32_w]
          rfl
         refine pure_ (i := 6) (N := some 33) (v := undef) (a' := ?_) #[true, true, true, true, true, true, true, false, false, false, false, false, false, false, false, false] rfl rfl (any_of HT_.out (by kernel_rfl)) (fun _ _ _ h => h) (Or.inr ⟨by rfl, rfl⟩) ?_ ?_
         rotate_left
         ·simp only [Act.put, List.setIfInBounds_toArray, List.set_cons_zero, List.set_cons_succ, i64_w, i32_w]
          rfl
         refine pure_ (i := 7) (N := some 34) (v := undef) (a' := ?_) #[true, true, true, true, true, true, true, true, false, false, false, false, false, false, false, false] rfl rfl (any_of HT_.out (by kernel_rfl)) (fun _ _ _ h => h) (Or.inr ⟨by rfl, rfl⟩) ?_ ?_
         rotate_left
         ·simp only [Act.put, List.setIfInBounds_toArray, List.set_cons_zero, List.set_cons_succ, i64_w, i32_w]
          rfl
         refine pure_ (i := 8) (N := some 35) (v := undef) (a' := ?_) #[true, true, true, true, true, true, true, true, true, false, false, false, false, false, false, false] rfl rfl (any_of HT_.out (by kernel_rfl)) (fun _ _ _ h => h) (Or.inr ⟨by rfl, rfl⟩) ?_ ?_
         rotate_left
         ·simp only [Act.put, List.setIfInBounds_toArray, List.set_cons_zero, List.set_cons_succ, i64_w, i32_w]
          rfl
         refine pure_ (i := 9) (N := some 36) (v := undef) (a' := ?_) #[true, true, true, true, true, true, true, true, true, true, false, false, false, false, false, false] rfl rfl (any_of HT_.out (by kernel_rfl)) (fun _ _ _ h => h) (Or.inr ⟨by rfl, rfl⟩) ?_ ?_
         rotate_left
         ·simp only [Act.put, List.setIfInBounds_toArray, List.set_cons_zero, List.set_cons_succ, i64_w, i32_w]
          rfl
         refine pure_ (i := 10) (N := some 37) (v := undef) (a' := ?_) #[true, true, true, true, true, true, true, true, true, true, true, false, false, false, false, false] rfl rfl (any_of HT_.out (by kernel_rfl)) (fun _ _ _ h => h) (Or.inr ⟨by rfl, rfl⟩) ?_ ?_
         rotate_left
         ·simp only [Act.put, List.setIfInBounds_toArray, List.set_cons_zero, List.set_cons_succ, i64_w, i32_w]
          rfl
         refine pure_ (i := 11) (N := some 38) (v := undef) (a' := ?_) #[true, true, true, true, true, true, true, true, true, true, true, true, false, false, false, false] rfl rfl (any_of HT_.out (by kernel_rfl)) (fun _ _ _ h => h) (Or.inr ⟨by rfl, rfl⟩) ?_ ?_
         rotate_left
         ·simp only [Act.put, List.setIfInBounds_toArray, List.set_cons_zero, List.set_cons_succ, i64_w, i32_w]
          rfl
         refine pure_ (i := 12) (N := some 39) (v := undef) (a' := ?_) #[true, true, true, true, true, true, true, true, true, true, true, true, true, false, false, false] rfl rfl (any_of HT_.out (by kernel_rfl)) (fun _ _ _ h => h) (Or.inr ⟨by rfl, rfl⟩) ?_ ?_
         rotate_left
         ·simp only [Act.put, List.setIfInBounds_toArray, List.set_cons_zero, List.set_cons_succ, i64_w, i32_w]
          rfl
         refine pure_ (i := 13) (N := some 40) (v := undef) (a' := ?_) #[true, true, true, true, true, true, true, true, true, true, true, true, true, true, false, false] rfl rfl (any_of HT_.out (by kernel_rfl)) (fun _ _ _ h => h) (Or.inr ⟨by rfl, rfl⟩) ?_ ?_
         rotate_left
         ·simp only [Act.put, List.setIfInBounds_toArray, List.set_cons_zero, List.set_cons_succ, i64_w, i32_w]
          rfl
         refine pure_ (i := 14) (N := some 41) (v := undef) (a' := ?_) #[true, true, true, true, true, true, true, true, true, true, true, true, true, true, true, false] rfl rfl (any_of HT_.out (by kernel_rfl)) (fun _ _ _ h => h) (Or.inr ⟨by rfl, rfl⟩) ?_ ?_
         rotate_left
         ·simp only [Act.put, List.setIfInBounds_toArray, List.set_cons_zero, List.set_cons_succ, i64_w, i32_w]
          rfl
         refine pure_ (i := 15) (N := some 42) (v := ?_) (a' := ?_) #[true, true, true, true, true, true, true, true, true, true, true, true, true, true, true, true] rfl rfl (any_of HT_.out (by kernel_rfl)) (fun _ _ _ h => h) (Or.inl ⟨by rfl, ?_⟩) ?_ ?_
         rotate_left
         ·intro w'
          go_simp
          with_reducible rfl
         rotate_left
         ·simp only [Act.put, List.setIfInBounds_toArray, List.set_cons_zero, List.set_cons_succ, i64_w, i32_w]
          rfl
         refine done_ (done_of HT_.out (by kernel_rfl)) ?_
         try go_wp2
         go_roundg k1
         case measure => have := HK1.out; omega
         case rel => exact ⟨(x6_1), (wrap64 (x20_1 + 1)), (x550000_1), (x550001_1), (by first | rfl | (simp; done) | (simp [*]; done) | (simp [Int.tdiv_eq_ediv_of_nonneg]; done) | (simp [Go.RowKit.wrap64]; done) | (simp [*, Go.RowKit.wrap64]; done)), (by first | rfl | (simp; done) | (simp [*]; done) | (simp [Int.tdiv_eq_ediv_of_nonneg]; done) | (simp [Go.RowKit.wrap64]; done) | (simp [*, Go.RowKit.wrap64]; done)), H', ⟨by have := HK1.out; omega⟩, ⟨by (with_reducible repeat (first | refine blk_drewN ?_ _ | refine blk_drew ?_ | refine blk_alloc ?_ _)); exact BK547.out⟩, ⟨by (with_reducible repeat (first | refine blk_drewN ?_ _ | refine blk_drew ?_ | refine blk_alloc ?_ _)); exact BK549.out⟩, ⟨by repeat (first | (with_reducible first | exact HB.out | apply below_alloc | apply pw_below_drewN | apply below_drew1 | refine below_set ?_ GE547.out | refine below_set ?_ GE549.out | refine below_set ?_ GE555.out | refine below_set ?_ GE558.out) | exact HB.out)⟩⟩
       ·rw [if_neg c15] at H
        exact absurd H (by simp)
      ·rw [if_neg c14] at H
       exact absurd H (by simp)
     ·rw [if_neg c13] at H
      have c13b0 : decide (x20_1 < (l1.length : Int)) = false := decide_eq_false c13
      clear c13
      replace H := Option.bind_eq_some_iff.mp H
      obtain ⟨⟨t550, t551, t552⟩, A860, H⟩ := H
      replace H : (if (t552 == x6_1) = true then (some (t550 == x550000_1 && (t551 == x550001_1))) else (some false)) = some r := H
      have A86 := Aside0.mk A860
      clear A860
      by_cases c87 : (t552 == x6_1) = true
      ·rw [if_pos c87] at H
       have c87b0 : (t552 == x6_1) = true := c87
       (try (have c87b1 : decide (t552 = x6_1) = true := by simpa using c87))
       (try (have c87b2 : (t552 == x6_1) = true := by simpa using c87))
       clear c87
       obtain rfl := Option.some.inj H
       have hnb88 := NB547_549.out
       have hnc88 := NB549_547.out
       have hcz89_0 : wr.cell? ⟨gb547, 0, none⟩ = some (.int .i64 a0_0) := (blk_cell BK547.out 0).trans rfl
       have hcz89_1 : wr.cell? ⟨gb547, 1, none⟩ = some (.int .i64 a0_1) := (blk_cell BK547.out 1).trans rfl
       have hcz89_2 : wr.cell? ⟨gb547, 2, none⟩ = some (.int .i64 a0_2) := (blk_cell BK547.out 2).trans rfl
       have hcz89_3 : wr.cell? ⟨gb547, 3, none⟩ = some (.int .i64 a0_3) := (blk_cell BK547.out 3).trans rfl
       have hcz89_4 : wr.cell? ⟨gb547, 4, none⟩ = some (.int .i64 a0_4) := (blk_cell BK547.out 4).trans rfl
       have hcz89_5 : wr.cell? ⟨gb547, 5, none⟩ = some (.int .i64 a0_5) := (blk_cell BK547.out 5).trans rfl
       have hcz89_6 : wr.cell? ⟨gb547, 6, none⟩ = some (.int .i64 a0_6) := (blk_cell BK547.out 6).trans rfl
       have hcz89_7 : wr.cell? ⟨gb547, 7, none⟩ = some (.int .i64 a0_7) := (blk_cell BK547.out 7).trans rfl
       have hcz89_8 : wr.cell? ⟨gb547, 8, none⟩ = some (.int .i64 a0_8) := (blk_cell BK547.out 8).trans rfl
       have hcz89_9 : wr.cell? ⟨gb547, 9, none⟩ = some (.int .i64 a0_9) := (blk_cell BK547.out 9).trans rfl
       have hcz89_10 : wr.cell? ⟨gb547, 10, none⟩ = some (.int .i64 a0_10) := (blk_cell BK547.out 10).trans rfl
       have hcz89_11 : wr.cell? ⟨gb547, 11, none⟩ = some (.int .i64 a0_11) := (blk_cell BK547.out 11).trans rfl
       have hfz89_0 := blk_frozen BK547.out 0
       have hfz89_1 := blk_frozen BK547.out 1
       have hfz89_2 := blk_frozen BK547.out 2
       have hfz89_3 := blk_frozen BK547.out 3
       have hfz89_4 := blk_frozen BK547.out 4
       have hfz89_5 := blk_frozen BK547.out 5
       have hfz89_6 := blk_frozen BK547.out 6
       have hfz89_7 := blk_frozen BK547.out 7
       have hfz89_8 := blk_frozen BK547.out 8
       have hfz89_9 := blk_frozen BK547.out 9
       have hfz89_10 := blk_frozen BK547.out 10
       have hfz89_11 := blk_frozen BK547.out 11
       go_wp2_with (first | ((with_reducible refine gate_callee (f := 37) rfl ?_); refine goesL_ (some 48) rfl rfl Try.func37 (by kernel_rfl) rfl #[.agg #[.int .i64 a0_0, .int .i64 a0_1, .int .i64 a0_2, .int .i64 a0_3, .int .i64 a0_4, .int .i64 a0_5, .int .i64 a0_6, .int .i64 a0_7, .int .i64 a0_8, .int .i64 a0_9, .int .i64 a0_10, .int .i64 a0_11], .slice A1 l1.length c1] rfl (by (try simp only [List.map_toArray, List.map_cons, List.map_nil]); first | done | rfl | (simp only [List.length_drop, List.length_take]; rfl)) ?_; (with_reducible refine (probe_Best.calls k1 a0_0 a0_1 a0_2 a0_3 a0_4 a0_5 a0_6 a0_7 a0_8 a0_9 a0_10 a0_11 _ _ l1 t550 t551 t552 _ ?side1 ?side2 A86.out).mono ?_); (case side1 => repeat (first | exact (Kd.C_below HR1.out HB.out) | (with_reducible refine Kd.C_alloc ?_ _) | (with_reducible refine Kd.C_drewN ?_ _) | (with_reducible refine Kd.C_drew ?_))); (case side2 => exact HC1.out); rintro e w90 ⟨rfl, hb⟩; refine ⟨_, rfl, ?_⟩; have n0_ := Aside0.mk (blk_below (g := gb547) (o := .cells #[.int .i64 a0_0, .int .i64 a0_1, .int .i64 a0_2, .int .i64 a0_3, .int .i64 a0_4, .int .i64 a0_5, .int .i64 a0_6, .int .i64 a0_7, .int .i64 a0_8, .int .i64 a0_9, .int .i64 a0_10, .int .i64 a0_11] 23 (0, 0)) (by (with_reducible repeat (first | refine blk_drewN ?_ _ | refine blk_drew ?_ | refine blk_alloc ?_ _)); exact BK547.out) hb); have n1_ := Aside0.mk (blk_below (g := gb549) (o := .cells #[.int .i64 x550000_1, .int .i64 x550001_1] 25 (0, 0)) (by (with_reducible repeat (first | refine blk_drewN ?_ _ | refine blk_drew ?_ | refine blk_alloc ?_ _)); exact BK549.out) hb); have n2_ := Aside0.mk (below_step (by repeat (first | (with_reducible first | exact HB.out | apply below_alloc | apply pw_below_drewN | apply below_drew1 | refine below_set ?_ GE547.out | refine below_set ?_ GE549.out) | exact HB.out)) hb); clear BK547; clear BK549; clear HB; have BK547 := n0_; have BK549 := n1_; have HB := n2_; clear n0_ n1_ n2_; (try clear hb); (try clear hb2); (try clear hk); (try clear hi)) | ((with_reducible refine gate_dst (N := 10) rfl ?_); refine box_event ?hg (N := 10) ?hd (cs := #[.int .i64 0, .int .i64 0]) (t := 25) ?hr ?_; (case hd => rfl); (case hg => rfl); (case hr => first | (go_simp; done) | (go_simp; rfl)); intro gb553 hg w91 hbox hb; have n0_ := Aside0.mk (blk_below (g := gb547) (o := .cells #[.int .i64 a0_0, .int .i64 a0_1, .int .i64 a0_2, .int .i64 a0_3, .int .i64 a0_4, .int .i64 a0_5, .int .i64 a0_6, .int .i64 a0_7, .int .i64 a0_8, .int .i64 a0_9, .int .i64 a0_10, .int .i64 a0_11] 23 (0, 0)) (by (with_reducible repeat (first | refine blk_drewN ?_ _ | refine blk_drew ?_ | refine blk_alloc ?_ _)); exact BK547.out) hb); have n1_ := Aside0.mk (blk_below (g := gb549) (o := .cells #[.int .i64 x550000_1, .int .i64 x550001_1] 25 (0, 0)) (by (with_reducible repeat (first | refine blk_drewN ?_ _ | refine blk_drew ?_ | refine blk_alloc ?_ _)); exact BK549.out) hb); have n2_ := Aside0.mk (below_step (by repeat (first | (with_reducible first | exact HB.out | apply below_alloc | apply pw_below_drewN | apply below_drew1 | refine below_set ?_ GE547.out | refine below_set ?_ GE549.out) | exact HB.out)) hb); have n3_ := Aside0.mk (hbox); have n4_ := Aside0.mk ((by rw [hg]; exact (below_size (by repeat (first | (with_reducible first | exact HB.out | apply below_alloc | apply pw_below_drewN | apply below_drew1 | refine below_set ?_ GE547.out | refine below_set ?_ GE549.out) | exact HB.out))) : w.heap.size ≤ gb553)); have n5_ := Aside0.mk ((by rw [hg]; exact (below_size (by repeat (first | (with_reducible first | exact HB.out | apply below_alloc | apply pw_below_drewN | apply below_drew1 | refine below_set ?_ GE547.out | refine below_set ?_ GE549.out) | exact HB.out))) : w.heap.size ≤ gb553)); have n6_ := Aside0.mk ((by rw [hg]; exact Nat.ne_of_lt (blk_lt (g := gb547) (o := .cells #[.int .i64 a0_0, .int .i64 a0_1, .int .i64 a0_2, .int .i64 a0_3, .int .i64 a0_4, .int .i64 a0_5, .int .i64 a0_6, .int .i64 a0_7, .int .i64 a0_8, .int .i64 a0_9, .int .i64 a0_10, .int .i64 a0_11] 23 (0, 0)) (by (with_reducible repeat (first | refine blk_drewN ?_ _ | refine blk_drew ?_ | refine blk_alloc ?_ _)); exact BK547.out)) : gb547 ≠ gb553)); have n7_ := Aside0.mk ((by rw [hg]; exact Nat.ne_of_gt (blk_lt (g := gb547) (o := .cells #[.int .i64 a0_0, .int .i64 a0_1, .int .i64 a0_2, .int .i64 a0_3, .int .i64 a0_4, .int .i64 a0_5, .int .i64 a0_6, .int .i64 a0_7, .int .i64 a0_8, .int .i64 a0_9, .int .i64 a0_10, .int .i64 a0_11] 23 (0, 0)) (by (with_reducible repeat (first | refine blk_drewN ?_ _ | refine blk_drew ?_ | refine blk_alloc ?_ _)); exact BK547.out)) : gb553 ≠ gb547)); have n8_ := Aside0.mk ((by rw [hg]; exact Nat.ne_of_lt (blk_lt (g := gb549) (o := .cells #[.int .i64 x550000_1, .int .i64 x550001_1] 25 (0, 0)) (by (with_reducible repeat (first | refine blk_drewN ?_ _ | refine blk_drew ?_ | refine blk_alloc ?_ _)); exact BK549.out)) : gb549 ≠ gb553)); have n9_ := Aside0.mk ((by rw [hg]; exact Nat.ne_of_gt (blk_lt (g := gb549) (o := .cells #[.int .i64 x550000_1, .int .i64 x550001_1] 25 (0, 0)) (by (with_reducible repeat (first | refine blk_drewN ?_ _ | refine blk_drew ?_ | refine blk_alloc ?_ _)); exact BK549.out)) : gb553 ≠ gb549)); clear BK547; clear BK549; clear HB; have BK547 := n0_; have BK549 := n1_; have HB := n2_; have BK553 := n3_; have GW553 := n4_; have GE553 := n5_; have NB547_553 := n6_; have NB553_547 := n7_; have NB549_553 := n8_; have NB553_549 := n9_; clear n0_ n1_ n2_ n3_ n4_ n5_ n6_ n7_ n8_ n9_; clear hb hbox hg; have hnb92 := NB553_547.out; have hnc92 := NB547_553.out; have hnb93 := NB553_549.out; have hnc93 := NB549_553.out; have hcz94_0 : w91.cell? ⟨gb553, 0, none⟩ = some (.int .i64 0) := (blk_cell BK553.out 0).trans rfl; have hcz94_1 : w91.cell? ⟨gb553, 1, none⟩ = some (.int .i64 0) := (blk_cell BK553.out 1).trans rfl; have hfz94_0 := blk_frozen BK553.out 0; have hfz94_1 := blk_frozen BK553.out 1; have hcz95_0 : w91.cell? ⟨gb549, 0, none⟩ = some (.int .i64 x550000_1) := (blk_cell BK549.out 0).trans rfl; have hcz95_1 : w91.cell? ⟨gb549, 1, none⟩ = some (.int .i64 x550001_1) := (blk_cell BK549.out 1).trans rfl; have hfz95_0 := blk_frozen BK549.out 0; have hfz95_1 := blk_frozen BK549.out 1))
       go_ret
       exact ⟨by first | rfl | (simp [errW_none, errW_some] <;> rfl) | (simp [*, errW_none, errW_some] <;> rfl), by repeat (first | (with_reducible first | exact HB.out | apply below_alloc | apply pw_below_drewN | apply below_drew1 | refine below_set ?_ GE547.out | refine below_set ?_ GE549.out | refine below_set ?_ GE553.out) | exact HB.out)⟩
      ·rw [if_neg c87] at H
       have c87b0 : (t552 == x6_1) = false := by simpa using c87
       (try (have c87b1 : decide (t552 = x6_1) = false := by simpa using c87))
       (try (have c87b2 : (t552 == x6_1) = false := by simpa using c87))
       (try (have c87b3 : ¬ (t552 = x6_1) := by simpa using c87))
       clear c87
       exact absurd ((Option.some.inj H).trans hT.out) (by decide)
 ·replace c4 := Bool.eq_false_iff.mpr c4
  subst c4
  have H1 : (some false) = some r := by rw [if_neg (show ¬ (false = true) by decide)] at H; exact H
  clear H
  have H := H1
  clear H1
  exact absurd ((Option.some.inj H).trans hT.out) (by decide)

end Go.Proofs.Ytigpigfoahlfjaa.Q
