/- The calls of these Go functions answer what the Lean functions beside them answer; written by a program (wip/pr2.py, out of the print of the loaded program); under no condition but those that stand in the theorems. -/
import Derived.Test.YtigpigfoahlfjaaQx0
import Derived.Test.YtigpigfoahlfjaaQx5
import Derived.Test.YtigpigfoahlfjaaQx6
import Derived.Test.YtigpigfoahlfjaaQx8
import Derived.Test.YtigpigfoahlfjaaQx18
import Derived.Test.YtigpigfoahlfjaaQx34
namespace Go.Proofs.Ytigpigfoahlfjaa.Q
open Go.RowKit Go.Proofs.YtigpigfoahlfjaaW.PrintWords Go.Proofs.YtigpigfoahlfjaaW.PrintLast Go.Proofs.YtigpigfoahlfjaaW.PrintMore
attribute [local go_sem] max2_int min2_int max_two min_two max_three min_three max_four min_four   -- for this text's walks alone
set_option linter.unusedVariables false
set_option linter.unusedSimpArgs false

/-! ### clepsydralaw11_CarryWidens: function 11 -/
def clepsydralaw11_CarryWidens.f (k : Nat) (a0_0 : Int) (a0_1 : Int) (a0_2 : Int) (a0_3 : Int) (a0_4 : Int) (a0_5 : Int) (a0_6 : Int) (a0_7 : Int) (a0_8 : Int) (a0_9 : Int) (a0_10 : Int) (a0_11 : Int) (a1_0 : Int) (a1_1 : Int) (a2 : Int) : Option (Bool) := (clepsydralaw11_alive.f k).bind fun t514 => (if t514 = true then ((limit_Check.f k a0_0 a0_1 a0_2 a0_3 a0_4 a0_5 a0_6 a0_7 a0_8 a0_9 a0_10 a0_11).bind fun t515 => (if t515 = 0 then (if a1_0 > 576460752303423488 then (some true) else (if a1_0 < (-576460752303423488) then (some true) else (if a1_1 > 576460752303423488 then (some true) else (if a1_1 < (-576460752303423488) then (some true) else (if a2 > 576460752303423488 then (some true) else (if a2 < (-576460752303423488) then (some true) else ((carry_Hold.f k a0_0 a0_1 a0_2 a0_3 a0_4 a0_5 a0_6 a0_7 a0_8 a0_9 a0_10 a0_11 a1_0 a1_1 a2).bind fun bt516 => ((carry_Way.f k a0_0 a0_1 a0_2 a0_3 a0_4 a0_5 a0_6 a0_7 a0_8 a0_9 a0_10 a0_11 a1_0 a1_1 a2).bind fun bt518 => (if (wrap64 (bt516.2 - bt516.1)) = (wrap64 ((wrap64 (a1_1 - a1_0)) + (wrap64 (2 * a0_4)))) then ((limit_Hop.f k a0_0 a0_1 a0_2 a0_3 a0_4 a0_5 a0_6 a0_7 a0_8 a0_9 a0_10 a0_11).bind fun t522 => (some ((wrap64 (bt518.2 - bt518.1)) == (wrap64 ((wrap64 (a1_1 - a1_0)) + t522))))) else (some false)))))))))) else (some true))) else (some false))
theorem clepsydralaw11_CarryWidens.mono : ∀ a0 a1 a2 a3 a4 a5 a6 a7 a8 a9 a10 a11 a12 a13 a14 k, LeO (clepsydralaw11_CarryWidens.f k a0 a1 a2 a3 a4 a5 a6 a7 a8 a9 a10 a11 a12 a13 a14) (clepsydralaw11_CarryWidens.f (k + 1) a0 a1 a2 a3 a4 a5 a6 a7 a8 a9 a10 a11 a12 a13 a14) := by
 intro a0 a1 a2 a3 a4 a5 a6 a7 a8 a9 a10 a11 a12 a13 a14 k
 unfold clepsydralaw11_CarryWidens.f
 repeat' first
   | (with_reducible exact carry_Hold.mono _ _ _ _ _ _ _ _ _ _ _ _ _ _ _ _)
   | (with_reducible exact carry_Way.mono _ _ _ _ _ _ _ _ _ _ _ _ _ _ _ _)
   | (with_reducible exact clepsydralaw11_alive.mono _)
   | (with_reducible exact limit_Check.mono _ _ _ _ _ _ _ _ _ _ _ _ _)
   | (with_reducible exact limit_Hop.mono _ _ _ _ _ _ _ _ _ _ _ _ _)
   | (with_reducible exact LeO.refl _)
   | (with_reducible exact LeO.none _)
   | (with_reducible refine LeO.ite ?_ ?_)
   | (with_reducible refine LeO.bind ?_ (fun _ => ?_))
   | exact carry_Hold.mono _ _ _ _ _ _ _ _ _ _ _ _ _ _ _ _
   | exact carry_Way.mono _ _ _ _ _ _ _ _ _ _ _ _ _ _ _ _
   | exact clepsydralaw11_alive.mono _
   | exact limit_Check.mono _ _ _ _ _ _ _ _ _ _ _ _ _
   | exact limit_Hop.mono _ _ _ _ _ _ _ _ _ _ _ _ _
   | exact LeO.none _
   | refine LeO.ite ?_ ?_
   | refine LeO.bind ?_ (fun _ => ?_)
theorem clepsydralaw11_CarryWidens.ix34_0 (x0 x1 x2 : Value) (w : World) : (Instr.index 34 (.agg #[x0, x1, x2]) (.int .i64 0)).run Try.prog w = .ok x0 w := by kernel_rfl
attribute [local go_sem] clepsydralaw11_CarryWidens.ix34_0
theorem clepsydralaw11_CarryWidens.ix34_1 (x0 x1 x2 : Value) (w : World) : (Instr.index 34 (.agg #[x0, x1, x2]) (.int .i64 1)).run Try.prog w = .ok x1 w := by kernel_rfl
attribute [local go_sem] clepsydralaw11_CarryWidens.ix34_1
theorem clepsydralaw11_CarryWidens.ix34_2 (x0 x1 x2 : Value) (w : World) : (Instr.index 34 (.agg #[x0, x1, x2]) (.int .i64 2)).run Try.prog w = .ok x2 w := by kernel_rfl
attribute [local go_sem] clepsydralaw11_CarryWidens.ix34_2
def clepsydralaw11_CarryWidens.T11 : Bool × List (List Nat × List Nat) := (true, [([], []), ([], []), ([], []), ([0, 1, 2], [0, 1, 2]), ([], []), ([], []), ([], []), ([4, 5, 6, 3], [4, 5, 6]), ([], []), ([], []), ([8, 3, 7, 0, 1, 2, 3, 8, 9], [3, 8]), ([9, 7, 10, 0, 1, 2, 3, 4, 5, 6, 7, 8, 9, 10], [7, 9])])
def clepsydralaw11_CarryWidens.B11 : List Nat := [0, 0, 0, 7, 0, 0, 0, 127, 0, 0, 1023, 2047]
theorem clepsydralaw11_CarryWidens.tab11 : rtab .any (opsOf Try.f11 11) = clepsydralaw11_CarryWidens.T11 := by kernel_rfl
theorem clepsydralaw11_CarryWidens.bits11 : waitsOk clepsydralaw11_CarryWidens.T11.2 clepsydralaw11_CarryWidens.B11 = true := by kernel_rfl
def clepsydralaw11_CarryWidens.T12 : Bool × List (List Nat × List Nat) := (true, [([], []), ([0], [0]), ([], []), ([2], [2]), ([1, 3], [1, 3]), ([], []), ([5], [5]), ([], []), ([7], [7]), ([6, 8], [6, 8]), ([], []), ([10], [10]), ([11], [11]), ([9, 12], [9, 12]), ([4, 13], [4, 13]), ([14], [14]), ([15], [15]), ([16, 15], [15, 16]), ([15], [15]), ([18, 15], [15, 18]), ([17, 19, 15], [15, 17, 19]), ([15], [15]), ([21, 15], [15, 21]), ([15], [15]), ([23, 15], [15, 23]), ([22, 24, 15], [15, 22, 24]), ([15], [15]), ([26, 15, 15], [15, 26]), ([25, 27, 15], [15, 25, 27]), ([20, 28, 15], [15, 20, 28]), ([15, 29], [15, 29]), ([30, 27, 0, 1, 2, 3, 4, 5, 6, 7, 8, 9, 10, 11, 12, 13, 14, 15, 16, 17, 18, 19, 20, 21, 22, 23, 24, 25, 26, 27, 28, 29, 30], [30])])
def clepsydralaw11_CarryWidens.B12 : List Nat := [0, 1, 0, 4, 15, 0, 32, 0, 128, 480, 0, 1024, 3072, 8160, 16383, 32767, 65535, 131071, 65535, 327679, 1048575, 65535, 2162687, 65535, 8454143, 31522815, 65535, 67174399, 266403839, 536870911, 1073741823, 2147483647]
theorem clepsydralaw11_CarryWidens.tab12 : rtab .any (opsOf Try.f11 12) = clepsydralaw11_CarryWidens.T12 := by kernel_rfl
theorem clepsydralaw11_CarryWidens.bits12 : waitsOk clepsydralaw11_CarryWidens.T12.2 clepsydralaw11_CarryWidens.B12 = true := by kernel_rfl
set_option maxHeartbeats 8000000 in
set_option maxRecDepth 100000 in
theorem clepsydralaw11_CarryWidens.calls (k : Nat) (a0_0 : Int) (a0_1 : Int) (a0_2 : Int) (a0_3 : Int) (a0_4 : Int) (a0_5 : Int) (a0_6 : Int) (a0_7 : Int) (a0_8 : Int) (a0_9 : Int) (a0_10 : Int) (a0_11 : Int) (a1_0 : Int) (a1_1 : Int) (a2 : Int) (r : Bool) (w : World) (hT : Aside0 (r = true)) (h : clepsydralaw11_CarryWidens.f k a0_0 a0_1 a0_2 a0_3 a0_4 a0_5 a0_6 a0_7 a0_8 a0_9 a0_10 a0_11 a1_0 a1_1 a2 = some r) :
  Calls Try.prog 11 #[.agg #[.int .i64 a0_0, .int .i64 a0_1, .int .i64 a0_2, .int .i64 a0_3, .int .i64 a0_4, .int .i64 a0_5, .int .i64 a0_6, .int .i64 a0_7, .int .i64 a0_8, .int .i64 a0_9, .int .i64 a0_10, .int .i64 a0_11], .agg #[.int .i64 a1_0, .int .i64 a1_1], .int .i64 a2] w fun e w' => e = .returned (.bool r) ∧ Below w.heap.size w w' := by
 have hu23 := Try.underlying23
 have hu25 := Try.underlying25
 have hu34 := Try.underlying34
 have HB := Aside0.mk (Below.refl w.heap.size w)
 have H : ((clepsydralaw11_alive.f k).bind fun t514 => (if t514 = true then ((limit_Check.f k a0_0 a0_1 a0_2 a0_3 a0_4 a0_5 a0_6 a0_7 a0_8 a0_9 a0_10 a0_11).bind fun t515 => (if t515 = 0 then (if a1_0 > 576460752303423488 then (some true) else (if a1_0 < (-576460752303423488) then (some true) else (if a1_1 > 576460752303423488 then (some true) else (if a1_1 < (-576460752303423488) then (some true) else (if a2 > 576460752303423488 then (some true) else (if a2 < (-576460752303423488) then (some true) else ((carry_Hold.f k a0_0 a0_1 a0_2 a0_3 a0_4 a0_5 a0_6 a0_7 a0_8 a0_9 a0_10 a0_11 a1_0 a1_1 a2).bind fun bt516 => ((carry_Way.f k a0_0 a0_1 a0_2 a0_3 a0_4 a0_5 a0_6 a0_7 a0_8 a0_9 a0_10 a0_11 a1_0 a1_1 a2).bind fun bt518 => (if (wrap64 (bt516.2 - bt516.1)) = (wrap64 ((wrap64 (a1_1 - a1_0)) + (wrap64 (2 * a0_4)))) then ((limit_Hop.f k a0_0 a0_1 a0_2 a0_3 a0_4 a0_5 a0_6 a0_7 a0_8 a0_9 a0_10 a0_11).bind fun t522 => (some ((wrap64 (bt518.2 - bt518.1)) == (wrap64 ((wrap64 (a1_1 - a1_0)) + t522))))) else (some false)))))))))) else (some true))) else (some false))) = some r := h
 clear h
 replace H := Option.bind_eq_some_iff.mp H
 obtain ⟨t514, A40, H⟩ := H
 replace H : (if t514 = true then ((limit_Check.f k a0_0 a0_1 a0_2 a0_3 a0_4 a0_5 a0_6 a0_7 a0_8 a0_9 a0_10 a0_11).bind fun t515 => (if t515 = 0 then (if a1_0 > 576460752303423488 then (some true) else (if a1_0 < (-576460752303423488) then (some true) else (if a1_1 > 576460752303423488 then (some true) else (if a1_1 < (-576460752303423488) then (some true) else (if a2 > 576460752303423488 then (some true) else (if a2 < (-576460752303423488) then (some true) else ((carry_Hold.f k a0_0 a0_1 a0_2 a0_3 a0_4 a0_5 a0_6 a0_7 a0_8 a0_9 a0_10 a0_11 a1_0 a1_1 a2).bind fun bt516 => ((carry_Way.f k a0_0 a0_1 a0_2 a0_3 a0_4 a0_5 a0_6 a0_7 a0_8 a0_9 a0_10 a0_11 a1_0 a1_1 a2).bind fun bt518 => (if (wrap64 (bt516.2 - bt516.1)) = (wrap64 ((wrap64 (a1_1 - a1_0)) + (wrap64 (2 * a0_4)))) then ((limit_Hop.f k a0_0 a0_1 a0_2 a0_3 a0_4 a0_5 a0_6 a0_7 a0_8 a0_9 a0_10 a0_11).bind fun t522 => (some ((wrap64 (bt518.2 - bt518.1)) == (wrap64 ((wrap64 (a1_1 - a1_0)) + t522))))) else (some false)))))))))) else (some true))) else (some false)) = some r := H
 have A4 := Aside0.mk A40
 clear A40
 by_cases c5 : t514 = true
 ·subst c5
  have H1 : ((limit_Check.f k a0_0 a0_1 a0_2 a0_3 a0_4 a0_5 a0_6 a0_7 a0_8 a0_9 a0_10 a0_11).bind fun t515 => (if t515 = 0 then (if a1_0 > 576460752303423488 then (some true) else (if a1_0 < (-576460752303423488) then (some true) else (if a1_1 > 576460752303423488 then (some true) else (if a1_1 < (-576460752303423488) then (some true) else (if a2 > 576460752303423488 then (some true) else (if a2 < (-576460752303423488) then (some true) else ((carry_Hold.f k a0_0 a0_1 a0_2 a0_3 a0_4 a0_5 a0_6 a0_7 a0_8 a0_9 a0_10 a0_11 a1_0 a1_1 a2).bind fun bt516 => ((carry_Way.f k a0_0 a0_1 a0_2 a0_3 a0_4 a0_5 a0_6 a0_7 a0_8 a0_9 a0_10 a0_11 a1_0 a1_1 a2).bind fun bt518 => (if (wrap64 (bt516.2 - bt516.1)) = (wrap64 ((wrap64 (a1_1 - a1_0)) + (wrap64 (2 * a0_4)))) then ((limit_Hop.f k a0_0 a0_1 a0_2 a0_3 a0_4 a0_5 a0_6 a0_7 a0_8 a0_9 a0_10 a0_11).bind fun t522 => (some ((wrap64 (bt518.2 - bt518.1)) == (wrap64 ((wrap64 (a1_1 - a1_0)) + t522))))) else (some false)))))))))) else (some true))) = some r := by rw [if_pos rfl] at H; exact H
  clear H
  have H := H1
  clear H1
  replace H := Option.bind_eq_some_iff.mp H
  obtain ⟨t515, A60, H⟩ := H
  replace H : (if t515 = 0 then (if a1_0 > 576460752303423488 then (some true) else (if a1_0 < (-576460752303423488) then (some true) else (if a1_1 > 576460752303423488 then (some true) else (if a1_1 < (-576460752303423488) then (some true) else (if a2 > 576460752303423488 then (some true) else (if a2 < (-576460752303423488) then (some true) else ((carry_Hold.f k a0_0 a0_1 a0_2 a0_3 a0_4 a0_5 a0_6 a0_7 a0_8 a0_9 a0_10 a0_11 a1_0 a1_1 a2).bind fun bt516 => ((carry_Way.f k a0_0 a0_1 a0_2 a0_3 a0_4 a0_5 a0_6 a0_7 a0_8 a0_9 a0_10 a0_11 a1_0 a1_1 a2).bind fun bt518 => (if (wrap64 (bt516.2 - bt516.1)) = (wrap64 ((wrap64 (a1_1 - a1_0)) + (wrap64 (2 * a0_4)))) then ((limit_Hop.f k a0_0 a0_1 a0_2 a0_3 a0_4 a0_5 a0_6 a0_7 a0_8 a0_9 a0_10 a0_11).bind fun t522 => (some ((wrap64 (bt518.2 - bt518.1)) == (wrap64 ((wrap64 (a1_1 - a1_0)) + t522))))) else (some false)))))))))) else (some true)) = some r := H
  have A6 := Aside0.mk A60
  clear A60
  by_cases c7 : t515 = 0
  ·rw [if_pos c7] at H
   have c7b0 : (t515 == 0) = true := beq_iff_eq.mpr c7
   have c7b1 : (t515 != 0) = false := bne_eq_false_iff_eq.mpr c7
   clear c7
   by_cases c8 : a1_0 > 576460752303423488
   ·rw [if_pos c8] at H
    have c8b0 : decide (576460752303423488 < a1_0) = true := decide_eq_true c8
    clear c8
    obtain rfl := Option.some.inj H
    go_enter Try.func11, Try.ntmps11
    try go_wp2_with (first | ((with_reducible refine gate_dst (N := 3) rfl ?_); refine box_event ?hg (N := 3) ?hd (cs := #[.int .i64 a0_0, .int .i64 a0_1, .int .i64 a0_2, .int .i64 a0_3, .int .i64 a0_4, .int .i64 a0_5, .int .i64 a0_6, .int .i64 a0_7, .int .i64 a0_8, .int .i64 a0_9, .int .i64 a0_10, .int .i64 a0_11]) (t := 23) ?hr ?_; (case hd => rfl); (case hg => rfl); (case hr => first | (go_simp; done) | (go_simp; rfl)); intro gb512 hg w9 hbox hb; have n0_ := Aside0.mk (below_step (by with_reducible repeat first | exact HB.out | apply pw_below_drewN) hb); have n1_ := Aside0.mk (hbox); have n2_ := Aside0.mk ((by rw [hg]; exact (below_size (by with_reducible repeat first | exact HB.out | apply pw_below_drewN)) : w.heap.size ≤ gb512)); have n3_ := Aside0.mk ((by rw [hg]; exact (below_size (by with_reducible repeat first | exact HB.out | apply pw_below_drewN)) : w.heap.size ≤ gb512)); clear HB; have HB := n0_; have BK512 := n1_; have GW512 := n2_; have GE512 := n3_; clear n0_ n1_ n2_ n3_; clear hb hbox hg) | ((with_reducible refine gate_dst (N := 4) rfl ?_); refine box_event ?hg (N := 4) ?hd (cs := #[.int .i64 a1_0, .int .i64 a1_1]) (t := 25) ?hr ?_; (case hd => rfl); (case hg => rfl); (case hr => first | (go_simp; done) | (go_simp; rfl)); intro gb513 hg w10 hbox hb; have n0_ := Aside0.mk (blk_below (by with_reducible repeat first | exact BK512.out | apply bN) hb); have n1_ := Aside0.mk (below_step (by with_reducible repeat first | exact HB.out | apply pw_below_drewN) hb); have n2_ := Aside0.mk (hbox); have n3_ := Aside0.mk ((by rw [hg]; exact (below_size (by with_reducible repeat first | exact HB.out | apply pw_below_drewN)) : w.heap.size ≤ gb513)); have n4_ := Aside0.mk ((by rw [hg]; exact (below_size (by with_reducible repeat first | exact HB.out | apply pw_below_drewN)) : w.heap.size ≤ gb513)); have n5_ := Aside0.mk ((by rw [hg]; exact Nat.ne_of_lt (blk_lt (by with_reducible repeat first | exact BK512.out | apply bN)) : gb512 ≠ gb513)); have n6_ := Aside0.mk ((by rw [hg]; exact Nat.ne_of_gt (blk_lt (by with_reducible repeat first | exact BK512.out | apply bN)) : gb513 ≠ gb512)); clear BK512; clear HB; have BK512 := n0_; have HB := n1_; have BK513 := n2_; have GW513 := n3_; have GE513 := n4_; have NB512_513 := n5_; have NB513_512 := n6_; clear n0_ n1_ n2_ n3_ n4_ n5_ n6_; clear hb hbox hg) | ((with_reducible refine gate_callee (f := 15) rfl ?_); refine goesL_ (some 11) rfl rfl Try.func15 (by kernel_rfl) rfl #[] rfl (by (try simp only [List.map_toArray, List.map_cons, List.map_nil]); first | done | rfl | (simp only [List.length_drop, List.length_take]; rfl)) ?_; (with_reducible refine (clepsydralaw11_alive.calls k  true _ A4.out).mono ?_); rintro e w11 ⟨rfl, hb⟩; refine ⟨_, rfl, ?_⟩; have n0_ := Aside0.mk (blk_below (by with_reducible repeat first | exact BK512.out | apply bN) hb); have n1_ := Aside0.mk (blk_below (by with_reducible repeat first | exact BK513.out | apply bN) hb); have n2_ := Aside0.mk (below_step (by with_reducible repeat first | exact HB.out | apply pw_below_drewN) hb); clear BK512; clear BK513; clear HB; have BK512 := n0_; have BK513 := n1_; have HB := n2_; clear n0_ n1_ n2_; (try clear hb); (try clear hb2); (try clear hk); (try clear hi); have hnb12 := NB512_513.out; have hnc12 := NB513_512.out; have hcz13_0 : w11.cell? ⟨gb512, 0, none⟩ = some (.int .i64 a0_0) := (blk_cell BK512.out 0).trans rfl; have hcz13_1 : w11.cell? ⟨gb512, 1, none⟩ = some (.int .i64 a0_1) := (blk_cell BK512.out 1).trans rfl; have hcz13_2 : w11.cell? ⟨gb512, 2, none⟩ = some (.int .i64 a0_2) := (blk_cell BK512.out 2).trans rfl; have hcz13_3 : w11.cell? ⟨gb512, 3, none⟩ = some (.int .i64 a0_3) := (blk_cell BK512.out 3).trans rfl; have hcz13_4 : w11.cell? ⟨gb512, 4, none⟩ = some (.int .i64 a0_4) := (blk_cell BK512.out 4).trans rfl; have hcz13_5 : w11.cell? ⟨gb512, 5, none⟩ = some (.int .i64 a0_5) := (blk_cell BK512.out 5).trans rfl; have hcz13_6 : w11.cell? ⟨gb512, 6, none⟩ = some (.int .i64 a0_6) := (blk_cell BK512.out 6).trans rfl; have hcz13_7 : w11.cell? ⟨gb512, 7, none⟩ = some (.int .i64 a0_7) := (blk_cell BK512.out 7).trans rfl; have hcz13_8 : w11.cell? ⟨gb512, 8, none⟩ = some (.int .i64 a0_8) := (blk_cell BK512.out 8).trans rfl; have hcz13_9 : w11.cell? ⟨gb512, 9, none⟩ = some (.int .i64 a0_9) := (blk_cell BK512.out 9).trans rfl; have hcz13_10 : w11.cell? ⟨gb512, 10, none⟩ = some (.int .i64 a0_10) := (blk_cell BK512.out 10).trans rfl; have hcz13_11 : w11.cell? ⟨gb512, 11, none⟩ = some (.int .i64 a0_11) := (blk_cell BK512.out 11).trans rfl; have hfz13_0 := blk_frozen BK512.out 0; have hfz13_1 := blk_frozen BK512.out 1; have hfz13_2 := blk_frozen BK512.out 2; have hfz13_3 := blk_frozen BK512.out 3; have hfz13_4 := blk_frozen BK512.out 4; have hfz13_5 := blk_frozen BK512.out 5; have hfz13_6 := blk_frozen BK512.out 6; have hfz13_7 := blk_frozen BK512.out 7; have hfz13_8 := blk_frozen BK512.out 8; have hfz13_9 := blk_frozen BK512.out 9; have hfz13_10 := blk_frozen BK512.out 10; have hfz13_11 := blk_frozen BK512.out 11) | ((with_reducible refine gate_callee (f := 24) rfl ?_); refine goesL_ (some 14) rfl rfl Try.func24 (by kernel_rfl) rfl #[.agg #[.int .i64 a0_0, .int .i64 a0_1, .int .i64 a0_2, .int .i64 a0_3, .int .i64 a0_4, .int .i64 a0_5, .int .i64 a0_6, .int .i64 a0_7, .int .i64 a0_8, .int .i64 a0_9, .int .i64 a0_10, .int .i64 a0_11]] rfl (by (try simp only [List.map_toArray, List.map_cons, List.map_nil]); first | done | rfl | (simp only [List.length_drop, List.length_take]; rfl)) ?_; (with_reducible refine (limit_Check.calls k a0_0 a0_1 a0_2 a0_3 a0_4 a0_5 a0_6 a0_7 a0_8 a0_9 a0_10 a0_11 t515 _ A6.out).mono ?_); rintro e w14 ⟨rfl, hb⟩; refine ⟨_, rfl, ?_⟩; have n0_ := Aside0.mk (blk_below (by with_reducible repeat first | exact BK512.out | apply bN) hb); have n1_ := Aside0.mk (blk_below (by with_reducible repeat first | exact BK513.out | apply bN) hb); have n2_ := Aside0.mk (below_step (by with_reducible repeat first | exact HB.out | apply pw_below_drewN) hb); clear BK512; clear BK513; clear HB; have BK512 := n0_; have BK513 := n1_; have HB := n2_; clear n0_ n1_ n2_; (try clear hb); (try clear hb2); (try clear hk); (try clear hi); have hcz15_0 : w14.cell? ⟨gb513, 0, none⟩ = some (.int .i64 a1_0) := (blk_cell BK513.out 0).trans rfl; have hcz15_1 : w14.cell? ⟨gb513, 1, none⟩ = some (.int .i64 a1_1) := (blk_cell BK513.out 1).trans rfl; have hfz15_0 := blk_frozen BK513.out 0; have hfz15_1 := blk_frozen BK513.out 1))
    refine wp_loop_rounds 4 ?_; rw [rounds_succ]
    try go_wp2
    go_ret
    exact ⟨by first | rfl | (simp [errW_none, errW_some] <;> rfl) | (simp [*, errW_none, errW_some] <;> rfl), by repeat (first | (with_reducible first | exact HB.out | apply below_alloc | apply pw_below_drewN | apply below_drew1 | refine below_set ?_ GE512.out | refine below_set ?_ GE513.out) | exact HB.out)⟩
   ·rw [if_neg c8] at H
    have c8b0 : decide (576460752303423488 < a1_0) = false := decide_eq_false c8
    clear c8
    by_cases c16 : a1_0 < (-576460752303423488)
    ·rw [if_pos c16] at H
     have c16b0 : decide (a1_0 < (-576460752303423488)) = true := decide_eq_true c16
     clear c16
     obtain rfl := Option.some.inj H
     go_enter Try.func11, Try.ntmps11
     try go_wp2_with (first | ((with_reducible refine gate_dst (N := 3) rfl ?_); refine box_event ?hg (N := 3) ?hd (cs := #[.int .i64 a0_0, .int .i64 a0_1, .int .i64 a0_2, .int .i64 a0_3, .int .i64 a0_4, .int .i64 a0_5, .int .i64 a0_6, .int .i64 a0_7, .int .i64 a0_8, .int .i64 a0_9, .int .i64 a0_10, .int .i64 a0_11]) (t := 23) ?hr ?_; (case hd => rfl); (case hg => rfl); (case hr => first | (go_simp; done) | (go_simp; rfl)); intro gb512 hg w17 hbox hb; have n0_ := Aside0.mk (below_step (by with_reducible repeat first | exact HB.out | apply pw_below_drewN) hb); have n1_ := Aside0.mk (hbox); have n2_ := Aside0.mk ((by rw [hg]; exact (below_size (by with_reducible repeat first | exact HB.out | apply pw_below_drewN)) : w.heap.size ≤ gb512)); have n3_ := Aside0.mk ((by rw [hg]; exact (below_size (by with_reducible repeat first | exact HB.out | apply pw_below_drewN)) : w.heap.size ≤ gb512)); clear HB; have HB := n0_; have BK512 := n1_; have GW512 := n2_; have GE512 := n3_; clear n0_ n1_ n2_ n3_; clear hb hbox hg) | ((with_reducible refine gate_dst (N := 4) rfl ?_); refine box_event ?hg (N := 4) ?hd (cs := #[.int .i64 a1_0, .int .i64 a1_1]) (t := 25) ?hr ?_; (case hd => rfl); (case hg => rfl); (case hr => first | (go_simp; done) | (go_simp; rfl)); intro gb513 hg w18 hbox hb; have n0_ := Aside0.mk (blk_below (by with_reducible repeat first | exact BK512.out | apply bN) hb); have n1_ := Aside0.mk (below_step (by with_reducible repeat first | exact HB.out | apply pw_below_drewN) hb); have n2_ := Aside0.mk (hbox); have n3_ := Aside0.mk ((by rw [hg]; exact (below_size (by with_reducible repeat first | exact HB.out | apply pw_below_drewN)) : w.heap.size ≤ gb513)); have n4_ := Aside0.mk ((by rw [hg]; exact (below_size (by with_reducible repeat first | exact HB.out | apply pw_below_drewN)) : w.heap.size ≤ gb513)); have n5_ := Aside0.mk ((by rw [hg]; exact Nat.ne_of_lt (blk_lt (by with_reducible repeat first | exact BK512.out | apply bN)) : gb512 ≠ gb513)); have n6_ := Aside0.mk ((by rw [hg]; exact Nat.ne_of_gt (blk_lt (by with_reducible repeat first | exact BK512.out | apply bN)) : gb513 ≠ gb512)); clear BK512; clear HB; have BK512 := n0_; have HB := n1_; have BK513 := n2_; have GW513 := n3_; have GE513 := n4_; have NB512_513 := n5_; have NB513_512 := n6_; clear n0_ n1_ n2_ n3_ n4_ n5_ n6_; clear hb hbox hg) | ((with_reducible refine gate_callee (f := 15) rfl ?_); refine goesL_ (some 11) rfl rfl Try.func15 (by kernel_rfl) rfl #[] rfl (by (try simp only [List.map_toArray, List.map_cons, List.map_nil]); first | done | rfl | (simp only [List.length_drop, List.length_take]; rfl)) ?_; (with_reducible refine (clepsydralaw11_alive.calls k  true _ A4.out).mono ?_); rintro e w19 ⟨rfl, hb⟩; refine ⟨_, rfl, ?_⟩; have n0_ := Aside0.mk (blk_below (by with_reducible repeat first | exact BK512.out | apply bN) hb); have n1_ := Aside0.mk (blk_below (by with_reducible repeat first | exact BK513.out | apply bN) hb); have n2_ := Aside0.mk (below_step (by with_reducible repeat first | exact HB.out | apply pw_below_drewN) hb); clear BK512; clear BK513; clear HB; have BK512 := n0_; have BK513 := n1_; have HB := n2_; clear n0_ n1_ n2_; (try clear hb); (try clear hb2); (try clear hk); (try clear hi); have hnb20 := NB512_513.out; have hnc20 := NB513_512.out; have hcz21_0 : w19.cell? ⟨gb512, 0, none⟩ = some (.int .i64 a0_0) := (blk_cell BK512.out 0).trans rfl; have hcz21_1 : w19.cell? ⟨gb512, 1, none⟩ = some (.int .i64 a0_1) := (blk_cell BK512.out 1).trans rfl; have hcz21_2 : w19.cell? ⟨gb512, 2, none⟩ = some (.int .i64 a0_2) := (blk_cell BK512.out 2).trans rfl; have hcz21_3 : w19.cell? ⟨gb512, 3, none⟩ = some (.int .i64 a0_3) := (blk_cell BK512.out 3).trans rfl; have hcz21_4 : w19.cell? ⟨gb512, 4, none⟩ = some (.int .i64 a0_4) := (blk_cell BK512.out 4).trans rfl; have hcz21_5 : w19.cell? ⟨gb512, 5, none⟩ = some (.int .i64 a0_5) := (blk_cell BK512.out 5).trans rfl; have hcz21_6 : w19.cell? ⟨gb512, 6, none⟩ = some (.int .i64 a0_6) := (blk_cell BK512.out 6).trans rfl; have hcz21_7 : w19.cell? ⟨gb512, 7, none⟩ = some (.int .i64 a0_7) := (blk_cell BK512.out 7).trans rfl; have hcz21_8 : w19.cell? ⟨gb512, 8, none⟩ = some (.int .i64 a0_8) := (blk_cell BK512.out 8).trans rfl; have hcz21_9 : w19.cell? ⟨gb512, 9, none⟩ = some (.int .i64 a0_9) := (blk_cell BK512.out 9).trans rfl; have hcz21_10 : w19.cell? ⟨gb512, 10, none⟩ = some (.int .i64 a0_10) := (blk_cell BK512.out 10).trans rfl; have hcz21_11 : w19.cell? ⟨gb512, 11, none⟩ = some (.int .i64 a0_11) := (blk_cell BK512.out 11).trans rfl; have hfz21_0 := blk_frozen BK512.out 0; have hfz21_1 := blk_frozen BK512.out 1; have hfz21_2 := blk_frozen BK512.out 2; have hfz21_3 := blk_frozen BK512.out 3; have hfz21_4 := blk_frozen BK512.out 4; have hfz21_5 := blk_frozen BK512.out 5; have hfz21_6 := blk_frozen BK512.out 6; have hfz21_7 := blk_frozen BK512.out 7; have hfz21_8 := blk_frozen BK512.out 8; have hfz21_9 := blk_frozen BK512.out 9; have hfz21_10 := blk_frozen BK512.out 10; have hfz21_11 := blk_frozen BK512.out 11) | ((with_reducible refine gate_callee (f := 24) rfl ?_); refine goesL_ (some 14) rfl rfl Try.func24 (by kernel_rfl) rfl #[.agg #[.int .i64 a0_0, .int .i64 a0_1, .int .i64 a0_2, .int .i64 a0_3, .int .i64 a0_4, .int .i64 a0_5, .int .i64 a0_6, .int .i64 a0_7, .int .i64 a0_8, .int .i64 a0_9, .int .i64 a0_10, .int .i64 a0_11]] rfl (by (try simp only [List.map_toArray, List.map_cons, List.map_nil]); first | done | rfl | (simp only [List.length_drop, List.length_take]; rfl)) ?_; (with_reducible refine (limit_Check.calls k a0_0 a0_1 a0_2 a0_3 a0_4 a0_5 a0_6 a0_7 a0_8 a0_9 a0_10 a0_11 t515 _ A6.out).mono ?_); rintro e w22 ⟨rfl, hb⟩; refine ⟨_, rfl, ?_⟩; have n0_ := Aside0.mk (blk_below (by with_reducible repeat first | exact BK512.out | apply bN) hb); have n1_ := Aside0.mk (blk_below (by with_reducible repeat first | exact BK513.out | apply bN) hb); have n2_ := Aside0.mk (below_step (by with_reducible repeat first | exact HB.out | apply pw_below_drewN) hb); clear BK512; clear BK513; clear HB; have BK512 := n0_; have BK513 := n1_; have HB := n2_; clear n0_ n1_ n2_; (try clear hb); (try clear hb2); (try clear hk); (try clear hi); have hcz23_0 : w22.cell? ⟨gb513, 0, none⟩ = some (.int .i64 a1_0) := (blk_cell BK513.out 0).trans rfl; have hcz23_1 : w22.cell? ⟨gb513, 1, none⟩ = some (.int .i64 a1_1) := (blk_cell BK513.out 1).trans rfl; have hfz23_0 := blk_frozen BK513.out 0; have hfz23_1 := blk_frozen BK513.out 1))
     refine wp_loop_rounds 4 ?_; rw [rounds_succ]
     try go_wp2
     go_ret
     exact ⟨by first | rfl | (simp [errW_none, errW_some] <;> rfl) | (simp [*, errW_none, errW_some] <;> rfl), by repeat (first | (with_reducible first | exact HB.out | apply below_alloc | apply pw_below_drewN | apply below_drew1 | refine below_set ?_ GE512.out | refine below_set ?_ GE513.out) | exact HB.out)⟩
    ·rw [if_neg c16] at H
     have c16b0 : decide (a1_0 < (-576460752303423488)) = false := decide_eq_false c16
     clear c16
     by_cases c24 : a1_1 > 576460752303423488
     ·rw [if_pos c24] at H
      have c24b0 : decide (576460752303423488 < a1_1) = true := decide_eq_true c24
      clear c24
      obtain rfl := Option.some.inj H
      go_enter Try.func11, Try.ntmps11
      try go_wp2_with (first | ((with_reducible refine gate_dst (N := 3) rfl ?_); refine box_event ?hg (N := 3) ?hd (cs := #[.int .i64 a0_0, .int .i64 a0_1, .int .i64 a0_2, .int .i64 a0_3, .int .i64 a0_4, .int .i64 a0_5, .int .i64 a0_6, .int .i64 a0_7, .int .i64 a0_8, .int .i64 a0_9, .int .i64 a0_10, .int .i64 a0_11]) (t := 23) ?hr ?_; (case hd => rfl); (case hg => rfl); (case hr => first | (go_simp; done) | (go_simp; rfl)); intro gb512 hg w25 hbox hb; have n0_ := Aside0.mk (below_step (by with_reducible repeat first | exact HB.out | apply pw_below_drewN) hb); have n1_ := Aside0.mk (hbox); have n2_ := Aside0.mk ((by rw [hg]; exact (below_size (by with_reducible repeat first | exact HB.out | apply pw_below_drewN)) : w.heap.size ≤ gb512)); have n3_ := Aside0.mk ((by rw [hg]; exact (below_size (by with_reducible repeat first | exact HB.out | apply pw_below_drewN)) : w.heap.size ≤ gb512)); clear HB; have HB := n0_; have BK512 := n1_; have GW512 := n2_; have GE512 := n3_; clear n0_ n1_ n2_ n3_; clear hb hbox hg) | ((with_reducible refine gate_dst (N := 4) rfl ?_); refine box_event ?hg (N := 4) ?hd (cs := #[.int .i64 a1_0, .int .i64 a1_1]) (t := 25) ?hr ?_; (case hd => rfl); (case hg => rfl); (case hr => first | (go_simp; done) | (go_simp; rfl)); intro gb513 hg w26 hbox hb; have n0_ := Aside0.mk (blk_below (by with_reducible repeat first | exact BK512.out | apply bN) hb); have n1_ := Aside0.mk (below_step (by with_reducible repeat first | exact HB.out | apply pw_below_drewN) hb); have n2_ := Aside0.mk (hbox); have n3_ := Aside0.mk ((by rw [hg]; exact (below_size (by with_reducible repeat first | exact HB.out | apply pw_below_drewN)) : w.heap.size ≤ gb513)); have n4_ := Aside0.mk ((by rw [hg]; exact (below_size (by with_reducible repeat first | exact HB.out | apply pw_below_drewN)) : w.heap.size ≤ gb513)); have n5_ := Aside0.mk ((by rw [hg]; exact Nat.ne_of_lt (blk_lt (by with_reducible repeat first | exact BK512.out | apply bN)) : gb512 ≠ gb513)); have n6_ := Aside0.mk ((by rw [hg]; exact Nat.ne_of_gt (blk_lt (by with_reducible repeat first | exact BK512.out | apply bN)) : gb513 ≠ gb512)); clear BK512; clear HB; have BK512 := n0_; have HB := n1_; have BK513 := n2_; have GW513 := n3_; have GE513 := n4_; have NB512_513 := n5_; have NB513_512 := n6_; clear n0_ n1_ n2_ n3_ n4_ n5_ n6_; clear hb hbox hg) | ((with_reducible refine gate_callee (f := 15) rfl ?_); refine goesL_ (some 11) rfl rfl Try.func15 (by kernel_rfl) rfl #[] rfl (by (try simp only [List.map_toArray, List.map_cons, List.map_nil]); first | done | rfl | (simp only [List.length_drop, List.length_take]; rfl)) ?_; (with_reducible refine (clepsydralaw11_alive.calls k  true _ A4.out).mono ?_); rintro e w27 ⟨rfl, hb⟩; refine ⟨_, rfl, ?_⟩; have n0_ := Aside0.mk (blk_below (by with_reducible repeat first | exact BK512.out | apply bN) hb); have n1_ := Aside0.mk (blk_below (by with_reducible repeat first | exact BK513.out | apply bN) hb); have n2_ := Aside0.mk (below_step (by with_reducible repeat first | exact HB.out | apply pw_below_drewN) hb); clear BK512; clear BK513; clear HB; have BK512 := n0_; have BK513 := n1_; have HB := n2_; clear n0_ n1_ n2_; (try clear hb); (try clear hb2); (try clear hk); (try clear hi); have hnb28 := NB512_513.out; have hnc28 := NB513_512.out; have hcz29_0 : w27.cell? ⟨gb512, 0, none⟩ = some (.int .i64 a0_0) := (blk_cell BK512.out 0).trans rfl; have hcz29_1 : w27.cell? ⟨gb512, 1, none⟩ = some (.int .i64 a0_1) := (blk_cell BK512.out 1).trans rfl; have hcz29_2 : w27.cell? ⟨gb512, 2, none⟩ = some (.int .i64 a0_2) := (blk_cell BK512.out 2).trans rfl; have hcz29_3 : w27.cell? ⟨gb512, 3, none⟩ = some (.int .i64 a0_3) := (blk_cell BK512.out 3).trans rfl; have hcz29_4 : w27.cell? ⟨gb512, 4, none⟩ = some (.int .i64 a0_4) := (blk_cell BK512.out 4).trans rfl; have hcz29_5 : w27.cell? ⟨gb512, 5, none⟩ = some (.int .i64 a0_5) := (blk_cell BK512.out 5).trans rfl; have hcz29_6 : w27.cell? ⟨gb512, 6, none⟩ = some (.int .i64 a0_6) := (blk_cell BK512.out 6).trans rfl; have hcz29_7 : w27.cell? ⟨gb512, 7, none⟩ = some (.int .i64 a0_7) := (blk_cell BK512.out 7).trans rfl; have hcz29_8 : w27.cell? ⟨gb512, 8, none⟩ = some (.int .i64 a0_8) := (blk_cell BK512.out 8).trans rfl; have hcz29_9 : w27.cell? ⟨gb512, 9, none⟩ = some (.int .i64 a0_9) := (blk_cell BK512.out 9).trans rfl; have hcz29_10 : w27.cell? ⟨gb512, 10, none⟩ = some (.int .i64 a0_10) := (blk_cell BK512.out 10).trans rfl; have hcz29_11 : w27.cell? ⟨gb512, 11, none⟩ = some (.int .i64 a0_11) := (blk_cell BK512.out 11).trans rfl; have hfz29_0 := blk_frozen BK512.out 0; have hfz29_1 := blk_frozen BK512.out 1; have hfz29_2 := blk_frozen BK512.out 2; have hfz29_3 := blk_frozen BK512.out 3; have hfz29_4 := blk_frozen BK512.out 4; have hfz29_5 := blk_frozen BK512.out 5; have hfz29_6 := blk_frozen BK512.out 6; have hfz29_7 := blk_frozen BK512.out 7; have hfz29_8 := blk_frozen BK512.out 8; have hfz29_9 := blk_frozen BK512.out 9; have hfz29_10 := blk_frozen BK512.out 10; have hfz29_11 := blk_frozen BK512.out 11) | ((with_reducible refine gate_callee (f := 24) rfl ?_); refine goesL_ (some 14) rfl rfl Try.func24 (by kernel_rfl) rfl #[.agg #[.int .i64 a0_0, .int .i64 a0_1, .int .i64 a0_2, .int .i64 a0_3, .int .i64 a0_4, .int .i64 a0_5, .int .i64 a0_6, .int .i64 a0_7, .int .i64 a0_8, .int .i64 a0_9, .int .i64 a0_10, .int .i64 a0_11]] rfl (by (try simp only [List.map_toArray, List.map_cons, List.map_nil]); first | done | rfl | (simp only [List.length_drop, List.length_take]; rfl)) ?_; (with_reducible refine (limit_Check.calls k a0_0 a0_1 a0_2 a0_3 a0_4 a0_5 a0_6 a0_7 a0_8 a0_9 a0_10 a0_11 t515 _ A6.out).mono ?_); rintro e w30 ⟨rfl, hb⟩; refine ⟨_, rfl, ?_⟩; have n0_ := Aside0.mk (blk_below (by with_reducible repeat first | exact BK512.out | apply bN) hb); have n1_ := Aside0.mk (blk_below (by with_reducible repeat first | exact BK513.out | apply bN) hb); have n2_ := Aside0.mk (below_step (by with_reducible repeat first | exact HB.out | apply pw_below_drewN) hb); clear BK512; clear BK513; clear HB; have BK512 := n0_; have BK513 := n1_; have HB := n2_; clear n0_ n1_ n2_; (try clear hb); (try clear hb2); (try clear hk); (try clear hi); have hcz31_0 : w30.cell? ⟨gb513, 0, none⟩ = some (.int .i64 a1_0) := (blk_cell BK513.out 0).trans rfl; have hcz31_1 : w30.cell? ⟨gb513, 1, none⟩ = some (.int .i64 a1_1) := (blk_cell BK513.out 1).trans rfl; have hfz31_0 := blk_frozen BK513.out 0; have hfz31_1 := blk_frozen BK513.out 1))
      refine wp_loop_rounds 4 ?_; rw [rounds_succ]
      try go_wp2
      rw [rounds_succ]
      try go_wp2
      go_ret
      exact ⟨by first | rfl | (simp [errW_none, errW_some] <;> rfl) | (simp [*, errW_none, errW_some] <;> rfl), by repeat (first | (with_reducible first | exact HB.out | apply below_alloc | apply pw_below_drewN | apply below_drew1 | refine below_set ?_ GE512.out | refine below_set ?_ GE513.out) | exact HB.out)⟩
     ·rw [if_neg c24] at H
      have c24b0 : decide (576460752303423488 < a1_1) = false := decide_eq_false c24
      clear c24
      by_cases c32 : a1_1 < (-576460752303423488)
      ·rw [if_pos c32] at H
       have c32b0 : decide (a1_1 < (-576460752303423488)) = true := decide_eq_true c32
       clear c32
       obtain rfl := Option.some.inj H
       go_enter Try.func11, Try.ntmps11
       try go_wp2_with (first | ((with_reducible refine gate_dst (N := 3) rfl ?_); refine box_event ?hg (N := 3) ?hd (cs := #[.int .i64 a0_0, .int .i64 a0_1, .int .i64 a0_2, .int .i64 a0_3, .int .i64 a0_4, .int .i64 a0_5, .int .i64 a0_6, .int .i64 a0_7, .int .i64 a0_8, .int .i64 a0_9, .int .i64 a0_10, .int .i64 a0_11]) (t := 23) ?hr ?_; (case hd => rfl); (case hg => rfl); (case hr => first | (go_simp; done) | (go_simp; rfl)); intro gb512 hg w33 hbox hb; have n0_ := Aside0.mk (below_step (by with_reducible repeat first | exact HB.out | apply pw_below_drewN) hb); have n1_ := Aside0.mk (hbox); have n2_ := Aside0.mk ((by rw [hg]; exact (below_size (by with_reducible repeat first | exact HB.out | apply pw_below_drewN)) : w.heap.size ≤ gb512)); have n3_ := Aside0.mk ((by rw [hg]; exact (below_size (by with_reducible repeat first | exact HB.out | apply pw_below_drewN)) : w.heap.size ≤ gb512)); clear HB; have HB := n0_; have BK512 := n1_; have GW512 := n2_; have GE512 := n3_; clear n0_ n1_ n2_ n3_; clear hb hbox hg) | ((with_reducible refine gate_dst (N := 4) rfl ?_); refine box_event ?hg (N := 4) ?hd (cs := #[.int .i64 a1_0, .int .i64 a1_1]) (t := 25) ?hr ?_; (case hd => rfl); (case hg => rfl); (case hr => first | (go_simp; done) | (go_simp; rfl)); intro gb513 hg w34 hbox hb; have n0_ := Aside0.mk (blk_below (by with_reducible repeat first | exact BK512.out | apply bN) hb); have n1_ := Aside0.mk (below_step (by with_reducible repeat first | exact HB.out | apply pw_below_drewN) hb); have n2_ := Aside0.mk (hbox); have n3_ := Aside0.mk ((by rw [hg]; exact (below_size (by with_reducible repeat first | exact HB.out | apply pw_below_drewN)) : w.heap.size ≤ gb513)); have n4_ := Aside0.mk ((by rw [hg]; exact (below_size (by with_reducible repeat first | exact HB.out | apply pw_below_drewN)) : w.heap.size ≤ gb513)); have n5_ := Aside0.mk ((by rw [hg]; exact Nat.ne_of_lt (blk_lt (by with_reducible repeat first | exact BK512.out | apply bN)) : gb512 ≠ gb513)); have n6_ := Aside0.mk ((by rw [hg]; exact Nat.ne_of_gt (blk_lt (by with_reducible repeat first | exact BK512.out | apply bN)) : gb513 ≠ gb512)); clear BK512; clear HB; have BK512 := n0_; have HB := n1_; have BK513 := n2_; have GW513 := n3_; have GE513 := n4_; have NB512_513 := n5_; have NB513_512 := n6_; clear n0_ n1_ n2_ n3_ n4_ n5_ n6_; clear hb hbox hg) | ((with_reducible refine gate_callee (f := 15) rfl ?_); refine goesL_ (some 11) rfl rfl Try.func15 (by kernel_rfl) rfl #[] rfl (by (try simp only [List.map_toArray, List.map_cons, List.map_nil]); first | done | rfl | (simp only [List.length_drop, List.length_take]; rfl)) ?_; (with_reducible refine (clepsydralaw11_alive.calls k  true _ A4.out).mono ?_); rintro e w35 ⟨rfl, hb⟩; refine ⟨_, rfl, ?_⟩; have n0_ := Aside0.mk (blk_below (by with_reducible repeat first | exact BK512.out | apply bN) hb); have n1_ := Aside0.mk (blk_below (by with_reducible repeat first | exact BK513.out | apply bN) hb); have n2_ := Aside0.mk (below_step (by with_reducible repeat first | exact HB.out | apply pw_below_drewN) hb); clear BK512; clear BK513; clear HB; have BK512 := n0_; have BK513 := n1_; have HB := n2_; clear n0_ n1_ n2_; (try clear hb); (try clear hb2); (try clear hk); (try clear hi); have hnb36 := NB512_513.out; have hnc36 := NB513_512.out; have hcz37_0 : w35.cell? ⟨gb512, 0, none⟩ = some (.int .i64 a0_0) := (blk_cell BK512.out 0).trans rfl; have hcz37_1 : w35.cell? ⟨gb512, 1, none⟩ = some (.int .i64 a0_1) := (blk_cell BK512.out 1).trans rfl; have hcz37_2 : w35.cell? ⟨gb512, 2, none⟩ = some (.int .i64 a0_2) := (blk_cell BK512.out 2).trans rfl; have hcz37_3 : w35.cell? ⟨gb512, 3, none⟩ = some (.int .i64 a0_3) := (blk_cell BK512.out 3).trans rfl; have hcz37_4 : w35.cell? ⟨gb512, 4, none⟩ = some (.int .i64 a0_4) := (blk_cell BK512.out 4).trans rfl; have hcz37_5 : w35.cell? ⟨gb512, 5, none⟩ = some (.int .i64 a0_5) := (blk_cell BK512.out 5).trans rfl; have hcz37_6 : w35.cell? ⟨gb512, 6, none⟩ = some (.int .i64 a0_6) := (blk_cell BK512.out 6).trans rfl; have hcz37_7 : w35.cell? ⟨gb512, 7, none⟩ = some (.int .i64 a0_7) := (blk_cell BK512.out 7).trans rfl; have hcz37_8 : w35.cell? ⟨gb512, 8, none⟩ = some (.int .i64 a0_8) := (blk_cell BK512.out 8).trans rfl; have hcz37_9 : w35.cell? ⟨gb512, 9, none⟩ = some (.int .i64 a0_9) := (blk_cell BK512.out 9).trans rfl; have hcz37_10 : w35.cell? ⟨gb512, 10, none⟩ = some (.int .i64 a0_10) := (blk_cell BK512.out 10).trans rfl; have hcz37_11 : w35.cell? ⟨gb512, 11, none⟩ = some (.int .i64 a0_11) := (blk_cell BK512.out 11).trans rfl; have hfz37_0 := blk_frozen BK512.out 0; have hfz37_1 := blk_frozen BK512.out 1; have hfz37_2 := blk_frozen BK512.out 2; have hfz37_3 := blk_frozen BK512.out 3; have hfz37_4 := blk_frozen BK512.out 4; have hfz37_5 := blk_frozen BK512.out 5; have hfz37_6 := blk_frozen BK512.out 6; have hfz37_7 := blk_frozen BK512.out 7; have hfz37_8 := blk_frozen BK512.out 8; have hfz37_9 := blk_frozen BK512.out 9; have hfz37_10 := blk_frozen BK512.out 10; have hfz37_11 := blk_frozen BK512.out 11) | ((with_reducible refine gate_callee (f := 24) rfl ?_); refine goesL_ (some 14) rfl rfl Try.func24 (by kernel_rfl) rfl #[.agg #[.int .i64 a0_0, .int .i64 a0_1, .int .i64 a0_2, .int .i64 a0_3, .int .i64 a0_4, .int .i64 a0_5, .int .i64 a0_6, .int .i64 a0_7, .int .i64 a0_8, .int .i64 a0_9, .int .i64 a0_10, .int .i64 a0_11]] rfl (by (try simp only [List.map_toArray, List.map_cons, List.map_nil]); first | done | rfl | (simp only [List.length_drop, List.length_take]; rfl)) ?_; (with_reducible refine (limit_Check.calls k a0_0 a0_1 a0_2 a0_3 a0_4 a0_5 a0_6 a0_7 a0_8 a0_9 a0_10 a0_11 t515 _ A6.out).mono ?_); rintro e w38 ⟨rfl, hb⟩; refine ⟨_, rfl, ?_⟩; have n0_ := Aside0.mk (blk_below (by with_reducible repeat first | exact BK512.out | apply bN) hb); have n1_ := Aside0.mk (blk_below (by with_reducible repeat first | exact BK513.out | apply bN) hb); have n2_ := Aside0.mk (below_step (by with_reducible repeat first | exact HB.out | apply pw_below_drewN) hb); clear BK512; clear BK513; clear HB; have BK512 := n0_; have BK513 := n1_; have HB := n2_; clear n0_ n1_ n2_; (try clear hb); (try clear hb2); (try clear hk); (try clear hi); have hcz39_0 : w38.cell? ⟨gb513, 0, none⟩ = some (.int .i64 a1_0) := (blk_cell BK513.out 0).trans rfl; have hcz39_1 : w38.cell? ⟨gb513, 1, none⟩ = some (.int .i64 a1_1) := (blk_cell BK513.out 1).trans rfl; have hfz39_0 := blk_frozen BK513.out 0; have hfz39_1 := blk_frozen BK513.out 1))
       refine wp_loop_rounds 4 ?_; rw [rounds_succ]
       try go_wp2
       rw [rounds_succ]
       try go_wp2
       go_ret
       exact ⟨by first | rfl | (simp [errW_none, errW_some] <;> rfl) | (simp [*, errW_none, errW_some] <;> rfl), by repeat (first | (with_reducible first | exact HB.out | apply below_alloc | apply pw_below_drewN | apply below_drew1 | refine below_set ?_ GE512.out | refine below_set ?_ GE513.out) | exact HB.out)⟩
      ·rw [if_neg c32] at H
       have c32b0 : decide (a1_1 < (-576460752303423488)) = false := decide_eq_false c32
       clear c32
       by_cases c40 : a2 > 576460752303423488
       ·rw [if_pos c40] at H
        have c40b0 : decide (576460752303423488 < a2) = true := decide_eq_true c40
        clear c40
        obtain rfl := Option.some.inj H
        go_enter Try.func11, Try.ntmps11
        try go_wp2_with (first | ((with_reducible refine gate_dst (N := 3) rfl ?_); refine box_event ?hg (N := 3) ?hd (cs := #[.int .i64 a0_0, .int .i64 a0_1, .int .i64 a0_2, .int .i64 a0_3, .int .i64 a0_4, .int .i64 a0_5, .int .i64 a0_6, .int .i64 a0_7, .int .i64 a0_8, .int .i64 a0_9, .int .i64 a0_10, .int .i64 a0_11]) (t := 23) ?hr ?_; (case hd => rfl); (case hg => rfl); (case hr => first | (go_simp; done) | (go_simp; rfl)); intro gb512 hg w41 hbox hb; have n0_ := Aside0.mk (below_step (by with_reducible repeat first | exact HB.out | apply pw_below_drewN) hb); have n1_ := Aside0.mk (hbox); have n2_ := Aside0.mk ((by rw [hg]; exact (below_size (by with_reducible repeat first | exact HB.out | apply pw_below_drewN)) : w.heap.size ≤ gb512)); have n3_ := Aside0.mk ((by rw [hg]; exact (below_size (by with_reducible repeat first | exact HB.out | apply pw_below_drewN)) : w.heap.size ≤ gb512)); clear HB; have HB := n0_; have BK512 := n1_; have GW512 := n2_; have GE512 := n3_; clear n0_ n1_ n2_ n3_; clear hb hbox hg) | ((with_reducible refine gate_dst (N := 4) rfl ?_); refine box_event ?hg (N := 4) ?hd (cs := #[.int .i64 a1_0, .int .i64 a1_1]) (t := 25) ?hr ?_; (case hd => rfl); (case hg => rfl); (case hr => first | (go_simp; done) | (go_simp; rfl)); intro gb513 hg w42 hbox hb; have n0_ := Aside0.mk (blk_below (by with_reducible repeat first | exact BK512.out | apply bN) hb); have n1_ := Aside0.mk (below_step (by with_reducible repeat first | exact HB.out | apply pw_below_drewN) hb); have n2_ := Aside0.mk (hbox); have n3_ := Aside0.mk ((by rw [hg]; exact (below_size (by with_reducible repeat first | exact HB.out | apply pw_below_drewN)) : w.heap.size ≤ gb513)); have n4_ := Aside0.mk ((by rw [hg]; exact (below_size (by with_reducible repeat first | exact HB.out | apply pw_below_drewN)) : w.heap.size ≤ gb513)); have n5_ := Aside0.mk ((by rw [hg]; exact Nat.ne_of_lt (blk_lt (by with_reducible repeat first | exact BK512.out | apply bN)) : gb512 ≠ gb513)); have n6_ := Aside0.mk ((by rw [hg]; exact Nat.ne_of_gt (blk_lt (by with_reducible repeat first | exact BK512.out | apply bN)) : gb513 ≠ gb512)); clear BK512; clear HB; have BK512 := n0_; have HB := n1_; have BK513 := n2_; have GW513 := n3_; have GE513 := n4_; have NB512_513 := n5_; have NB513_512 := n6_; clear n0_ n1_ n2_ n3_ n4_ n5_ n6_; clear hb hbox hg) | ((with_reducible refine gate_callee (f := 15) rfl ?_); refine goesL_ (some 11) rfl rfl Try.func15 (by kernel_rfl) rfl #[] rfl (by (try simp only [List.map_toArray, List.map_cons, List.map_nil]); first | done | rfl | (simp only [List.length_drop, List.length_take]; rfl)) ?_; (with_reducible refine (clepsydralaw11_alive.calls k  true _ A4.out).mono ?_); rintro e w43 ⟨rfl, hb⟩; refine ⟨_, rfl, ?_⟩; have n0_ := Aside0.mk (blk_below (by with_reducible repeat first | exact BK512.out | apply bN) hb); have n1_ := Aside0.mk (blk_below (by with_reducible repeat first | exact BK513.out | apply bN) hb); have n2_ := Aside0.mk (below_step (by with_reducible repeat first | exact HB.out | apply pw_below_drewN) hb); clear BK512; clear BK513; clear HB; have BK512 := n0_; have BK513 := n1_; have HB := n2_; clear n0_ n1_ n2_; (try clear hb); (try clear hb2); (try clear hk); (try clear hi); have hnb44 := NB512_513.out; have hnc44 := NB513_512.out; have hcz45_0 : w43.cell? ⟨gb512, 0, none⟩ = some (.int .i64 a0_0) := (blk_cell BK512.out 0).trans rfl; have hcz45_1 : w43.cell? ⟨gb512, 1, none⟩ = some (.int .i64 a0_1) := (blk_cell BK512.out 1).trans rfl; have hcz45_2 : w43.cell? ⟨gb512, 2, none⟩ = some (.int .i64 a0_2) := (blk_cell BK512.out 2).trans rfl; have hcz45_3 : w43.cell? ⟨gb512, 3, none⟩ = some (.int .i64 a0_3) := (blk_cell BK512.out 3).trans rfl; have hcz45_4 : w43.cell? ⟨gb512, 4, none⟩ = some (.int .i64 a0_4) := (blk_cell BK512.out 4).trans rfl; have hcz45_5 : w43.cell? ⟨gb512, 5, none⟩ = some (.int .i64 a0_5) := (blk_cell BK512.out 5).trans rfl; have hcz45_6 : w43.cell? ⟨gb512, 6, none⟩ = some (.int .i64 a0_6) := (blk_cell BK512.out 6).trans rfl; have hcz45_7 : w43.cell? ⟨gb512, 7, none⟩ = some (.int .i64 a0_7) := (blk_cell BK512.out 7).trans rfl; have hcz45_8 : w43.cell? ⟨gb512, 8, none⟩ = some (.int .i64 a0_8) := (blk_cell BK512.out 8).trans rfl; have hcz45_9 : w43.cell? ⟨gb512, 9, none⟩ = some (.int .i64 a0_9) := (blk_cell BK512.out 9).trans rfl; have hcz45_10 : w43.cell? ⟨gb512, 10, none⟩ = some (.int .i64 a0_10) := (blk_cell BK512.out 10).trans rfl; have hcz45_11 : w43.cell? ⟨gb512, 11, none⟩ = some (.int .i64 a0_11) := (blk_cell BK512.out 11).trans rfl; have hfz45_0 := blk_frozen BK512.out 0; have hfz45_1 := blk_frozen BK512.out 1; have hfz45_2 := blk_frozen BK512.out 2; have hfz45_3 := blk_frozen BK512.out 3; have hfz45_4 := blk_frozen BK512.out 4; have hfz45_5 := blk_frozen BK512.out 5; have hfz45_6 := blk_frozen BK512.out 6; have hfz45_7 := blk_frozen BK512.out 7; have hfz45_8 := blk_frozen BK512.out 8; have hfz45_9 := blk_frozen BK512.out 9; have hfz45_10 := blk_frozen BK512.out 10; have hfz45_11 := blk_frozen BK512.out 11) | ((with_reducible refine gate_callee (f := 24) rfl ?_); refine goesL_ (some 14) rfl rfl Try.func24 (by kernel_rfl) rfl #[.agg #[.int .i64 a0_0, .int .i64 a0_1, .int .i64 a0_2, .int .i64 a0_3, .int .i64 a0_4, .int .i64 a0_5, .int .i64 a0_6, .int .i64 a0_7, .int .i64 a0_8, .int .i64 a0_9, .int .i64 a0_10, .int .i64 a0_11]] rfl (by (try simp only [List.map_toArray, List.map_cons, List.map_nil]); first | done | rfl | (simp only [List.length_drop, List.length_take]; rfl)) ?_; (with_reducible refine (limit_Check.calls k a0_0 a0_1 a0_2 a0_3 a0_4 a0_5 a0_6 a0_7 a0_8 a0_9 a0_10 a0_11 t515 _ A6.out).mono ?_); rintro e w46 ⟨rfl, hb⟩; refine ⟨_, rfl, ?_⟩; have n0_ := Aside0.mk (blk_below (by with_reducible repeat first | exact BK512.out | apply bN) hb); have n1_ := Aside0.mk (blk_below (by with_reducible repeat first | exact BK513.out | apply bN) hb); have n2_ := Aside0.mk (below_step (by with_reducible repeat first | exact HB.out | apply pw_below_drewN) hb); clear BK512; clear BK513; clear HB; have BK512 := n0_; have BK513 := n1_; have HB := n2_; clear n0_ n1_ n2_; (try clear hb); (try clear hb2); (try clear hk); (try clear hi); have hcz47_0 : w46.cell? ⟨gb513, 0, none⟩ = some (.int .i64 a1_0) := (blk_cell BK513.out 0).trans rfl; have hcz47_1 : w46.cell? ⟨gb513, 1, none⟩ = some (.int .i64 a1_1) := (blk_cell BK513.out 1).trans rfl; have hfz47_0 := blk_frozen BK513.out 0; have hfz47_1 := blk_frozen BK513.out 1))
        refine wp_loop_rounds 4 ?_; rw [rounds_succ]
        try go_wp2
        rw [rounds_succ]
        try go_wp2
        rw [rounds_succ]
        try go_wp2
        go_ret
        exact ⟨by first | rfl | (simp [errW_none, errW_some] <;> rfl) | (simp [*, errW_none, errW_some] <;> rfl), by repeat (first | (with_reducible first | exact HB.out | apply below_alloc | apply pw_below_drewN | apply below_drew1 | refine below_set ?_ GE512.out | refine below_set ?_ GE513.out) | exact HB.out)⟩
       ·rw [if_neg c40] at H
        have c40b0 : decide (576460752303423488 < a2) = false := decide_eq_false c40
        clear c40
        by_cases c48 : a2 < (-576460752303423488)
        ·rw [if_pos c48] at H
         have c48b0 : decide (a2 < (-576460752303423488)) = true := decide_eq_true c48
         clear c48
         obtain rfl := Option.some.inj H
         go_enter Try.func11, Try.ntmps11
         try go_wp2_with (first | ((with_reducible refine gate_dst (N := 3) rfl ?_); refine box_event ?hg (N := 3) ?hd (cs := #[.int .i64 a0_0, .int .i64 a0_1, .int .i64 a0_2, .int .i64 a0_3, .int .i64 a0_4, .int .i64 a0_5, .int .i64 a0_6, .int .i64 a0_7, .int .i64 a0_8, .int .i64 a0_9, .int .i64 a0_10, .int .i64 a0_11]) (t := 23) ?hr ?_; (case hd => rfl); (case hg => rfl); (case hr => first | (go_simp; done) | (go_simp; rfl)); intro gb512 hg w49 hbox hb; have n0_ := Aside0.mk (below_step (by with_reducible repeat first | exact HB.out | apply pw_below_drewN) hb); have n1_ := Aside0.mk (hbox); have n2_ := Aside0.mk ((by rw [hg]; exact (below_size (by with_reducible repeat first | exact HB.out | apply pw_below_drewN)) : w.heap.size ≤ gb512)); have n3_ := Aside0.mk ((by rw [hg]; exact (below_size (by with_reducible repeat first | exact HB.out | apply pw_below_drewN)) : w.heap.size ≤ gb512)); clear HB; have HB := n0_; have BK512 := n1_; have GW512 := n2_; have GE512 := n3_; clear n0_ n1_ n2_ n3_; clear hb hbox hg) | ((with_reducible refine gate_dst (N := 4) rfl ?_); refine box_event ?hg (N := 4) ?hd (cs := #[.int .i64 a1_0, .int .i64 a1_1]) (t := 25) ?hr ?_; (case hd => rfl); (case hg => rfl); (case hr => first | (go_simp; done) | (go_simp; rfl)); intro gb513 hg w50 hbox hb; have n0_ := Aside0.mk (blk_below (by with_reducible repeat first | exact BK512.out | apply bN) hb); have n1_ := Aside0.mk (below_step (by with_reducible repeat first | exact HB.out | apply pw_below_drewN) hb); have n2_ := Aside0.mk (hbox); have n3_ := Aside0.mk ((by rw [hg]; exact (below_size (by with_reducible repeat first | exact HB.out | apply pw_below_drewN)) : w.heap.size ≤ gb513)); have n4_ := Aside0.mk ((by rw [hg]; exact (below_size (by with_reducible repeat first | exact HB.out | apply pw_below_drewN)) : w.heap.size ≤ gb513)); have n5_ := Aside0.mk ((by rw [hg]; exact Nat.ne_of_lt (blk_lt (by with_reducible repeat first | exact BK512.out | apply bN)) : gb512 ≠ gb513)); have n6_ := Aside0.mk ((by rw [hg]; exact Nat.ne_of_gt (blk_lt (by with_reducible repeat first | exact BK512.out | apply bN)) : gb513 ≠ gb512)); clear BK512; clear HB; have BK512 := n0_; have HB := n1_; have BK513 := n2_; have GW513 := n3_; have GE513 := n4_; have NB512_513 := n5_; have NB513_512 := n6_; clear n0_ n1_ n2_ n3_ n4_ n5_ n6_; clear hb hbox hg) | ((with_reducible refine gate_callee (f := 15) rfl ?_); refine goesL_ (some 11) rfl rfl Try.func15 (by kernel_rfl) rfl #[] rfl (by (try simp only [List.map_toArray, List.map_cons, List.map_nil]); first | done | rfl | (simp only [List.length_drop, List.length_take]; rfl)) ?_; (with_reducible refine (clepsydralaw11_alive.calls k  true _ A4.out).mono ?_); rintro e w51 ⟨rfl, hb⟩; refine ⟨_, rfl, ?_⟩; have n0_ := Aside0.mk (blk_below (by with_reducible repeat first | exact BK512.out | apply bN) hb); have n1_ := Aside0.mk (blk_below (by with_reducible repeat first | exact BK513.out | apply bN) hb); have n2_ := Aside0.mk (below_step (by with_reducible repeat first | exact HB.out | apply pw_below_drewN) hb); clear BK512; clear BK513; clear HB; have BK512 := n0_; have BK513 := n1_; have HB := n2_; clear n0_ n1_ n2_; (try clear hb); (try clear hb2); (try clear hk); (try clear hi); have hnb52 := NB512_513.out; have hnc52 := NB513_512.out; have hcz53_0 : w51.cell? ⟨gb512, 0, none⟩ = some (.int .i64 a0_0) := (blk_cell BK512.out 0).trans rfl; have hcz53_1 : w51.cell? ⟨gb512, 1, none⟩ = some (.int .i64 a0_1) := (blk_cell BK512.out 1).trans rfl; have hcz53_2 : w51.cell? ⟨gb512, 2, none⟩ = some (.int .i64 a0_2) := (blk_cell BK512.out 2).trans rfl; have hcz53_3 : w51.cell? ⟨gb512, 3, none⟩ = some (.int .i64 a0_3) := (blk_cell BK512.out 3).trans rfl; have hcz53_4 : w51.cell? ⟨gb512, 4, none⟩ = some (.int .i64 a0_4) := (blk_cell BK512.out 4).trans rfl; have hcz53_5 : w51.cell? ⟨gb512, 5, none⟩ = some (.int .i64 a0_5) := (blk_cell BK512.out 5).trans rfl; have hcz53_6 : w51.cell? ⟨gb512, 6, none⟩ = some (.int .i64 a0_6) := (blk_cell BK512.out 6).trans rfl; have hcz53_7 : w51.cell? ⟨gb512, 7, none⟩ = some (.int .i64 a0_7) := (blk_cell BK512.out 7).trans rfl; have hcz53_8 : w51.cell? ⟨gb512, 8, none⟩ = some (.int .i64 a0_8) := (blk_cell BK512.out 8).trans rfl; have hcz53_9 : w51.cell? ⟨gb512, 9, none⟩ = some (.int .i64 a0_9) := (blk_cell BK512.out 9).trans rfl; have hcz53_10 : w51.cell? ⟨gb512, 10, none⟩ = some (.int .i64 a0_10) := (blk_cell BK512.out 10).trans rfl; have hcz53_11 : w51.cell? ⟨gb512, 11, none⟩ = some (.int .i64 a0_11) := (blk_cell BK512.out 11).trans rfl; have hfz53_0 := blk_frozen BK512.out 0; have hfz53_1 := blk_frozen BK512.out 1; have hfz53_2 := blk_frozen BK512.out 2; have hfz53_3 := blk_frozen BK512.out 3; have hfz53_4 := blk_frozen BK512.out 4; have hfz53_5 := blk_frozen BK512.out 5; have hfz53_6 := blk_frozen BK512.out 6; have hfz53_7 := blk_frozen BK512.out 7; have hfz53_8 := blk_frozen BK512.out 8; have hfz53_9 := blk_frozen BK512.out 9; have hfz53_10 := blk_frozen BK512.out 10; have hfz53_11 := blk_frozen BK512.out 11) | ((with_reducible refine gate_callee (f := 24) rfl ?_); refine goesL_ (some 14) rfl rfl Try.func24 (by kernel_rfl) rfl #[.agg #[.int .i64 a0_0, .int .i64 a0_1, .int .i64 a0_2, .int .i64 a0_3, .int .i64 a0_4, .int .i64 a0_5, .int .i64 a0_6, .int .i64 a0_7, .int .i64 a0_8, .int .i64 a0_9, .int .i64 a0_10, .int .i64 a0_11]] rfl (by (try simp only [List.map_toArray, List.map_cons, List.map_nil]); first | done | rfl | (simp only [List.length_drop, List.length_take]; rfl)) ?_; (with_reducible refine (limit_Check.calls k a0_0 a0_1 a0_2 a0_3 a0_4 a0_5 a0_6 a0_7 a0_8 a0_9 a0_10 a0_11 t515 _ A6.out).mono ?_); rintro e w54 ⟨rfl, hb⟩; refine ⟨_, rfl, ?_⟩; have n0_ := Aside0.mk (blk_below (by with_reducible repeat first | exact BK512.out | apply bN) hb); have n1_ := Aside0.mk (blk_below (by with_reducible repeat first | exact BK513.out | apply bN) hb); have n2_ := Aside0.mk (below_step (by with_reducible repeat first | exact HB.out | apply pw_below_drewN) hb); clear BK512; clear BK513; clear HB; have BK512 := n0_; have BK513 := n1_; have HB := n2_; clear n0_ n1_ n2_; (try clear hb); (try clear hb2); (try clear hk); (try clear hi); have hcz55_0 : w54.cell? ⟨gb513, 0, none⟩ = some (.int .i64 a1_0) := (blk_cell BK513.out 0).trans rfl; have hcz55_1 : w54.cell? ⟨gb513, 1, none⟩ = some (.int .i64 a1_1) := (blk_cell BK513.out 1).trans rfl; have hfz55_0 := blk_frozen BK513.out 0; have hfz55_1 := blk_frozen BK513.out 1))
         refine wp_loop_rounds 4 ?_; rw [rounds_succ]
         try go_wp2
         rw [rounds_succ]
         try go_wp2
         rw [rounds_succ]
         try go_wp2
         go_ret
         exact ⟨by first | rfl | (simp [errW_none, errW_some] <;> rfl) | (simp [*, errW_none, errW_some] <;> rfl), by repeat (first | (with_reducible first | exact HB.out | apply below_alloc | apply pw_below_drewN | apply below_drew1 | refine below_set ?_ GE512.out | refine below_set ?_ GE513.out) | exact HB.out)⟩
        ·rw [if_neg c48] at H
         have c48b0 : decide (a2 < (-576460752303423488)) = false := decide_eq_false c48
         clear c48
         replace H := Option.bind_eq_some_iff.mp H
         obtain ⟨⟨t516, t517⟩, A560, H⟩ := H
         replace H : ((carry_Way.f k a0_0 a0_1 a0_2 a0_3 a0_4 a0_5 a0_6 a0_7 a0_8 a0_9 a0_10 a0_11 a1_0 a1_1 a2).bind fun bt518 => (if (wrap64 (t517 - t516)) = (wrap64 ((wrap64 (a1_1 - a1_0)) + (wrap64 (2 * a0_4)))) then ((limit_Hop.f k a0_0 a0_1 a0_2 a0_3 a0_4 a0_5 a0_6 a0_7 a0_8 a0_9 a0_10 a0_11).bind fun t522 => (some ((wrap64 (bt518.2 - bt518.1)) == (wrap64 ((wrap64 (a1_1 - a1_0)) + t522))))) else (some false))) = some r := H
         have A56 := Aside0.mk A560
         clear A560
         replace H := Option.bind_eq_some_iff.mp H
         obtain ⟨⟨t518, t519⟩, A570, H⟩ := H
         replace H : (if (wrap64 (t517 - t516)) = (wrap64 ((wrap64 (a1_1 - a1_0)) + (wrap64 (2 * a0_4)))) then ((limit_Hop.f k a0_0 a0_1 a0_2 a0_3 a0_4 a0_5 a0_6 a0_7 a0_8 a0_9 a0_10 a0_11).bind fun t522 => (some ((wrap64 (t519 - t518)) == (wrap64 ((wrap64 (a1_1 - a1_0)) + t522))))) else (some false)) = some r := H
         have A57 := Aside0.mk A570
         clear A570
         by_cases c58 : (wrap64 (t517 - t516)) = (wrap64 ((wrap64 (a1_1 - a1_0)) + (wrap64 (2 * a0_4))))
         ·rw [if_pos c58] at H
          have c58b0 : ((wrap64 (t517 - t516)) == (wrap64 ((wrap64 (a1_1 - a1_0)) + (wrap64 (2 * a0_4))))) = true := beq_iff_eq.mpr c58
          have c58b1 : ((wrap64 (t517 - t516)) != (wrap64 ((wrap64 (a1_1 - a1_0)) + (wrap64 (2 * a0_4))))) = false := bne_eq_false_iff_eq.mpr c58
          clear c58
          replace H := Option.bind_eq_some_iff.mp H
          obtain ⟨t522, A590, H⟩ := H
          replace H : (some ((wrap64 (t519 - t518)) == (wrap64 ((wrap64 (a1_1 - a1_0)) + t522)))) = some r := H
          have A59 := Aside0.mk A590
          clear A590
          obtain rfl := Option.some.inj H
          go_enter Try.func11, Try.ntmps11
          try go_wp2_with (first | ((with_reducible refine gate_dst (N := 3) rfl ?_); refine box_event ?hg (N := 3) ?hd (cs := #[.int .i64 a0_0, .int .i64 a0_1, .int .i64 a0_2, .int .i64 a0_3, .int .i64 a0_4, .int .i64 a0_5, .int .i64 a0_6, .int .i64 a0_7, .int .i64 a0_8, .int .i64 a0_9, .int .i64 a0_10, .int .i64 a0_11]) (t := 23) ?hr ?_; (case hd => rfl); (case hg => rfl); (case hr => first | (go_simp; done) | (go_simp; rfl)); intro gb512 hg w60 hbox hb; have n0_ := Aside0.mk (below_step (by with_reducible repeat first | exact HB.out | apply pw_below_drewN) hb); have n1_ := Aside0.mk (hbox); have n2_ := Aside0.mk ((by rw [hg]; exact (below_size (by with_reducible repeat first | exact HB.out | apply pw_below_drewN)) : w.heap.size ≤ gb512)); have n3_ := Aside0.mk ((by rw [hg]; exact (below_size (by with_reducible repeat first | exact HB.out | apply pw_below_drewN)) : w.heap.size ≤ gb512)); clear HB; have HB := n0_; have BK512 := n1_; have GW512 := n2_; have GE512 := n3_; clear n0_ n1_ n2_ n3_; clear hb hbox hg) | ((with_reducible refine gate_dst (N := 4) rfl ?_); refine box_event ?hg (N := 4) ?hd (cs := #[.int .i64 a1_0, .int .i64 a1_1]) (t := 25) ?hr ?_; (case hd => rfl); (case hg => rfl); (case hr => first | (go_simp; done) | (go_simp; rfl)); intro gb513 hg w61 hbox hb; have n0_ := Aside0.mk (blk_below (by with_reducible repeat first | exact BK512.out | apply bN) hb); have n1_ := Aside0.mk (below_step (by with_reducible repeat first | exact HB.out | apply pw_below_drewN) hb); have n2_ := Aside0.mk (hbox); have n3_ := Aside0.mk ((by rw [hg]; exact (below_size (by with_reducible repeat first | exact HB.out | apply pw_below_drewN)) : w.heap.size ≤ gb513)); have n4_ := Aside0.mk ((by rw [hg]; exact (below_size (by with_reducible repeat first | exact HB.out | apply pw_below_drewN)) : w.heap.size ≤ gb513)); have n5_ := Aside0.mk ((by rw [hg]; exact Nat.ne_of_lt (blk_lt (by with_reducible repeat first | exact BK512.out | apply bN)) : gb512 ≠ gb513)); have n6_ := Aside0.mk ((by rw [hg]; exact Nat.ne_of_gt (blk_lt (by with_reducible repeat first | exact BK512.out | apply bN)) : gb513 ≠ gb512)); clear BK512; clear HB; have BK512 := n0_; have HB := n1_; have BK513 := n2_; have GW513 := n3_; have GE513 := n4_; have NB512_513 := n5_; have NB513_512 := n6_; clear n0_ n1_ n2_ n3_ n4_ n5_ n6_; clear hb hbox hg) | ((with_reducible refine gate_callee (f := 15) rfl ?_); refine goesL_ (some 11) rfl rfl Try.func15 (by kernel_rfl) rfl #[] rfl (by (try simp only [List.map_toArray, List.map_cons, List.map_nil]); first | done | rfl | (simp only [List.length_drop, List.length_take]; rfl)) ?_; (with_reducible refine (clepsydralaw11_alive.calls k  true _ A4.out).mono ?_); rintro e w62 ⟨rfl, hb⟩; refine ⟨_, rfl, ?_⟩; have n0_ := Aside0.mk (blk_below (by with_reducible repeat first | exact BK512.out | apply bN) hb); have n1_ := Aside0.mk (blk_below (by with_reducible repeat first | exact BK513.out | apply bN) hb); have n2_ := Aside0.mk (below_step (by with_reducible repeat first | exact HB.out | apply pw_below_drewN) hb); clear BK512; clear BK513; clear HB; have BK512 := n0_; have BK513 := n1_; have HB := n2_; clear n0_ n1_ n2_; (try clear hb); (try clear hb2); (try clear hk); (try clear hi); have hnb63 := NB512_513.out; have hnc63 := NB513_512.out; have hcz64_0 : w62.cell? ⟨gb512, 0, none⟩ = some (.int .i64 a0_0) := (blk_cell BK512.out 0).trans rfl; have hcz64_1 : w62.cell? ⟨gb512, 1, none⟩ = some (.int .i64 a0_1) := (blk_cell BK512.out 1).trans rfl; have hcz64_2 : w62.cell? ⟨gb512, 2, none⟩ = some (.int .i64 a0_2) := (blk_cell BK512.out 2).trans rfl; have hcz64_3 : w62.cell? ⟨gb512, 3, none⟩ = some (.int .i64 a0_3) := (blk_cell BK512.out 3).trans rfl; have hcz64_4 : w62.cell? ⟨gb512, 4, none⟩ = some (.int .i64 a0_4) := (blk_cell BK512.out 4).trans rfl; have hcz64_5 : w62.cell? ⟨gb512, 5, none⟩ = some (.int .i64 a0_5) := (blk_cell BK512.out 5).trans rfl; have hcz64_6 : w62.cell? ⟨gb512, 6, none⟩ = some (.int .i64 a0_6) := (blk_cell BK512.out 6).trans rfl; have hcz64_7 : w62.cell? ⟨gb512, 7, none⟩ = some (.int .i64 a0_7) := (blk_cell BK512.out 7).trans rfl; have hcz64_8 : w62.cell? ⟨gb512, 8, none⟩ = some (.int .i64 a0_8) := (blk_cell BK512.out 8).trans rfl; have hcz64_9 : w62.cell? ⟨gb512, 9, none⟩ = some (.int .i64 a0_9) := (blk_cell BK512.out 9).trans rfl; have hcz64_10 : w62.cell? ⟨gb512, 10, none⟩ = some (.int .i64 a0_10) := (blk_cell BK512.out 10).trans rfl; have hcz64_11 : w62.cell? ⟨gb512, 11, none⟩ = some (.int .i64 a0_11) := (blk_cell BK512.out 11).trans rfl; have hfz64_0 := blk_frozen BK512.out 0; have hfz64_1 := blk_frozen BK512.out 1; have hfz64_2 := blk_frozen BK512.out 2; have hfz64_3 := blk_frozen BK512.out 3; have hfz64_4 := blk_frozen BK512.out 4; have hfz64_5 := blk_frozen BK512.out 5; have hfz64_6 := blk_frozen BK512.out 6; have hfz64_7 := blk_frozen BK512.out 7; have hfz64_8 := blk_frozen BK512.out 8; have hfz64_9 := blk_frozen BK512.out 9; have hfz64_10 := blk_frozen BK512.out 10; have hfz64_11 := blk_frozen BK512.out 11) | ((with_reducible refine gate_callee (f := 24) rfl ?_); refine goesL_ (some 14) rfl rfl Try.func24 (by kernel_rfl) rfl #[.agg #[.int .i64 a0_0, .int .i64 a0_1, .int .i64 a0_2, .int .i64 a0_3, .int .i64 a0_4, .int .i64 a0_5, .int .i64 a0_6, .int .i64 a0_7, .int .i64 a0_8, .int .i64 a0_9, .int .i64 a0_10, .int .i64 a0_11]] rfl (by (try simp only [List.map_toArray, List.map_cons, List.map_nil]); first | done | rfl | (simp only [List.length_drop, List.length_take]; rfl)) ?_; (with_reducible refine (limit_Check.calls k a0_0 a0_1 a0_2 a0_3 a0_4 a0_5 a0_6 a0_7 a0_8 a0_9 a0_10 a0_11 t515 _ A6.out).mono ?_); rintro e w65 ⟨rfl, hb⟩; refine ⟨_, rfl, ?_⟩; have n0_ := Aside0.mk (blk_below (by with_reducible repeat first | exact BK512.out | apply bN) hb); have n1_ := Aside0.mk (blk_below (by with_reducible repeat first | exact BK513.out | apply bN) hb); have n2_ := Aside0.mk (below_step (by with_reducible repeat first | exact HB.out | apply pw_below_drewN) hb); clear BK512; clear BK513; clear HB; have BK512 := n0_; have BK513 := n1_; have HB := n2_; clear n0_ n1_ n2_; (try clear hb); (try clear hb2); (try clear hk); (try clear hi); have hcz66_0 : w65.cell? ⟨gb513, 0, none⟩ = some (.int .i64 a1_0) := (blk_cell BK513.out 0).trans rfl; have hcz66_1 : w65.cell? ⟨gb513, 1, none⟩ = some (.int .i64 a1_1) := (blk_cell BK513.out 1).trans rfl; have hfz66_0 := blk_frozen BK513.out 0; have hfz66_1 := blk_frozen BK513.out 1))
          refine wp_loop_rounds 4 ?_; rw [rounds_succ]
          try go_wp2
          rw [rounds_succ]
          try go_wp2
          rw [rounds_succ]
          try go_wp2
          rw [rounds_succ]
          try go_wp2
          have n0_ := Aside0.mk (blk_drew BK512.out)
          have n1_ := Aside0.mk (blk_drew BK513.out)
          have n2_ := Aside0.mk (below_drew1 HB.out)
          clear BK512 BK513 HB
          have BK512 := n0_
          have BK513 := n1_
          have HB := n2_
          clear n0_ n1_ n2_
          refine start_ (n := 12) (S := fun w' => w'.cell? ⟨gb512, 0, none⟩ = some (.int .i64 a0_0) ∧ w'.cell? ⟨gb512, 1, none⟩ = some (.int .i64 a0_1) ∧ w'.cell? ⟨gb512, 2, none⟩ = some (.int .i64 a0_2) ∧ w'.cell? ⟨gb512, 3, none⟩ = some (.int .i64 a0_3) ∧ w'.cell? ⟨gb512, 4, none⟩ = some (.int .i64 a0_4) ∧ w'.cell? ⟨gb512, 5, none⟩ = some (.int .i64 a0_5) ∧ w'.cell? ⟨gb512, 6, none⟩ = some (.int .i64 a0_6) ∧ w'.cell? ⟨gb512, 7, none⟩ = some (.int .i64 a0_7) ∧ w'.cell? ⟨gb512, 8, none⟩ = some (.int .i64 a0_8) ∧ w'.cell? ⟨gb512, 9, none⟩ = some (.int .i64 a0_9) ∧ w'.cell? ⟨gb512, 10, none⟩ = some (.int .i64 a0_10) ∧ w'.cell? ⟨gb512, 11, none⟩ = some (.int .i64 a0_11) ∧ w'.cell? ⟨gb513, 0, none⟩ = some (.int .i64 a1_0) ∧ w'.cell? ⟨gb513, 1, none⟩ = some (.int .i64 a1_1)) (ds := []) #[false, false, false, false, false, false, false, false, false, false, false, false] (by kernel_rfl) rfl rfl (c12t BK512.out ⟨(blk_cell BK513.out 0).trans rfl, (blk_cell BK513.out 1).trans rfl⟩) (fun hHeld => ?_); refine with_tabW clepsydralaw11_CarryWidens.tab11 clepsydralaw11_CarryWidens.bits11 (fun HT_ HW_ => ?_)
          generalize w65.drew = w67 at BK512 BK513 HB hHeld ⊢
          refine pure_ (i := 2) (N := some 34) (v := ?_) (a' := ?_) #[false, false, true, false, false, false, false, false, false, false, false, false] rfl rfl (any_of HT_.out (by kernel_rfl)) (fun _ _ _ h => h) (Or.inl ⟨by rfl, ?_⟩) ?_ ?_
          rotate_left
          ·intro w'
           go_simp
           with_reducible rfl
          rotate_left
          ·simp only [Act.put, List.setIfInBounds_toArray, List.set_cons_zero, List.set_cons_succ, i64_w, i32_w]
           rfl
          refine pure_ (i := 6) (N := some 38) (v := ?_) (a' := ?_) #[false, false, true, false, false, false, true, false, false, false, false, false] rfl rfl (any_of HT_.out (by kernel_rfl)) (fun _ _ _ h => h) (Or.inl ⟨by rfl, ?_⟩) ?_ ?_
          rotate_left
          ·intro w'
           go_simp
           with_reducible rfl
          rotate_left
          ·simp only [Act.put, List.setIfInBounds_toArray, List.set_cons_zero, List.set_cons_succ, i64_w, i32_w]
           rfl
          refine take_ (i := 0) (N := some 32) (v := ?_) (a' := ?_) #[true, false, true, false, false, false, true, false, false, false, false, false] rfl rfl (take_ofW HT_.out HW_.out (by kernel_rfl)) (fun _ _ _ h => h) (Or.inl ⟨by rfl, ?_⟩) hHeld ?_ ?_
          rotate_left
          ·rintro w' ⟨s0, s1, s2, s3, s4, s5, s6, s7, s8, s9, s10, s11, s12, s13⟩
           go_simp
           with_reducible rfl
          rotate_left
          ·simp only [Act.put, List.setIfInBounds_toArray, List.set_cons_zero, List.set_cons_succ, i64_w, i32_w]
           rfl
          refine take_ (i := 1) (N := some 33) (v := ?_) (a' := ?_) #[true, true, true, false, false, false, true, false, false, false, false, false] rfl rfl (take_ofW HT_.out HW_.out (by kernel_rfl)) (fun _ _ _ h => h) (Or.inl ⟨by rfl, ?_⟩) hHeld ?_ ?_
          rotate_left
          ·rintro w' ⟨s0, s1, s2, s3, s4, s5, s6, s7, s8, s9, s10, s11, s12, s13⟩
           go_simp
           with_reducible rfl
          rotate_left
          ·simp only [Act.put, List.setIfInBounds_toArray, List.set_cons_zero, List.set_cons_succ, i64_w, i32_w]
           rfl
          refine take_ (i := 4) (N := some 36) (v := ?_) (a' := ?_) #[true, true, true, false, true, false, true, false, false, false, false, false] rfl rfl (take_ofW HT_.out HW_.out (by kernel_rfl)) (fun _ _ _ h => h) (Or.inl ⟨by rfl, ?_⟩) hHeld ?_ ?_
          rotate_left
          ·rintro w' ⟨s0, s1, s2, s3, s4, s5, s6, s7, s8, s9, s10, s11, s12, s13⟩
           go_simp
           with_reducible rfl
          rotate_left
          ·simp only [Act.put, List.setIfInBounds_toArray, List.set_cons_zero, List.set_cons_succ, i64_w, i32_w]
           rfl
          refine take_ (i := 5) (N := some 37) (v := ?_) (a' := ?_) #[true, true, true, false, true, true, true, false, false, false, false, false] rfl rfl (take_ofW HT_.out HW_.out (by kernel_rfl)) (fun _ _ _ h => h) (Or.inl ⟨by rfl, ?_⟩) hHeld ?_ ?_
          rotate_left
          ·rintro w' ⟨s0, s1, s2, s3, s4, s5, s6, s7, s8, s9, s10, s11, s12, s13⟩
           go_simp
           with_reducible rfl
          rotate_left
          ·simp only [Act.put, List.setIfInBounds_toArray, List.set_cons_zero, List.set_cons_succ, i64_w, i32_w]
           rfl
          refine join_ (σ := Nat × Nat) 2 #[true, true, true, true, true, true, true, true, true, true, false, false] (fun s_ => [(35, .agg #[.int .i64 t516, .int .i64 t517]), (39, .agg #[.int .i64 t518, .int .i64 t519]), (9, .pointer (some ⟨s_.1, 0, none⟩)), (10, .pointer (some ⟨s_.2, 0, none⟩))]) (fun s_ w' => (w'.cell? ⟨gb512, 0, none⟩ = some (.int .i64 a0_0) ∧ w'.cell? ⟨gb512, 1, none⟩ = some (.int .i64 a0_1) ∧ w'.cell? ⟨gb512, 2, none⟩ = some (.int .i64 a0_2) ∧ w'.cell? ⟨gb512, 3, none⟩ = some (.int .i64 a0_3) ∧ w'.cell? ⟨gb512, 4, none⟩ = some (.int .i64 a0_4) ∧ w'.cell? ⟨gb512, 5, none⟩ = some (.int .i64 a0_5) ∧ w'.cell? ⟨gb512, 6, none⟩ = some (.int .i64 a0_6) ∧ w'.cell? ⟨gb512, 7, none⟩ = some (.int .i64 a0_7) ∧ w'.cell? ⟨gb512, 8, none⟩ = some (.int .i64 a0_8) ∧ w'.cell? ⟨gb512, 9, none⟩ = some (.int .i64 a0_9) ∧ w'.cell? ⟨gb512, 10, none⟩ = some (.int .i64 a0_10) ∧ w'.cell? ⟨gb512, 11, none⟩ = some (.int .i64 a0_11) ∧ w'.cell? ⟨gb513, 0, none⟩ = some (.int .i64 a1_0) ∧ w'.cell? ⟨gb513, 1, none⟩ = some (.int .i64 a1_1)) ∧ (w'.heap[gb512]? = some (.cells #[.int .i64 a0_0, .int .i64 a0_1, .int .i64 a0_2, .int .i64 a0_3, .int .i64 a0_4, .int .i64 a0_5, .int .i64 a0_6, .int .i64 a0_7, .int .i64 a0_8, .int .i64 a0_9, .int .i64 a0_10, .int .i64 a0_11] 23 (0, 0))) ∧ (w'.heap[gb513]? = some (.cells #[.int .i64 a1_0, .int .i64 a1_1] 25 (0, 0))) ∧ (w'.heap[s_.1]? = some (.cells #[.int .i64 0, .int .i64 0] 25 (0, 0))) ∧ (w'.heap[s_.2]? = some (.cells #[.int .i64 0, .int .i64 0] 25 (0, 0))) ∧ (w.heap.size ≤ s_.1) ∧ (w.heap.size ≤ s_.1) ∧ (gb512 ≠ s_.1) ∧ (s_.1 ≠ gb512) ∧ (gb513 ≠ s_.1) ∧ (s_.1 ≠ gb513) ∧ (s_.2 ≠ s_.1) ∧ (s_.1 ≠ s_.2) ∧ (w.heap.size ≤ s_.2) ∧ (w.heap.size ≤ s_.2) ∧ (gb512 ≠ s_.2) ∧ (s_.2 ≠ gb512) ∧ (gb513 ≠ s_.2) ∧ (s_.2 ≠ gb513) ∧ (Below w.heap.size w w')) ?_ ?_
          rotate_left
          ·intro hJ3_7_8_9
           refine join_ (σ := Nat) 3 #[true, true, true, true, true, true, true, true, true, false, false, false] (fun s_ => [(35, .agg #[.int .i64 t516, .int .i64 t517]), (39, .agg #[.int .i64 t518, .int .i64 t519]), (9, .pointer (some ⟨s_, 0, none⟩))]) (fun s_ w' => (w'.cell? ⟨gb512, 0, none⟩ = some (.int .i64 a0_0) ∧ w'.cell? ⟨gb512, 1, none⟩ = some (.int .i64 a0_1) ∧ w'.cell? ⟨gb512, 2, none⟩ = some (.int .i64 a0_2) ∧ w'.cell? ⟨gb512, 3, none⟩ = some (.int .i64 a0_3) ∧ w'.cell? ⟨gb512, 4, none⟩ = some (.int .i64 a0_4) ∧ w'.cell? ⟨gb512, 5, none⟩ = some (.int .i64 a0_5) ∧ w'.cell? ⟨gb512, 6, none⟩ = some (.int .i64 a0_6) ∧ w'.cell? ⟨gb512, 7, none⟩ = some (.int .i64 a0_7) ∧ w'.cell? ⟨gb512, 8, none⟩ = some (.int .i64 a0_8) ∧ w'.cell? ⟨gb512, 9, none⟩ = some (.int .i64 a0_9) ∧ w'.cell? ⟨gb512, 10, none⟩ = some (.int .i64 a0_10) ∧ w'.cell? ⟨gb512, 11, none⟩ = some (.int .i64 a0_11) ∧ w'.cell? ⟨gb513, 0, none⟩ = some (.int .i64 a1_0) ∧ w'.cell? ⟨gb513, 1, none⟩ = some (.int .i64 a1_1)) ∧ (w'.heap[gb512]? = some (.cells #[.int .i64 a0_0, .int .i64 a0_1, .int .i64 a0_2, .int .i64 a0_3, .int .i64 a0_4, .int .i64 a0_5, .int .i64 a0_6, .int .i64 a0_7, .int .i64 a0_8, .int .i64 a0_9, .int .i64 a0_10, .int .i64 a0_11] 23 (0, 0))) ∧ (w'.heap[gb513]? = some (.cells #[.int .i64 a1_0, .int .i64 a1_1] 25 (0, 0))) ∧ (w'.heap[s_]? = some (.cells #[.int .i64 0, .int .i64 0] 25 (0, 0))) ∧ (w.heap.size ≤ s_) ∧ (w.heap.size ≤ s_) ∧ (gb512 ≠ s_) ∧ (s_ ≠ gb512) ∧ (gb513 ≠ s_) ∧ (s_ ≠ gb513) ∧ (Below w.heap.size w w')) ?_ ?_
           rotate_left
           ·intro hJ3_7_8
            refine join_ (σ := Nat) 3 #[true, true, true, true, true, true, true, true, false, true, false, false] (fun s_ => [(35, .agg #[.int .i64 t516, .int .i64 t517]), (39, .agg #[.int .i64 t518, .int .i64 t519]), (10, .pointer (some ⟨s_, 0, none⟩))]) (fun s_ w' => (w'.cell? ⟨gb512, 0, none⟩ = some (.int .i64 a0_0) ∧ w'.cell? ⟨gb512, 1, none⟩ = some (.int .i64 a0_1) ∧ w'.cell? ⟨gb512, 2, none⟩ = some (.int .i64 a0_2) ∧ w'.cell? ⟨gb512, 3, none⟩ = some (.int .i64 a0_3) ∧ w'.cell? ⟨gb512, 4, none⟩ = some (.int .i64 a0_4) ∧ w'.cell? ⟨gb512, 5, none⟩ = some (.int .i64 a0_5) ∧ w'.cell? ⟨gb512, 6, none⟩ = some (.int .i64 a0_6) ∧ w'.cell? ⟨gb512, 7, none⟩ = some (.int .i64 a0_7) ∧ w'.cell? ⟨gb512, 8, none⟩ = some (.int .i64 a0_8) ∧ w'.cell? ⟨gb512, 9, none⟩ = some (.int .i64 a0_9) ∧ w'.cell? ⟨gb512, 10, none⟩ = some (.int .i64 a0_10) ∧ w'.cell? ⟨gb512, 11, none⟩ = some (.int .i64 a0_11) ∧ w'.cell? ⟨gb513, 0, none⟩ = some (.int .i64 a1_0) ∧ w'.cell? ⟨gb513, 1, none⟩ = some (.int .i64 a1_1)) ∧ (w'.heap[gb512]? = some (.cells #[.int .i64 a0_0, .int .i64 a0_1, .int .i64 a0_2, .int .i64 a0_3, .int .i64 a0_4, .int .i64 a0_5, .int .i64 a0_6, .int .i64 a0_7, .int .i64 a0_8, .int .i64 a0_9, .int .i64 a0_10, .int .i64 a0_11] 23 (0, 0))) ∧ (w'.heap[gb513]? = some (.cells #[.int .i64 a1_0, .int .i64 a1_1] 25 (0, 0))) ∧ (w'.heap[s_]? = some (.cells #[.int .i64 0, .int .i64 0] 25 (0, 0))) ∧ (w.heap.size ≤ s_) ∧ (w.heap.size ≤ s_) ∧ (gb512 ≠ s_) ∧ (s_ ≠ gb512) ∧ (gb513 ≠ s_) ∧ (s_ ≠ gb513) ∧ (Below w.heap.size w w')) ?_ ?_
            rotate_left
            ·intro hJ3_7_9
             refine join_ (σ := Nat × Nat) 3 #[true, true, true, true, true, true, true, false, true, true, false, false] (fun s_ => [(35, .agg #[.int .i64 t516, .int .i64 t517]), (9, .pointer (some ⟨s_.1, 0, none⟩)), (10, .pointer (some ⟨s_.2, 0, none⟩))]) (fun s_ w' => (w'.cell? ⟨gb512, 0, none⟩ = some (.int .i64 a0_0) ∧ w'.cell? ⟨gb512, 1, none⟩ = some (.int .i64 a0_1) ∧ w'.cell? ⟨gb512, 2, none⟩ = some (.int .i64 a0_2) ∧ w'.cell? ⟨gb512, 3, none⟩ = some (.int .i64 a0_3) ∧ w'.cell? ⟨gb512, 4, none⟩ = some (.int .i64 a0_4) ∧ w'.cell? ⟨gb512, 5, none⟩ = some (.int .i64 a0_5) ∧ w'.cell? ⟨gb512, 6, none⟩ = some (.int .i64 a0_6) ∧ w'.cell? ⟨gb512, 7, none⟩ = some (.int .i64 a0_7) ∧ w'.cell? ⟨gb512, 8, none⟩ = some (.int .i64 a0_8) ∧ w'.cell? ⟨gb512, 9, none⟩ = some (.int .i64 a0_9) ∧ w'.cell? ⟨gb512, 10, none⟩ = some (.int .i64 a0_10) ∧ w'.cell? ⟨gb512, 11, none⟩ = some (.int .i64 a0_11) ∧ w'.cell? ⟨gb513, 0, none⟩ = some (.int .i64 a1_0) ∧ w'.cell? ⟨gb513, 1, none⟩ = some (.int .i64 a1_1)) ∧ (w'.heap[gb512]? = some (.cells #[.int .i64 a0_0, .int .i64 a0_1, .int .i64 a0_2, .int .i64 a0_3, .int .i64 a0_4, .int .i64 a0_5, .int .i64 a0_6, .int .i64 a0_7, .int .i64 a0_8, .int .i64 a0_9, .int .i64 a0_10, .int .i64 a0_11] 23 (0, 0))) ∧ (w'.heap[gb513]? = some (.cells #[.int .i64 a1_0, .int .i64 a1_1] 25 (0, 0))) ∧ (w'.heap[s_.1]? = some (.cells #[.int .i64 0, .int .i64 0] 25 (0, 0))) ∧ (w'.heap[s_.2]? = some (.cells #[.int .i64 0, .int .i64 0] 25 (0, 0))) ∧ (w.heap.size ≤ s_.1) ∧ (w.heap.size ≤ s_.1) ∧ (gb512 ≠ s_.1) ∧ (s_.1 ≠ gb512) ∧ (gb513 ≠ s_.1) ∧ (s_.1 ≠ gb513) ∧ (s_.2 ≠ s_.1) ∧ (s_.1 ≠ s_.2) ∧ (w.heap.size ≤ s_.2) ∧ (w.heap.size ≤ s_.2) ∧ (gb512 ≠ s_.2) ∧ (s_.2 ≠ gb512) ∧ (gb513 ≠ s_.2) ∧ (s_.2 ≠ gb513) ∧ (Below w.heap.size w w')) ?_ ?_
             rotate_left
             ·intro hJ3_8_9
              refine join_ (σ := Unit) 4 #[true, true, true, true, true, true, true, true, false, false, false, false] (fun s_ => [(35, .agg #[.int .i64 t516, .int .i64 t517]), (39, .agg #[.int .i64 t518, .int .i64 t519])]) (fun s_ w' => (w'.cell? ⟨gb512, 0, none⟩ = some (.int .i64 a0_0) ∧ w'.cell? ⟨gb512, 1, none⟩ = some (.int .i64 a0_1) ∧ w'.cell? ⟨gb512, 2, none⟩ = some (.int .i64 a0_2) ∧ w'.cell? ⟨gb512, 3, none⟩ = some (.int .i64 a0_3) ∧ w'.cell? ⟨gb512, 4, none⟩ = some (.int .i64 a0_4) ∧ w'.cell? ⟨gb512, 5, none⟩ = some (.int .i64 a0_5) ∧ w'.cell? ⟨gb512, 6, none⟩ = some (.int .i64 a0_6) ∧ w'.cell? ⟨gb512, 7, none⟩ = some (.int .i64 a0_7) ∧ w'.cell? ⟨gb512, 8, none⟩ = some (.int .i64 a0_8) ∧ w'.cell? ⟨gb512, 9, none⟩ = some (.int .i64 a0_9) ∧ w'.cell? ⟨gb512, 10, none⟩ = some (.int .i64 a0_10) ∧ w'.cell? ⟨gb512, 11, none⟩ = some (.int .i64 a0_11) ∧ w'.cell? ⟨gb513, 0, none⟩ = some (.int .i64 a1_0) ∧ w'.cell? ⟨gb513, 1, none⟩ = some (.int .i64 a1_1)) ∧ (w'.heap[gb512]? = some (.cells #[.int .i64 a0_0, .int .i64 a0_1, .int .i64 a0_2, .int .i64 a0_3, .int .i64 a0_4, .int .i64 a0_5, .int .i64 a0_6, .int .i64 a0_7, .int .i64 a0_8, .int .i64 a0_9, .int .i64 a0_10, .int .i64 a0_11] 23 (0, 0))) ∧ (w'.heap[gb513]? = some (.cells #[.int .i64 a1_0, .int .i64 a1_1] 25 (0, 0))) ∧ (Below w.heap.size w w')) ?_ ?_
              rotate_left
              ·intro hJ3_7
               refine join_ (σ := Nat) 4 #[true, true, true, true, true, true, true, false, true, false, false, false] (fun s_ => [(35, .agg #[.int .i64 t516, .int .i64 t517]), (9, .pointer (some ⟨s_, 0, none⟩))]) (fun s_ w' => (w'.cell? ⟨gb512, 0, none⟩ = some (.int .i64 a0_0) ∧ w'.cell? ⟨gb512, 1, none⟩ = some (.int .i64 a0_1) ∧ w'.cell? ⟨gb512, 2, none⟩ = some (.int .i64 a0_2) ∧ w'.cell? ⟨gb512, 3, none⟩ = some (.int .i64 a0_3) ∧ w'.cell? ⟨gb512, 4, none⟩ = some (.int .i64 a0_4) ∧ w'.cell? ⟨gb512, 5, none⟩ = some (.int .i64 a0_5) ∧ w'.cell? ⟨gb512, 6, none⟩ = some (.int .i64 a0_6) ∧ w'.cell? ⟨gb512, 7, none⟩ = some (.int .i64 a0_7) ∧ w'.cell? ⟨gb512, 8, none⟩ = some (.int .i64 a0_8) ∧ w'.cell? ⟨gb512, 9, none⟩ = some (.int .i64 a0_9) ∧ w'.cell? ⟨gb512, 10, none⟩ = some (.int .i64 a0_10) ∧ w'.cell? ⟨gb512, 11, none⟩ = some (.int .i64 a0_11) ∧ w'.cell? ⟨gb513, 0, none⟩ = some (.int .i64 a1_0) ∧ w'.cell? ⟨gb513, 1, none⟩ = some (.int .i64 a1_1)) ∧ (w'.heap[gb512]? = some (.cells #[.int .i64 a0_0, .int .i64 a0_1, .int .i64 a0_2, .int .i64 a0_3, .int .i64 a0_4, .int .i64 a0_5, .int .i64 a0_6, .int .i64 a0_7, .int .i64 a0_8, .int .i64 a0_9, .int .i64 a0_10, .int .i64 a0_11] 23 (0, 0))) ∧ (w'.heap[gb513]? = some (.cells #[.int .i64 a1_0, .int .i64 a1_1] 25 (0, 0))) ∧ (w'.heap[s_]? = some (.cells #[.int .i64 0, .int .i64 0] 25 (0, 0))) ∧ (w.heap.size ≤ s_) ∧ (w.heap.size ≤ s_) ∧ (gb512 ≠ s_) ∧ (s_ ≠ gb512) ∧ (gb513 ≠ s_) ∧ (s_ ≠ gb513) ∧ (Below w.heap.size w w')) ?_ ?_
               rotate_left
               ·intro hJ3_8
                refine join_ (σ := Nat) 4 #[true, true, true, true, true, true, true, false, false, true, false, false] (fun s_ => [(35, .agg #[.int .i64 t516, .int .i64 t517]), (10, .pointer (some ⟨s_, 0, none⟩))]) (fun s_ w' => (w'.cell? ⟨gb512, 0, none⟩ = some (.int .i64 a0_0) ∧ w'.cell? ⟨gb512, 1, none⟩ = some (.int .i64 a0_1) ∧ w'.cell? ⟨gb512, 2, none⟩ = some (.int .i64 a0_2) ∧ w'.cell? ⟨gb512, 3, none⟩ = some (.int .i64 a0_3) ∧ w'.cell? ⟨gb512, 4, none⟩ = some (.int .i64 a0_4) ∧ w'.cell? ⟨gb512, 5, none⟩ = some (.int .i64 a0_5) ∧ w'.cell? ⟨gb512, 6, none⟩ = some (.int .i64 a0_6) ∧ w'.cell? ⟨gb512, 7, none⟩ = some (.int .i64 a0_7) ∧ w'.cell? ⟨gb512, 8, none⟩ = some (.int .i64 a0_8) ∧ w'.cell? ⟨gb512, 9, none⟩ = some (.int .i64 a0_9) ∧ w'.cell? ⟨gb512, 10, none⟩ = some (.int .i64 a0_10) ∧ w'.cell? ⟨gb512, 11, none⟩ = some (.int .i64 a0_11) ∧ w'.cell? ⟨gb513, 0, none⟩ = some (.int .i64 a1_0) ∧ w'.cell? ⟨gb513, 1, none⟩ = some (.int .i64 a1_1)) ∧ (w'.heap[gb512]? = some (.cells #[.int .i64 a0_0, .int .i64 a0_1, .int .i64 a0_2, .int .i64 a0_3, .int .i64 a0_4, .int .i64 a0_5, .int .i64 a0_6, .int .i64 a0_7, .int .i64 a0_8, .int .i64 a0_9, .int .i64 a0_10, .int .i64 a0_11] 23 (0, 0))) ∧ (w'.heap[gb513]? = some (.cells #[.int .i64 a1_0, .int .i64 a1_1] 25 (0, 0))) ∧ (w'.heap[s_]? = some (.cells #[.int .i64 0, .int .i64 0] 25 (0, 0))) ∧ (w.heap.size ≤ s_) ∧ (w.heap.size ≤ s_) ∧ (gb512 ≠ s_) ∧ (s_ ≠ gb512) ∧ (gb513 ≠ s_) ∧ (s_ ≠ gb513) ∧ (Below w.heap.size w w')) ?_ ?_
                rotate_left
                ·intro hJ3_9
                 refine join_ (σ := Nat × Nat) 4 #[true, true, true, false, true, true, true, false, true, true, false, false] (fun s_ => [(9, .pointer (some ⟨s_.1, 0, none⟩)), (10, .pointer (some ⟨s_.2, 0, none⟩))]) (fun s_ w' => (w'.cell? ⟨gb512, 0, none⟩ = some (.int .i64 a0_0) ∧ w'.cell? ⟨gb512, 1, none⟩ = some (.int .i64 a0_1) ∧ w'.cell? ⟨gb512, 2, none⟩ = some (.int .i64 a0_2) ∧ w'.cell? ⟨gb512, 3, none⟩ = some (.int .i64 a0_3) ∧ w'.cell? ⟨gb512, 4, none⟩ = some (.int .i64 a0_4) ∧ w'.cell? ⟨gb512, 5, none⟩ = some (.int .i64 a0_5) ∧ w'.cell? ⟨gb512, 6, none⟩ = some (.int .i64 a0_6) ∧ w'.cell? ⟨gb512, 7, none⟩ = some (.int .i64 a0_7) ∧ w'.cell? ⟨gb512, 8, none⟩ = some (.int .i64 a0_8) ∧ w'.cell? ⟨gb512, 9, none⟩ = some (.int .i64 a0_9) ∧ w'.cell? ⟨gb512, 10, none⟩ = some (.int .i64 a0_10) ∧ w'.cell? ⟨gb512, 11, none⟩ = some (.int .i64 a0_11) ∧ w'.cell? ⟨gb513, 0, none⟩ = some (.int .i64 a1_0) ∧ w'.cell? ⟨gb513, 1, none⟩ = some (.int .i64 a1_1)) ∧ (w'.heap[gb512]? = some (.cells #[.int .i64 a0_0, .int .i64 a0_1, .int .i64 a0_2, .int .i64 a0_3, .int .i64 a0_4, .int .i64 a0_5, .int .i64 a0_6, .int .i64 a0_7, .int .i64 a0_8, .int .i64 a0_9, .int .i64 a0_10, .int .i64 a0_11] 23 (0, 0))) ∧ (w'.heap[gb513]? = some (.cells #[.int .i64 a1_0, .int .i64 a1_1] 25 (0, 0))) ∧ (w'.heap[s_.1]? = some (.cells #[.int .i64 0, .int .i64 0] 25 (0, 0))) ∧ (w'.heap[s_.2]? = some (.cells #[.int .i64 0, .int .i64 0] 25 (0, 0))) ∧ (w.heap.size ≤ s_.1) ∧ (w.heap.size ≤ s_.1) ∧ (gb512 ≠ s_.1) ∧ (s_.1 ≠ gb512) ∧ (gb513 ≠ s_.1) ∧ (s_.1 ≠ gb513) ∧ (s_.2 ≠ s_.1) ∧ (s_.1 ≠ s_.2) ∧ (w.heap.size ≤ s_.2) ∧ (w.heap.size ≤ s_.2) ∧ (gb512 ≠ s_.2) ∧ (s_.2 ≠ gb512) ∧ (gb513 ≠ s_.2) ∧ (s_.2 ≠ gb513) ∧ (Below w.heap.size w w')) ?_ ?_
                 rotate_left
                 ·intro hJ8_9
                  refine join_ (σ := Unit) 5 #[true, true, true, true, true, true, true, false, false, false, false, false] (fun s_ => [(35, .agg #[.int .i64 t516, .int .i64 t517])]) (fun s_ w' => (w'.cell? ⟨gb512, 0, none⟩ = some (.int .i64 a0_0) ∧ w'.cell? ⟨gb512, 1, none⟩ = some (.int .i64 a0_1) ∧ w'.cell? ⟨gb512, 2, none⟩ = some (.int .i64 a0_2) ∧ w'.cell? ⟨gb512, 3, none⟩ = some (.int .i64 a0_3) ∧ w'.cell? ⟨gb512, 4, none⟩ = some (.int .i64 a0_4) ∧ w'.cell? ⟨gb512, 5, none⟩ = some (.int .i64 a0_5) ∧ w'.cell? ⟨gb512, 6, none⟩ = some (.int .i64 a0_6) ∧ w'.cell? ⟨gb512, 7, none⟩ = some (.int .i64 a0_7) ∧ w'.cell? ⟨gb512, 8, none⟩ = some (.int .i64 a0_8) ∧ w'.cell? ⟨gb512, 9, none⟩ = some (.int .i64 a0_9) ∧ w'.cell? ⟨gb512, 10, none⟩ = some (.int .i64 a0_10) ∧ w'.cell? ⟨gb512, 11, none⟩ = some (.int .i64 a0_11) ∧ w'.cell? ⟨gb513, 0, none⟩ = some (.int .i64 a1_0) ∧ w'.cell? ⟨gb513, 1, none⟩ = some (.int .i64 a1_1)) ∧ (w'.heap[gb512]? = some (.cells #[.int .i64 a0_0, .int .i64 a0_1, .int .i64 a0_2, .int .i64 a0_3, .int .i64 a0_4, .int .i64 a0_5, .int .i64 a0_6, .int .i64 a0_7, .int .i64 a0_8, .int .i64 a0_9, .int .i64 a0_10, .int .i64 a0_11] 23 (0, 0))) ∧ (w'.heap[gb513]? = some (.cells #[.int .i64 a1_0, .int .i64 a1_1] 25 (0, 0))) ∧ (Below w.heap.size w w')) ?_ ?_
                  rotate_left
                  ·intro hJ3
                   refine join_ (σ := Nat) 5 #[true, true, true, false, true, true, true, false, true, false, false, false] (fun s_ => [(9, .pointer (some ⟨s_, 0, none⟩))]) (fun s_ w' => (w'.cell? ⟨gb512, 0, none⟩ = some (.int .i64 a0_0) ∧ w'.cell? ⟨gb512, 1, none⟩ = some (.int .i64 a0_1) ∧ w'.cell? ⟨gb512, 2, none⟩ = some (.int .i64 a0_2) ∧ w'.cell? ⟨gb512, 3, none⟩ = some (.int .i64 a0_3) ∧ w'.cell? ⟨gb512, 4, none⟩ = some (.int .i64 a0_4) ∧ w'.cell? ⟨gb512, 5, none⟩ = some (.int .i64 a0_5) ∧ w'.cell? ⟨gb512, 6, none⟩ = some (.int .i64 a0_6) ∧ w'.cell? ⟨gb512, 7, none⟩ = some (.int .i64 a0_7) ∧ w'.cell? ⟨gb512, 8, none⟩ = some (.int .i64 a0_8) ∧ w'.cell? ⟨gb512, 9, none⟩ = some (.int .i64 a0_9) ∧ w'.cell? ⟨gb512, 10, none⟩ = some (.int .i64 a0_10) ∧ w'.cell? ⟨gb512, 11, none⟩ = some (.int .i64 a0_11) ∧ w'.cell? ⟨gb513, 0, none⟩ = some (.int .i64 a1_0) ∧ w'.cell? ⟨gb513, 1, none⟩ = some (.int .i64 a1_1)) ∧ (w'.heap[gb512]? = some (.cells #[.int .i64 a0_0, .int .i64 a0_1, .int .i64 a0_2, .int .i64 a0_3, .int .i64 a0_4, .int .i64 a0_5, .int .i64 a0_6, .int .i64 a0_7, .int .i64 a0_8, .int .i64 a0_9, .int .i64 a0_10, .int .i64 a0_11] 23 (0, 0))) ∧ (w'.heap[gb513]? = some (.cells #[.int .i64 a1_0, .int .i64 a1_1] 25 (0, 0))) ∧ (w'.heap[s_]? = some (.cells #[.int .i64 0, .int .i64 0] 25 (0, 0))) ∧ (w.heap.size ≤ s_) ∧ (w.heap.size ≤ s_) ∧ (gb512 ≠ s_) ∧ (s_ ≠ gb512) ∧ (gb513 ≠ s_) ∧ (s_ ≠ gb513) ∧ (Below w.heap.size w w')) ?_ ?_
                   rotate_left
                   ·intro hJ8
                    refine join_ (σ := Nat) 5 #[true, true, true, false, true, true, true, false, false, true, false, false] (fun s_ => [(10, .pointer (some ⟨s_, 0, none⟩))]) (fun s_ w' => (w'.cell? ⟨gb512, 0, none⟩ = some (.int .i64 a0_0) ∧ w'.cell? ⟨gb512, 1, none⟩ = some (.int .i64 a0_1) ∧ w'.cell? ⟨gb512, 2, none⟩ = some (.int .i64 a0_2) ∧ w'.cell? ⟨gb512, 3, none⟩ = some (.int .i64 a0_3) ∧ w'.cell? ⟨gb512, 4, none⟩ = some (.int .i64 a0_4) ∧ w'.cell? ⟨gb512, 5, none⟩ = some (.int .i64 a0_5) ∧ w'.cell? ⟨gb512, 6, none⟩ = some (.int .i64 a0_6) ∧ w'.cell? ⟨gb512, 7, none⟩ = some (.int .i64 a0_7) ∧ w'.cell? ⟨gb512, 8, none⟩ = some (.int .i64 a0_8) ∧ w'.cell? ⟨gb512, 9, none⟩ = some (.int .i64 a0_9) ∧ w'.cell? ⟨gb512, 10, none⟩ = some (.int .i64 a0_10) ∧ w'.cell? ⟨gb512, 11, none⟩ = some (.int .i64 a0_11) ∧ w'.cell? ⟨gb513, 0, none⟩ = some (.int .i64 a1_0) ∧ w'.cell? ⟨gb513, 1, none⟩ = some (.int .i64 a1_1)) ∧ (w'.heap[gb512]? = some (.cells #[.int .i64 a0_0, .int .i64 a0_1, .int .i64 a0_2, .int .i64 a0_3, .int .i64 a0_4, .int .i64 a0_5, .int .i64 a0_6, .int .i64 a0_7, .int .i64 a0_8, .int .i64 a0_9, .int .i64 a0_10, .int .i64 a0_11] 23 (0, 0))) ∧ (w'.heap[gb513]? = some (.cells #[.int .i64 a1_0, .int .i64 a1_1] 25 (0, 0))) ∧ (w'.heap[s_]? = some (.cells #[.int .i64 0, .int .i64 0] 25 (0, 0))) ∧ (w.heap.size ≤ s_) ∧ (w.heap.size ≤ s_) ∧ (gb512 ≠ s_) ∧ (s_ ≠ gb512) ∧ (gb513 ≠ s_) ∧ (s_ ≠ gb513) ∧ (Below w.heap.size w w')) ?_ ?_
                    rotate_left
                    ·intro hJ9
                     refine three_ (i := 3) (j := 8) (k := 9) (Ni := some 35) (Nj := some 9) (Nk := some 10) #[true, true, true, true, true, true, true, false, false, false, false, false] #[true, true, true, false, true, true, true, false, true, false, false, false] #[true, true, true, false, true, true, true, false, false, true, false, false] rfl rfl rfl rfl rfl rfl (three_of HT_.out (by kernel_rfl)) (by decide) (by decide) (by decide) (fun K hK => ?_) (fun K hK => ?_) (fun K hK => ?_)
                     ·skip
                      refine goes_ Try.func16 (by kernel_rfl) rfl #[.agg #[.int .i64 a0_0, .int .i64 a0_1, .int .i64 a0_2, .int .i64 a0_3, .int .i64 a0_4, .int .i64 a0_5, .int .i64 a0_6, .int .i64 a0_7, .int .i64 a0_8, .int .i64 a0_9, .int .i64 a0_10, .int .i64 a0_11], .agg #[.int .i64 a1_0, .int .i64 a1_1], .int .i64 a2] (by rfl) rfl rfl (by (try simp only [List.map_toArray, List.map_cons, List.map_nil]); first | done | rfl | (simp only [List.length_drop, List.length_take]; rfl)) ?_
                      with_reducible refine (carry_Hold.calls k a0_0 a0_1 a0_2 a0_3 a0_4 a0_5 a0_6 a0_7 a0_8 a0_9 a0_10 a0_11 a1_0 a1_1 a2 t516 t517 _ A56.out).mono ?_
                      rintro e w68 ⟨rfl, hb⟩
                      refine ⟨_, rfl, ?_⟩
                      have n0_ := Aside0.mk (blk_below (by with_reducible repeat first | exact BK512.out | apply bN) hb)
                      have n1_ := Aside0.mk (blk_below (by with_reducible repeat first | exact BK513.out | apply bN) hb)
                      have n2_ := Aside0.mk (below_step (by with_reducible repeat first | exact HB.out | apply pw_below_drewN) hb)
                      clear BK512 BK513 HB
                      have BK512 := n0_
                      have BK513 := n1_
                      have HB := n2_
                      clear n0_ n1_ n2_
                      (try clear hb)
                      (try clear hb2)
                      (try clear hk)
                      (try clear hi)
                      refine hK.out _ _ (c12t BK512.out ⟨(blk_cell BK513.out 0).trans rfl, (blk_cell BK513.out 1).trans rfl⟩) (fun hHeld => ?_)
                      clear hK K
                      refine norm_ (a' := ?_) ?_ ?_
                      rotate_left
                      ·show Act.put _ (some 35) _ = _
                       simp only [Act.put, List.setIfInBounds_toArray, List.set_cons_zero, List.set_cons_succ, i64_w, i32_w]
                       rfl
                      exact norm_ (by simp only [putAll, Act.put, List.setIfInBounds_toArray, List.set_cons_zero, List.set_cons_succ] <;> rfl) (hJ3 () _ ⟨hHeld, (by with_reducible repeat first | exact BK512.out | apply bN), (by with_reducible repeat first | exact BK513.out | apply bN), (by repeat (first | (with_reducible first | exact HB.out | apply below_alloc | apply pw_below_drewN | apply below_drew1 | refine below_set ?_ GE512.out | refine below_set ?_ GE513.out) | exact HB.out))⟩)
                     ·skip
                      refine box_step ?hg (N := 9) ?hd (cs := #[.int .i64 0, .int .i64 0]) (t := 25) ?hr ?_; (case hd => rfl); (case hg => rfl); (case hr => first | (go_simp; done) | (go_simp; rfl))
                      intro gb520 hg w68 hbox hb
                      have n0_ := Aside0.mk (blk_below (by with_reducible repeat first | exact BK512.out | apply bN) hb)
                      have n1_ := Aside0.mk (blk_below (by with_reducible repeat first | exact BK513.out | apply bN) hb)
                      have n2_ := Aside0.mk (below_step (by with_reducible repeat first | exact HB.out | apply pw_below_drewN) hb)
                      have n3_ := Aside0.mk (hbox)
                      have n4_ := Aside0.mk ((by rw [hg]; exact (below_size (by with_reducible repeat first | exact HB.out | apply pw_below_drewN)) : w.heap.size ≤ gb520))
                      have n5_ := Aside0.mk ((by rw [hg]; exact (below_size (by with_reducible repeat first | exact HB.out | apply pw_below_drewN)) : w.heap.size ≤ gb520))
                      have n6_ := Aside0.mk ((by rw [hg]; exact Nat.ne_of_lt (blk_lt (by with_reducible repeat first | exact BK512.out | apply bN)) : gb512 ≠ gb520))
                      have n7_ := Aside0.mk ((by rw [hg]; exact Nat.ne_of_gt (blk_lt (by with_reducible repeat first | exact BK512.out | apply bN)) : gb520 ≠ gb512))
                      have n8_ := Aside0.mk ((by rw [hg]; exact Nat.ne_of_lt (blk_lt (by with_reducible repeat first | exact BK513.out | apply bN)) : gb513 ≠ gb520))
                      have n9_ := Aside0.mk ((by rw [hg]; exact Nat.ne_of_gt (blk_lt (by with_reducible repeat first | exact BK513.out | apply bN)) : gb520 ≠ gb513))
                      clear BK512 BK513 HB
                      have BK512 := n0_
                      have BK513 := n1_
                      have HB := n2_
                      have BK520 := n3_
                      have GW520 := n4_
                      have GE520 := n5_
                      have NB512_520 := n6_
                      have NB520_512 := n7_
                      have NB513_520 := n8_
                      have NB520_513 := n9_
                      clear n0_ n1_ n2_ n3_ n4_ n5_ n6_ n7_ n8_ n9_ hb hbox hg
                      refine hK.out _ _ (c12t BK512.out ⟨(blk_cell BK513.out 0).trans rfl, (blk_cell BK513.out 1).trans rfl⟩) (fun hHeld => ?_)
                      clear hK K
                      refine norm_ (a' := ?_) ?_ ?_
                      rotate_left
                      ·show Act.put _ (some 9) _ = _
                       simp only [Act.put, List.setIfInBounds_toArray, List.set_cons_zero, List.set_cons_succ, i64_w, i32_w]
                       rfl
                      exact norm_ (by simp only [putAll, Act.put, List.setIfInBounds_toArray, List.set_cons_zero, List.set_cons_succ] <;> rfl) (hJ8 (gb520) _ ⟨hHeld, (by with_reducible repeat first | exact BK512.out | apply bN), (by with_reducible repeat first | exact BK513.out | apply bN), (by with_reducible repeat first | exact BK520.out | apply bN), GW520.out, GE520.out, NB512_520.out, NB520_512.out, NB513_520.out, NB520_513.out, (by repeat (first | (with_reducible first | exact HB.out | apply below_alloc | apply pw_below_drewN | apply below_drew1 | refine below_set ?_ GE512.out | refine below_set ?_ GE513.out | refine below_set ?_ GE520.out) | exact HB.out))⟩)
                     ·skip
                      refine box_step ?hg (N := 10) ?hd (cs := #[.int .i64 0, .int .i64 0]) (t := 25) ?hr ?_; (case hd => rfl); (case hg => rfl); (case hr => first | (go_simp; done) | (go_simp; rfl))
                      intro gb521 hg w68 hbox hb
                      have n0_ := Aside0.mk (blk_below (by with_reducible repeat first | exact BK512.out | apply bN) hb)
                      have n1_ := Aside0.mk (blk_below (by with_reducible repeat first | exact BK513.out | apply bN) hb)
                      have n2_ := Aside0.mk (below_step (by with_reducible repeat first | exact HB.out | apply pw_below_drewN) hb)
                      have n3_ := Aside0.mk (hbox)
                      have n4_ := Aside0.mk ((by rw [hg]; exact (below_size (by with_reducible repeat first | exact HB.out | apply pw_below_drewN)) : w.heap.size ≤ gb521))
                      have n5_ := Aside0.mk ((by rw [hg]; exact (below_size (by with_reducible repeat first | exact HB.out | apply pw_below_drewN)) : w.heap.size ≤ gb521))
                      have n6_ := Aside0.mk ((by rw [hg]; exact Nat.ne_of_lt (blk_lt (by with_reducible repeat first | exact BK512.out | apply bN)) : gb512 ≠ gb521))
                      have n7_ := Aside0.mk ((by rw [hg]; exact Nat.ne_of_gt (blk_lt (by with_reducible repeat first | exact BK512.out | apply bN)) : gb521 ≠ gb512))
                      have n8_ := Aside0.mk ((by rw [hg]; exact Nat.ne_of_lt (blk_lt (by with_reducible repeat first | exact BK513.out | apply bN)) : gb513 ≠ gb521))
                      have n9_ := Aside0.mk ((by rw [hg]; exact Nat.ne_of_gt (blk_lt (by with_reducible repeat first | exact BK513.out | apply bN)) : gb521 ≠ gb513))
                      clear BK512 BK513 HB
                      have BK512 := n0_
                      have BK513 := n1_
                      have HB := n2_
                      have BK521 := n3_
                      have GW521 := n4_
                      have GE521 := n5_
                      have NB512_521 := n6_
                      have NB521_512 := n7_
                      have NB513_521 := n8_
                      have NB521_513 := n9_
                      clear n0_ n1_ n2_ n3_ n4_ n5_ n6_ n7_ n8_ n9_ hb hbox hg
                      refine hK.out _ _ (c12t BK512.out ⟨(blk_cell BK513.out 0).trans rfl, (blk_cell BK513.out 1).trans rfl⟩) (fun hHeld => ?_)
                      clear hK K
                      refine norm_ (a' := ?_) ?_ ?_
                      rotate_left
                      ·show Act.put _ (some 10) _ = _
                       simp only [Act.put, List.setIfInBounds_toArray, List.set_cons_zero, List.set_cons_succ, i64_w, i32_w]
                       rfl
                      exact norm_ (by simp only [putAll, Act.put, List.setIfInBounds_toArray, List.set_cons_zero, List.set_cons_succ] <;> rfl) (hJ9 (gb521) _ ⟨hHeld, (by with_reducible repeat first | exact BK512.out | apply bN), (by with_reducible repeat first | exact BK513.out | apply bN), (by with_reducible repeat first | exact BK521.out | apply bN), GW521.out, GE521.out, NB512_521.out, NB521_512.out, NB513_521.out, NB521_513.out, (by repeat (first | (with_reducible first | exact HB.out | apply below_alloc | apply pw_below_drewN | apply below_drew1 | refine below_set ?_ GE512.out | refine below_set ?_ GE513.out | refine below_set ?_ GE521.out) | exact HB.out))⟩)
                    ·skip
                     rintro gb521 w69 ⟨hS_, h0_, h1_, h2_, h3_, h4_, h5_, h6_, h7_, h8_, h9_⟩
                     have n0_ : Aside0 (w69.heap[gb512]? = some (.cells #[.int .i64 a0_0, .int .i64 a0_1, .int .i64 a0_2, .int .i64 a0_3, .int .i64 a0_4, .int .i64 a0_5, .int .i64 a0_6, .int .i64 a0_7, .int .i64 a0_8, .int .i64 a0_9, .int .i64 a0_10, .int .i64 a0_11] 23 (0, 0))) := ⟨h0_⟩
                     have n1_ : Aside0 (w69.heap[gb513]? = some (.cells #[.int .i64 a1_0, .int .i64 a1_1] 25 (0, 0))) := ⟨h1_⟩
                     have n2_ : Aside0 (w69.heap[gb521]? = some (.cells #[.int .i64 0, .int .i64 0] 25 (0, 0))) := ⟨h2_⟩
                     have n3_ : Aside0 (w.heap.size ≤ gb521) := ⟨h3_⟩
                     have n4_ : Aside0 (w.heap.size ≤ gb521) := ⟨h4_⟩
                     have n5_ : Aside0 (gb512 ≠ gb521) := ⟨h5_⟩
                     have n6_ : Aside0 (gb521 ≠ gb512) := ⟨h6_⟩
                     have n7_ : Aside0 (gb513 ≠ gb521) := ⟨h7_⟩
                     have n8_ : Aside0 (gb521 ≠ gb513) := ⟨h8_⟩
                     have n9_ : Aside0 (Below w.heap.size w w69) := ⟨h9_⟩
                     clear BK512 BK513 HB h0_ h1_ h2_ h3_ h4_ h5_ h6_ h7_ h8_ h9_
                     have BK512 := n0_
                     have BK513 := n1_
                     have BK521 := n2_
                     have GW521 := n3_
                     have GE521 := n4_
                     have NB512_521 := n5_
                     have NB521_512 := n6_
                     have NB513_521 := n7_
                     have NB521_513 := n8_
                     have HB := n9_
                     clear n0_ n1_ n2_ n3_ n4_ n5_ n6_ n7_ n8_ n9_
                     have hHeld := hS_
                     try dsimp only at hHeld
                     refine norm_ (a' := ?_) ?_ ?_
                     rotate_left
                     ·simp only [putAll, Act.put, List.setIfInBounds_toArray, List.set_cons_zero, List.set_cons_succ]
                      rfl
                     refine two_ (i := 3) (j := 8) (Ni := some 35) (Nj := some 9) #[true, true, true, true, true, true, true, false, false, true, false, false] #[true, true, true, false, true, true, true, false, true, true, false, false] rfl rfl rfl rfl (two_of HT_.out (by kernel_rfl)) (by decide) (by decide) (fun K hK => ?_) (fun K hK => ?_)
                     ·skip
                      refine goes_ Try.func16 (by kernel_rfl) rfl #[.agg #[.int .i64 a0_0, .int .i64 a0_1, .int .i64 a0_2, .int .i64 a0_3, .int .i64 a0_4, .int .i64 a0_5, .int .i64 a0_6, .int .i64 a0_7, .int .i64 a0_8, .int .i64 a0_9, .int .i64 a0_10, .int .i64 a0_11], .agg #[.int .i64 a1_0, .int .i64 a1_1], .int .i64 a2] (by rfl) rfl rfl (by (try simp only [List.map_toArray, List.map_cons, List.map_nil]); first | done | rfl | (simp only [List.length_drop, List.length_take]; rfl)) ?_
                      with_reducible refine (carry_Hold.calls k a0_0 a0_1 a0_2 a0_3 a0_4 a0_5 a0_6 a0_7 a0_8 a0_9 a0_10 a0_11 a1_0 a1_1 a2 t516 t517 _ A56.out).mono ?_
                      rintro e w70 ⟨rfl, hb⟩
                      refine ⟨_, rfl, ?_⟩
                      have n0_ := Aside0.mk (blk_below (by with_reducible repeat first | exact BK512.out | apply bN) hb)
                      have n1_ := Aside0.mk (blk_below (by with_reducible repeat first | exact BK513.out | apply bN) hb)
                      have n2_ := Aside0.mk (blk_below (by with_reducible repeat first | exact BK521.out | apply bN) hb)
                      have n3_ := Aside0.mk (below_step (by with_reducible repeat first | exact HB.out | apply pw_below_drewN) hb)
                      clear BK512 BK513 BK521 HB
                      have BK512 := n0_
                      have BK513 := n1_
                      have BK521 := n2_
                      have HB := n3_
                      clear n0_ n1_ n2_ n3_
                      (try clear hb)
                      (try clear hb2)
                      (try clear hk)
                      (try clear hi)
                      refine hK.out _ _ (c12t BK512.out ⟨(blk_cell BK513.out 0).trans rfl, (blk_cell BK513.out 1).trans rfl⟩) (fun hHeld => ?_)
                      clear hK K
                      refine norm_ (a' := ?_) ?_ ?_
                      rotate_left
                      ·show Act.put _ (some 35) _ = _
                       simp only [Act.put, List.setIfInBounds_toArray, List.set_cons_zero, List.set_cons_succ, i64_w, i32_w]
                       rfl
                      exact norm_ (by simp only [putAll, Act.put, List.setIfInBounds_toArray, List.set_cons_zero, List.set_cons_succ] <;> rfl) (hJ3_9 (gb521) _ ⟨hHeld, (by with_reducible repeat first | exact BK512.out | apply bN), (by with_reducible repeat first | exact BK513.out | apply bN), (by with_reducible repeat first | exact BK521.out | apply bN), GW521.out, GE521.out, NB512_521.out, NB521_512.out, NB513_521.out, NB521_513.out, (by repeat (first | (with_reducible first | exact HB.out | apply below_alloc | apply pw_below_drewN | apply below_drew1 | refine below_set ?_ GE512.out | refine below_set ?_ GE513.out | refine below_set ?_ GE521.out) | exact HB.out))⟩)
                     ·skip
                      refine box_step ?hg (N := 9) ?hd (cs := #[.int .i64 0, .int .i64 0]) (t := 25) ?hr ?_; (case hd => rfl); (case hg => rfl); (case hr => first | (go_simp; done) | (go_simp; rfl))
                      intro gb520 hg w70 hbox hb
                      have n0_ := Aside0.mk (blk_below (by with_reducible repeat first | exact BK512.out | apply bN) hb)
                      have n1_ := Aside0.mk (blk_below (by with_reducible repeat first | exact BK513.out | apply bN) hb)
                      have n2_ := Aside0.mk (blk_below (by with_reducible repeat first | exact BK521.out | apply bN) hb)
                      have n3_ := Aside0.mk (below_step (by with_reducible repeat first | exact HB.out | apply pw_below_drewN) hb)
                      have n4_ := Aside0.mk (hbox)
                      have n5_ := Aside0.mk ((by rw [hg]; exact (below_size (by with_reducible repeat first | exact HB.out | apply pw_below_drewN)) : w.heap.size ≤ gb520))
                      have n6_ := Aside0.mk ((by rw [hg]; exact (below_size (by with_reducible repeat first | exact HB.out | apply pw_below_drewN)) : w.heap.size ≤ gb520))
                      have n7_ := Aside0.mk ((by rw [hg]; exact Nat.ne_of_lt (blk_lt (by with_reducible repeat first | exact BK512.out | apply bN)) : gb512 ≠ gb520))
                      have n8_ := Aside0.mk ((by rw [hg]; exact Nat.ne_of_gt (blk_lt (by with_reducible repeat first | exact BK512.out | apply bN)) : gb520 ≠ gb512))
                      have n9_ := Aside0.mk ((by rw [hg]; exact Nat.ne_of_lt (blk_lt (by with_reducible repeat first | exact BK513.out | apply bN)) : gb513 ≠ gb520))
                      have n10_ := Aside0.mk ((by rw [hg]; exact Nat.ne_of_gt (blk_lt (by with_reducible repeat first | exact BK513.out | apply bN)) : gb520 ≠ gb513))
                      have n11_ := Aside0.mk ((by rw [hg]; exact Nat.ne_of_lt (blk_lt (by with_reducible repeat first | exact BK521.out | apply bN)) : gb521 ≠ gb520))
                      have n12_ := Aside0.mk ((by rw [hg]; exact Nat.ne_of_gt (blk_lt (by with_reducible repeat first | exact BK521.out | apply bN)) : gb520 ≠ gb521))
                      clear BK512 BK513 BK521 HB
                      have BK512 := n0_
                      have BK513 := n1_
                      have BK521 := n2_
                      have HB := n3_
                      have BK520 := n4_
                      have GW520 := n5_
                      have GE520 := n6_
                      have NB512_520 := n7_
                      have NB520_512 := n8_
                      have NB513_520 := n9_
                      have NB520_513 := n10_
                      have NB521_520 := n11_
                      have NB520_521 := n12_
                      clear n0_ n1_ n2_ n3_ n4_ n5_ n6_ n7_ n8_ n9_ n10_ n11_ n12_ hb hbox hg
                      refine hK.out _ _ (c12t BK512.out ⟨(blk_cell BK513.out 0).trans rfl, (blk_cell BK513.out 1).trans rfl⟩) (fun hHeld => ?_)
                      clear hK K
                      refine norm_ (a' := ?_) ?_ ?_
                      rotate_left
                      ·show Act.put _ (some 9) _ = _
                       simp only [Act.put, List.setIfInBounds_toArray, List.set_cons_zero, List.set_cons_succ, i64_w, i32_w]
                       rfl
                      exact norm_ (by simp only [putAll, Act.put, List.setIfInBounds_toArray, List.set_cons_zero, List.set_cons_succ] <;> rfl) (hJ8_9 (gb520, gb521) _ ⟨hHeld, (by with_reducible repeat first | exact BK512.out | apply bN), (by with_reducible repeat first | exact BK513.out | apply bN), (by with_reducible repeat first | exact BK520.out | apply bN), (by with_reducible repeat first | exact BK521.out | apply bN), GW520.out, GE520.out, NB512_520.out, NB520_512.out, NB513_520.out, NB520_513.out, NB521_520.out, NB520_521.out, GW521.out, GE521.out, NB512_521.out, NB521_512.out, NB513_521.out, NB521_513.out, (by repeat (first | (with_reducible first | exact HB.out | apply below_alloc | apply pw_below_drewN | apply below_drew1 | refine below_set ?_ GE512.out | refine below_set ?_ GE513.out | refine below_set ?_ GE521.out | refine below_set ?_ GE520.out) | exact HB.out))⟩)
                   ·skip
                    rintro gb520 w69 ⟨hS_, h0_, h1_, h2_, h3_, h4_, h5_, h6_, h7_, h8_, h9_⟩
                    have n0_ : Aside0 (w69.heap[gb512]? = some (.cells #[.int .i64 a0_0, .int .i64 a0_1, .int .i64 a0_2, .int .i64 a0_3, .int .i64 a0_4, .int .i64 a0_5, .int .i64 a0_6, .int .i64 a0_7, .int .i64 a0_8, .int .i64 a0_9, .int .i64 a0_10, .int .i64 a0_11] 23 (0, 0))) := ⟨h0_⟩
                    have n1_ : Aside0 (w69.heap[gb513]? = some (.cells #[.int .i64 a1_0, .int .i64 a1_1] 25 (0, 0))) := ⟨h1_⟩
                    have n2_ : Aside0 (w69.heap[gb520]? = some (.cells #[.int .i64 0, .int .i64 0] 25 (0, 0))) := ⟨h2_⟩
                    have n3_ : Aside0 (w.heap.size ≤ gb520) := ⟨h3_⟩
                    have n4_ : Aside0 (w.heap.size ≤ gb520) := ⟨h4_⟩
                    have n5_ : Aside0 (gb512 ≠ gb520) := ⟨h5_⟩
                    have n6_ : Aside0 (gb520 ≠ gb512) := ⟨h6_⟩
                    have n7_ : Aside0 (gb513 ≠ gb520) := ⟨h7_⟩
                    have n8_ : Aside0 (gb520 ≠ gb513) := ⟨h8_⟩
                    have n9_ : Aside0 (Below w.heap.size w w69) := ⟨h9_⟩
                    clear BK512 BK513 HB h0_ h1_ h2_ h3_ h4_ h5_ h6_ h7_ h8_ h9_
                    have BK512 := n0_
                    have BK513 := n1_
                    have BK520 := n2_
                    have GW520 := n3_
                    have GE520 := n4_
                    have NB512_520 := n5_
                    have NB520_512 := n6_
                    have NB513_520 := n7_
                    have NB520_513 := n8_
                    have HB := n9_
                    clear n0_ n1_ n2_ n3_ n4_ n5_ n6_ n7_ n8_ n9_
                    have hHeld := hS_
                    try dsimp only at hHeld
                    refine norm_ (a' := ?_) ?_ ?_
                    rotate_left
                    ·simp only [putAll, Act.put, List.setIfInBounds_toArray, List.set_cons_zero, List.set_cons_succ]
                     rfl
                    refine two_ (i := 3) (j := 9) (Ni := some 35) (Nj := some 10) #[true, true, true, true, true, true, true, false, true, false, false, false] #[true, true, true, false, true, true, true, false, true, true, false, false] rfl rfl rfl rfl (two_of HT_.out (by kernel_rfl)) (by decide) (by decide) (fun K hK => ?_) (fun K hK => ?_)
                    ·skip
                     refine goes_ Try.func16 (by kernel_rfl) rfl #[.agg #[.int .i64 a0_0, .int .i64 a0_1, .int .i64 a0_2, .int .i64 a0_3, .int .i64 a0_4, .int .i64 a0_5, .int .i64 a0_6, .int .i64 a0_7, .int .i64 a0_8, .int .i64 a0_9, .int .i64 a0_10, .int .i64 a0_11], .agg #[.int .i64 a1_0, .int .i64 a1_1], .int .i64 a2] (by rfl) rfl rfl (by (try simp only [List.map_toArray, List.map_cons, List.map_nil]); first | done | rfl | (simp only [List.length_drop, List.length_take]; rfl)) ?_
                     with_reducible refine (carry_Hold.calls k a0_0 a0_1 a0_2 a0_3 a0_4 a0_5 a0_6 a0_7 a0_8 a0_9 a0_10 a0_11 a1_0 a1_1 a2 t516 t517 _ A56.out).mono ?_
                     rintro e w70 ⟨rfl, hb⟩
                     refine ⟨_, rfl, ?_⟩
                     have n0_ := Aside0.mk (blk_below (by with_reducible repeat first | exact BK512.out | apply bN) hb)
                     have n1_ := Aside0.mk (blk_below (by with_reducible repeat first | exact BK513.out | apply bN) hb)
                     have n2_ := Aside0.mk (blk_below (by with_reducible repeat first | exact BK520.out | apply bN) hb)
                     have n3_ := Aside0.mk (below_step (by with_reducible repeat first | exact HB.out | apply pw_below_drewN) hb)
                     clear BK512 BK513 BK520 HB
                     have BK512 := n0_
                     have BK513 := n1_
                     have BK520 := n2_
                     have HB := n3_
                     clear n0_ n1_ n2_ n3_
                     (try clear hb)
                     (try clear hb2)
                     (try clear hk)
                     (try clear hi)
                     refine hK.out _ _ (c12t BK512.out ⟨(blk_cell BK513.out 0).trans rfl, (blk_cell BK513.out 1).trans rfl⟩) (fun hHeld => ?_)
                     clear hK K
                     refine norm_ (a' := ?_) ?_ ?_
                     rotate_left
                     ·show Act.put _ (some 35) _ = _
                      simp only [Act.put, List.setIfInBounds_toArray, List.set_cons_zero, List.set_cons_succ, i64_w, i32_w]
                      rfl
                     exact norm_ (by simp only [putAll, Act.put, List.setIfInBounds_toArray, List.set_cons_zero, List.set_cons_succ] <;> rfl) (hJ3_8 (gb520) _ ⟨hHeld, (by with_reducible repeat first | exact BK512.out | apply bN), (by with_reducible repeat first | exact BK513.out | apply bN), (by with_reducible repeat first | exact BK520.out | apply bN), GW520.out, GE520.out, NB512_520.out, NB520_512.out, NB513_520.out, NB520_513.out, (by repeat (first | (with_reducible first | exact HB.out | apply below_alloc | apply pw_below_drewN | apply below_drew1 | refine below_set ?_ GE512.out | refine below_set ?_ GE513.out | refine below_set ?_ GE520.out) | exact HB.out))⟩)
                    ·skip
                     refine box_step ?hg (N := 10) ?hd (cs := #[.int .i64 0, .int .i64 0]) (t := 25) ?hr ?_; (case hd => rfl); (case hg => rfl); (case hr => first | (go_simp; done) | (go_simp; rfl))
                     intro gb521 hg w70 hbox hb
                     have n0_ := Aside0.mk (blk_below (by with_reducible repeat first | exact BK512.out | apply bN) hb)
                     have n1_ := Aside0.mk (blk_below (by with_reducible repeat first | exact BK513.out | apply bN) hb)
                     have n2_ := Aside0.mk (blk_below (by with_reducible repeat first | exact BK520.out | apply bN) hb)
                     have n3_ := Aside0.mk (below_step (by with_reducible repeat first | exact HB.out | apply pw_below_drewN) hb)
                     have n4_ := Aside0.mk (hbox)
                     have n5_ := Aside0.mk ((by rw [hg]; exact (below_size (by with_reducible repeat first | exact HB.out | apply pw_below_drewN)) : w.heap.size ≤ gb521))
                     have n6_ := Aside0.mk ((by rw [hg]; exact (below_size (by with_reducible repeat first | exact HB.out | apply pw_below_drewN)) : w.heap.size ≤ gb521))
                     have n7_ := Aside0.mk ((by rw [hg]; exact Nat.ne_of_lt (blk_lt (by with_reducible repeat first | exact BK512.out | apply bN)) : gb512 ≠ gb521))
                     have n8_ := Aside0.mk ((by rw [hg]; exact Nat.ne_of_gt (blk_lt (by with_reducible repeat first | exact BK512.out | apply bN)) : gb521 ≠ gb512))
                     have n9_ := Aside0.mk ((by rw [hg]; exact Nat.ne_of_lt (blk_lt (by with_reducible repeat first | exact BK513.out | apply bN)) : gb513 ≠ gb521))
                     have n10_ := Aside0.mk ((by rw [hg]; exact Nat.ne_of_gt (blk_lt (by with_reducible repeat first | exact BK513.out | apply bN)) : gb521 ≠ gb513))
                     have n11_ := Aside0.mk ((by rw [hg]; exact Nat.ne_of_lt (blk_lt (by with_reducible repeat first | exact BK520.out | apply bN)) : gb520 ≠ gb521))
                     have n12_ := Aside0.mk ((by rw [hg]; exact Nat.ne_of_gt (blk_lt (by with_reducible repeat first | exact BK520.out | apply bN)) : gb521 ≠ gb520))
                     clear BK512 BK513 BK520 HB
                     have BK512 := n0_
                     have BK513 := n1_
                     have BK520 := n2_
                     have HB := n3_
                     have BK521 := n4_
                     have GW521 := n5_
                     have GE521 := n6_
                     have NB512_521 := n7_
                     have NB521_512 := n8_
                     have NB513_521 := n9_
                     have NB521_513 := n10_
                     have NB520_521 := n11_
                     have NB521_520 := n12_
                     clear n0_ n1_ n2_ n3_ n4_ n5_ n6_ n7_ n8_ n9_ n10_ n11_ n12_ hb hbox hg
                     refine hK.out _ _ (c12t BK512.out ⟨(blk_cell BK513.out 0).trans rfl, (blk_cell BK513.out 1).trans rfl⟩) (fun hHeld => ?_)
                     clear hK K
                     refine norm_ (a' := ?_) ?_ ?_
                     rotate_left
                     ·show Act.put _ (some 10) _ = _
                      simp only [Act.put, List.setIfInBounds_toArray, List.set_cons_zero, List.set_cons_succ, i64_w, i32_w]
                      rfl
                     exact norm_ (by simp only [putAll, Act.put, List.setIfInBounds_toArray, List.set_cons_zero, List.set_cons_succ] <;> rfl) (hJ8_9 (gb520, gb521) _ ⟨hHeld, (by with_reducible repeat first | exact BK512.out | apply bN), (by with_reducible repeat first | exact BK513.out | apply bN), (by with_reducible repeat first | exact BK520.out | apply bN), (by with_reducible repeat first | exact BK521.out | apply bN), GW520.out, GE520.out, NB512_520.out, NB520_512.out, NB513_520.out, NB520_513.out, NB521_520.out, NB520_521.out, GW521.out, GE521.out, NB512_521.out, NB521_512.out, NB513_521.out, NB521_513.out, (by repeat (first | (with_reducible first | exact HB.out | apply below_alloc | apply pw_below_drewN | apply below_drew1 | refine below_set ?_ GE512.out | refine below_set ?_ GE513.out | refine below_set ?_ GE520.out | refine below_set ?_ GE521.out) | exact HB.out))⟩)
                  ·skip
                   rintro _ w69 ⟨hS_, h0_, h1_, h2_⟩
                   have n0_ : Aside0 (w69.heap[gb512]? = some (.cells #[.int .i64 a0_0, .int .i64 a0_1, .int .i64 a0_2, .int .i64 a0_3, .int .i64 a0_4, .int .i64 a0_5, .int .i64 a0_6, .int .i64 a0_7, .int .i64 a0_8, .int .i64 a0_9, .int .i64 a0_10, .int .i64 a0_11] 23 (0, 0))) := ⟨h0_⟩
                   have n1_ : Aside0 (w69.heap[gb513]? = some (.cells #[.int .i64 a1_0, .int .i64 a1_1] 25 (0, 0))) := ⟨h1_⟩
                   have n2_ : Aside0 (Below w.heap.size w w69) := ⟨h2_⟩
                   clear BK512 BK513 HB h0_ h1_ h2_
                   have BK512 := n0_
                   have BK513 := n1_
                   have HB := n2_
                   clear n0_ n1_ n2_
                   have hHeld := hS_
                   try dsimp only at hHeld
                   refine norm_ (a' := ?_) ?_ ?_
                   rotate_left
                   ·simp only [putAll, Act.put, List.setIfInBounds_toArray, List.set_cons_zero, List.set_cons_succ]
                    rfl
                   refine three_ (i := 7) (j := 8) (k := 9) (Ni := some 39) (Nj := some 9) (Nk := some 10) #[true, true, true, true, true, true, true, true, false, false, false, false] #[true, true, true, true, true, true, true, false, true, false, false, false] #[true, true, true, true, true, true, true, false, false, true, false, false] rfl rfl rfl rfl rfl rfl (three_of HT_.out (by kernel_rfl)) (by decide) (by decide) (by decide) (fun K hK => ?_) (fun K hK => ?_) (fun K hK => ?_)
                   ·skip
                    refine goes_ Try.func18 (by kernel_rfl) rfl #[.agg #[.int .i64 a0_0, .int .i64 a0_1, .int .i64 a0_2, .int .i64 a0_3, .int .i64 a0_4, .int .i64 a0_5, .int .i64 a0_6, .int .i64 a0_7, .int .i64 a0_8, .int .i64 a0_9, .int .i64 a0_10, .int .i64 a0_11], .agg #[.int .i64 a1_0, .int .i64 a1_1], .int .i64 a2] (by rfl) rfl rfl (by (try simp only [List.map_toArray, List.map_cons, List.map_nil]); first | done | rfl | (simp only [List.length_drop, List.length_take]; rfl)) ?_
                    with_reducible refine (carry_Way.calls k a0_0 a0_1 a0_2 a0_3 a0_4 a0_5 a0_6 a0_7 a0_8 a0_9 a0_10 a0_11 a1_0 a1_1 a2 t518 t519 _ A57.out).mono ?_
                    rintro e w70 ⟨rfl, hb⟩
                    refine ⟨_, rfl, ?_⟩
                    have n0_ := Aside0.mk (blk_below (by with_reducible repeat first | exact BK512.out | apply bN) hb)
                    have n1_ := Aside0.mk (blk_below (by with_reducible repeat first | exact BK513.out | apply bN) hb)
                    have n2_ := Aside0.mk (below_step (by with_reducible repeat first | exact HB.out | apply pw_below_drewN) hb)
                    clear BK512 BK513 HB
                    have BK512 := n0_
                    have BK513 := n1_
                    have HB := n2_
                    clear n0_ n1_ n2_
                    (try clear hb)
                    (try clear hb2)
                    (try clear hk)
                    (try clear hi)
                    refine hK.out _ _ (c12t BK512.out ⟨(blk_cell BK513.out 0).trans rfl, (blk_cell BK513.out 1).trans rfl⟩) (fun hHeld => ?_)
                    clear hK K
                    refine norm_ (a' := ?_) ?_ ?_
                    rotate_left
                    ·show Act.put _ (some 39) _ = _
                     simp only [Act.put, List.setIfInBounds_toArray, List.set_cons_zero, List.set_cons_succ, i64_w, i32_w]
                     rfl
                    exact norm_ (by simp only [putAll, Act.put, List.setIfInBounds_toArray, List.set_cons_zero, List.set_cons_succ] <;> rfl) (hJ3_7 () _ ⟨hHeld, (by with_reducible repeat first | exact BK512.out | apply bN), (by with_reducible repeat first | exact BK513.out | apply bN), (by repeat (first | (with_reducible first | exact HB.out | apply below_alloc | apply pw_below_drewN | apply below_drew1 | refine below_set ?_ GE512.out | refine below_set ?_ GE513.out) | exact HB.out))⟩)
                   ·skip
                    refine box_step ?hg (N := 9) ?hd (cs := #[.int .i64 0, .int .i64 0]) (t := 25) ?hr ?_; (case hd => rfl); (case hg => rfl); (case hr => first | (go_simp; done) | (go_simp; rfl))
                    intro gb520 hg w70 hbox hb
                    have n0_ := Aside0.mk (blk_below (by with_reducible repeat first | exact BK512.out | apply bN) hb)
                    have n1_ := Aside0.mk (blk_below (by with_reducible repeat first | exact BK513.out | apply bN) hb)
                    have n2_ := Aside0.mk (below_step (by with_reducible repeat first | exact HB.out | apply pw_below_drewN) hb)
                    have n3_ := Aside0.mk (hbox)
                    have n4_ := Aside0.mk ((by rw [hg]; exact (below_size (by with_reducible repeat first | exact HB.out | apply pw_below_drewN)) : w.heap.size ≤ gb520))
                    have n5_ := Aside0.mk ((by rw [hg]; exact (below_size (by with_reducible repeat first | exact HB.out | apply pw_below_drewN)) : w.heap.size ≤ gb520))
                    have n6_ := Aside0.mk ((by rw [hg]; exact Nat.ne_of_lt (blk_lt (by with_reducible repeat first | exact BK512.out | apply bN)) : gb512 ≠ gb520))
                    have n7_ := Aside0.mk ((by rw [hg]; exact Nat.ne_of_gt (blk_lt (by with_reducible repeat first | exact BK512.out | apply bN)) : gb520 ≠ gb512))
                    have n8_ := Aside0.mk ((by rw [hg]; exact Nat.ne_of_lt (blk_lt (by with_reducible repeat first | exact BK513.out | apply bN)) : gb513 ≠ gb520))
                    have n9_ := Aside0.mk ((by rw [hg]; exact Nat.ne_of_gt (blk_lt (by with_reducible repeat first | exact BK513.out | apply bN)) : gb520 ≠ gb513))
                    clear BK512 BK513 HB
                    have BK512 := n0_
                    have BK513 := n1_
                    have HB := n2_
                    have BK520 := n3_
                    have GW520 := n4_
                    have GE520 := n5_
                    have NB512_520 := n6_
                    have NB520_512 := n7_
                    have NB513_520 := n8_
                    have NB520_513 := n9_
                    clear n0_ n1_ n2_ n3_ n4_ n5_ n6_ n7_ n8_ n9_ hb hbox hg
                    refine hK.out _ _ (c12t BK512.out ⟨(blk_cell BK513.out 0).trans rfl, (blk_cell BK513.out 1).trans rfl⟩) (fun hHeld => ?_)
                    clear hK K
                    refine norm_ (a' := ?_) ?_ ?_
                    rotate_left
                    ·show Act.put _ (some 9) _ = _
                     simp only [Act.put, List.setIfInBounds_toArray, List.set_cons_zero, List.set_cons_succ, i64_w, i32_w]
                     rfl
                    exact norm_ (by simp only [putAll, Act.put, List.setIfInBounds_toArray, List.set_cons_zero, List.set_cons_succ] <;> rfl) (hJ3_8 (gb520) _ ⟨hHeld, (by with_reducible repeat first | exact BK512.out | apply bN), (by with_reducible repeat first | exact BK513.out | apply bN), (by with_reducible repeat first | exact BK520.out | apply bN), GW520.out, GE520.out, NB512_520.out, NB520_512.out, NB513_520.out, NB520_513.out, (by repeat (first | (with_reducible first | exact HB.out | apply below_alloc | apply pw_below_drewN | apply below_drew1 | refine below_set ?_ GE512.out | refine below_set ?_ GE513.out | refine below_set ?_ GE520.out) | exact HB.out))⟩)
                   ·skip
                    refine box_step ?hg (N := 10) ?hd (cs := #[.int .i64 0, .int .i64 0]) (t := 25) ?hr ?_; (case hd => rfl); (case hg => rfl); (case hr => first | (go_simp; done) | (go_simp; rfl))
                    intro gb521 hg w70 hbox hb
                    have n0_ := Aside0.mk (blk_below (by with_reducible repeat first | exact BK512.out | apply bN) hb)
                    have n1_ := Aside0.mk (blk_below (by with_reducible repeat first | exact BK513.out | apply bN) hb)
                    have n2_ := Aside0.mk (below_step (by with_reducible repeat first | exact HB.out | apply pw_below_drewN) hb)
                    have n3_ := Aside0.mk (hbox)
                    have n4_ := Aside0.mk ((by rw [hg]; exact (below_size (by with_reducible repeat first | exact HB.out | apply pw_below_drewN)) : w.heap.size ≤ gb521))
                    have n5_ := Aside0.mk ((by rw [hg]; exact (below_size (by with_reducible repeat first | exact HB.out | apply pw_below_drewN)) : w.heap.size ≤ gb521))
                    have n6_ := Aside0.mk ((by rw [hg]; exact Nat.ne_of_lt (blk_lt (by with_reducible repeat first | exact BK512.out | apply bN)) : gb512 ≠ gb521))
                    have n7_ := Aside0.mk ((by rw [hg]; exact Nat.ne_of_gt (blk_lt (by with_reducible repeat first | exact BK512.out | apply bN)) : gb521 ≠ gb512))
                    have n8_ := Aside0.mk ((by rw [hg]; exact Nat.ne_of_lt (blk_lt (by with_reducible repeat first | exact BK513.out | apply bN)) : gb513 ≠ gb521))
                    have n9_ := Aside0.mk ((by rw [hg]; exact Nat.ne_of_gt (blk_lt (by with_reducible repeat first | exact BK513.out | apply bN)) : gb521 ≠ gb513))
                    clear BK512 BK513 HB
                    have BK512 := n0_
                    have BK513 := n1_
                    have HB := n2_
                    have BK521 := n3_
                    have GW521 := n4_
                    have GE521 := n5_
                    have NB512_521 := n6_
                    have NB521_512 := n7_
                    have NB513_521 := n8_
                    have NB521_513 := n9_
                    clear n0_ n1_ n2_ n3_ n4_ n5_ n6_ n7_ n8_ n9_ hb hbox hg
                    refine hK.out _ _ (c12t BK512.out ⟨(blk_cell BK513.out 0).trans rfl, (blk_cell BK513.out 1).trans rfl⟩) (fun hHeld => ?_)
                    clear hK K
                    refine norm_ (a' := ?_) ?_ ?_
                    rotate_left
                    ·show Act.put _ (some 10) _ = _
                     simp only [Act.put, List.setIfInBounds_toArray, List.set_cons_zero, List.set_cons_succ, i64_w, i32_w]
                     rfl
                    exact norm_ (by simp only [putAll, Act.put, List.setIfInBounds_toArray, List.set_cons_zero, List.set_cons_succ] <;> rfl) (hJ3_9 (gb521) _ ⟨hHeld, (by with_reducible repeat first | exact BK512.out | apply bN), (by with_reducible repeat first | exact BK513.out | apply bN), (by with_reducible repeat first | exact BK521.out | apply bN), GW521.out, GE521.out, NB512_521.out, NB521_512.out, NB513_521.out, NB521_513.out, (by repeat (first | (with_reducible first | exact HB.out | apply below_alloc | apply pw_below_drewN | apply below_drew1 | refine below_set ?_ GE512.out | refine below_set ?_ GE513.out | refine below_set ?_ GE521.out) | exact HB.out))⟩)
                 ·skip
                  rintro ⟨gb520, gb521⟩ w70 ⟨hS_, h0_, h1_, h2_, h3_, h4_, h5_, h6_, h7_, h8_, h9_, h10_, h11_, h12_, h13_, h14_, h15_, h16_, h17_, h18_⟩
                  have n0_ : Aside0 (w70.heap[gb512]? = some (.cells #[.int .i64 a0_0, .int .i64 a0_1, .int .i64 a0_2, .int .i64 a0_3, .int .i64 a0_4, .int .i64 a0_5, .int .i64 a0_6, .int .i64 a0_7, .int .i64 a0_8, .int .i64 a0_9, .int .i64 a0_10, .int .i64 a0_11] 23 (0, 0))) := ⟨h0_⟩
                  have n1_ : Aside0 (w70.heap[gb513]? = some (.cells #[.int .i64 a1_0, .int .i64 a1_1] 25 (0, 0))) := ⟨h1_⟩
                  have n2_ : Aside0 (w70.heap[gb520]? = some (.cells #[.int .i64 0, .int .i64 0] 25 (0, 0))) := ⟨h2_⟩
                  have n3_ : Aside0 (w70.heap[gb521]? = some (.cells #[.int .i64 0, .int .i64 0] 25 (0, 0))) := ⟨h3_⟩
                  have n4_ : Aside0 (w.heap.size ≤ gb520) := ⟨h4_⟩
                  have n5_ : Aside0 (w.heap.size ≤ gb520) := ⟨h5_⟩
                  have n6_ : Aside0 (gb512 ≠ gb520) := ⟨h6_⟩
                  have n7_ : Aside0 (gb520 ≠ gb512) := ⟨h7_⟩
                  have n8_ : Aside0 (gb513 ≠ gb520) := ⟨h8_⟩
                  have n9_ : Aside0 (gb520 ≠ gb513) := ⟨h9_⟩
                  have n10_ : Aside0 (gb521 ≠ gb520) := ⟨h10_⟩
                  have n11_ : Aside0 (gb520 ≠ gb521) := ⟨h11_⟩
                  have n12_ : Aside0 (w.heap.size ≤ gb521) := ⟨h12_⟩
                  have n13_ : Aside0 (w.heap.size ≤ gb521) := ⟨h13_⟩
                  have n14_ : Aside0 (gb512 ≠ gb521) := ⟨h14_⟩
                  have n15_ : Aside0 (gb521 ≠ gb512) := ⟨h15_⟩
                  have n16_ : Aside0 (gb513 ≠ gb521) := ⟨h16_⟩
                  have n17_ : Aside0 (gb521 ≠ gb513) := ⟨h17_⟩
                  have n18_ : Aside0 (Below w.heap.size w w70) := ⟨h18_⟩
                  clear BK512 BK513 HB h0_ h1_ h2_ h3_ h4_ h5_ h6_ h7_ h8_ h9_ h10_ h11_ h12_ h13_ h14_ h15_ h16_ h17_ h18_
                  have BK512 := n0_
                  have BK513 := n1_
                  have BK520 := n2_
                  have BK521 := n3_
                  have GW520 := n4_
                  have GE520 := n5_
                  have NB512_520 := n6_
                  have NB520_512 := n7_
                  have NB513_520 := n8_
                  have NB520_513 := n9_
                  have NB521_520 := n10_
                  have NB520_521 := n11_
                  have GW521 := n12_
                  have GE521 := n13_
                  have NB512_521 := n14_
                  have NB521_512 := n15_
                  have NB513_521 := n16_
                  have NB521_513 := n17_
                  have HB := n18_
                  clear n0_ n1_ n2_ n3_ n4_ n5_ n6_ n7_ n8_ n9_ n10_ n11_ n12_ n13_ n14_ n15_ n16_ n17_ n18_
                  have hHeld := hS_
                  try dsimp only at hHeld
                  refine norm_ (a' := ?_) ?_ ?_
                  rotate_left
                  ·simp only [putAll, Act.put, List.setIfInBounds_toArray, List.set_cons_zero, List.set_cons_succ]
                   rfl
                  refine one_ (i := 3) (N := some 35) #[true, true, true, true, true, true, true, false, true, true, false, false] rfl rfl (one_of HT_.out (by kernel_rfl)) (by decide) (fun K hK => ?_)
                  refine goes_ Try.func16 (by kernel_rfl) rfl #[.agg #[.int .i64 a0_0, .int .i64 a0_1, .int .i64 a0_2, .int .i64 a0_3, .int .i64 a0_4, .int .i64 a0_5, .int .i64 a0_6, .int .i64 a0_7, .int .i64 a0_8, .int .i64 a0_9, .int .i64 a0_10, .int .i64 a0_11], .agg #[.int .i64 a1_0, .int .i64 a1_1], .int .i64 a2] (by rfl) rfl rfl (by (try simp only [List.map_toArray, List.map_cons, List.map_nil]); first | done | rfl | (simp only [List.length_drop, List.length_take]; rfl)) ?_
                  with_reducible refine (carry_Hold.calls k a0_0 a0_1 a0_2 a0_3 a0_4 a0_5 a0_6 a0_7 a0_8 a0_9 a0_10 a0_11 a1_0 a1_1 a2 t516 t517 _ A56.out).mono ?_
                  rintro e w71 ⟨rfl, hb⟩
                  refine ⟨_, rfl, ?_⟩
                  have n0_ := Aside0.mk (blk_below (by with_reducible repeat first | exact BK512.out | apply bN) hb)
                  have n1_ := Aside0.mk (blk_below (by with_reducible repeat first | exact BK513.out | apply bN) hb)
                  have n2_ := Aside0.mk (blk_below (by with_reducible repeat first | exact BK520.out | apply bN) hb)
                  have n3_ := Aside0.mk (blk_below (by with_reducible repeat first | exact BK521.out | apply bN) hb)
                  have n4_ := Aside0.mk (below_step (by with_reducible repeat first | exact HB.out | apply pw_below_drewN) hb)
                  clear BK512 BK513 BK520 BK521 HB
                  have BK512 := n0_
                  have BK513 := n1_
                  have BK520 := n2_
                  have BK521 := n3_
                  have HB := n4_
                  clear n0_ n1_ n2_ n3_ n4_
                  (try clear hb)
                  (try clear hb2)
                  (try clear hk)
                  (try clear hi)
                  refine hK.out _ _ (c12t BK512.out ⟨(blk_cell BK513.out 0).trans rfl, (blk_cell BK513.out 1).trans rfl⟩) (fun hHeld => ?_)
                  clear hK K
                  refine norm_ (a' := ?_) ?_ ?_
                  rotate_left
                  ·show Act.put _ (some 35) _ = _
                   simp only [Act.put, List.setIfInBounds_toArray, List.set_cons_zero, List.set_cons_succ, i64_w, i32_w]
                   rfl
                  exact norm_ (by simp only [putAll, Act.put, List.setIfInBounds_toArray, List.set_cons_zero, List.set_cons_succ] <;> rfl) (hJ3_8_9 (gb520, gb521) _ ⟨hHeld, (by with_reducible repeat first | exact BK512.out | apply bN), (by with_reducible repeat first | exact BK513.out | apply bN), (by with_reducible repeat first | exact BK520.out | apply bN), (by with_reducible repeat first | exact BK521.out | apply bN), GW520.out, GE520.out, NB512_520.out, NB520_512.out, NB513_520.out, NB520_513.out, NB521_520.out, NB520_521.out, GW521.out, GE521.out, NB512_521.out, NB521_512.out, NB513_521.out, NB521_513.out, (by repeat (first | (with_reducible first | exact HB.out | apply below_alloc | apply pw_below_drewN | apply below_drew1 | refine below_set ?_ GE512.out | refine below_set ?_ GE513.out | refine below_set ?_ GE520.out | refine below_set ?_ GE521.out) | exact HB.out))⟩)
                ·skip
                 rintro gb521 w70 ⟨hS_, h0_, h1_, h2_, h3_, h4_, h5_, h6_, h7_, h8_, h9_⟩
                 have n0_ : Aside0 (w70.heap[gb512]? = some (.cells #[.int .i64 a0_0, .int .i64 a0_1, .int .i64 a0_2, .int .i64 a0_3, .int .i64 a0_4, .int .i64 a0_5, .int .i64 a0_6, .int .i64 a0_7, .int .i64 a0_8, .int .i64 a0_9, .int .i64 a0_10, .int .i64 a0_11] 23 (0, 0))) := ⟨h0_⟩
                 have n1_ : Aside0 (w70.heap[gb513]? = some (.cells #[.int .i64 a1_0, .int .i64 a1_1] 25 (0, 0))) := ⟨h1_⟩
                 have n2_ : Aside0 (w70.heap[gb521]? = some (.cells #[.int .i64 0, .int .i64 0] 25 (0, 0))) := ⟨h2_⟩
                 have n3_ : Aside0 (w.heap.size ≤ gb521) := ⟨h3_⟩
                 have n4_ : Aside0 (w.heap.size ≤ gb521) := ⟨h4_⟩
                 have n5_ : Aside0 (gb512 ≠ gb521) := ⟨h5_⟩
                 have n6_ : Aside0 (gb521 ≠ gb512) := ⟨h6_⟩
                 have n7_ : Aside0 (gb513 ≠ gb521) := ⟨h7_⟩
                 have n8_ : Aside0 (gb521 ≠ gb513) := ⟨h8_⟩
                 have n9_ : Aside0 (Below w.heap.size w w70) := ⟨h9_⟩
                 clear BK512 BK513 HB h0_ h1_ h2_ h3_ h4_ h5_ h6_ h7_ h8_ h9_
                 have BK512 := n0_
                 have BK513 := n1_
                 have BK521 := n2_
                 have GW521 := n3_
                 have GE521 := n4_
                 have NB512_521 := n5_
                 have NB521_512 := n6_
                 have NB513_521 := n7_
                 have NB521_513 := n8_
                 have HB := n9_
                 clear n0_ n1_ n2_ n3_ n4_ n5_ n6_ n7_ n8_ n9_
                 have hHeld := hS_
                 try dsimp only at hHeld
                 refine norm_ (a' := ?_) ?_ ?_
                 rotate_left
                 ·simp only [putAll, Act.put, List.setIfInBounds_toArray, List.set_cons_zero, List.set_cons_succ]
                  rfl
                 refine two_ (i := 7) (j := 8) (Ni := some 39) (Nj := some 9) #[true, true, true, true, true, true, true, true, false, true, false, false] #[true, true, true, true, true, true, true, false, true, true, false, false] rfl rfl rfl rfl (two_of HT_.out (by kernel_rfl)) (by decide) (by decide) (fun K hK => ?_) (fun K hK => ?_)
                 ·skip
                  refine goes_ Try.func18 (by kernel_rfl) rfl #[.agg #[.int .i64 a0_0, .int .i64 a0_1, .int .i64 a0_2, .int .i64 a0_3, .int .i64 a0_4, .int .i64 a0_5, .int .i64 a0_6, .int .i64 a0_7, .int .i64 a0_8, .int .i64 a0_9, .int .i64 a0_10, .int .i64 a0_11], .agg #[.int .i64 a1_0, .int .i64 a1_1], .int .i64 a2] (by rfl) rfl rfl (by (try simp only [List.map_toArray, List.map_cons, List.map_nil]); first | done | rfl | (simp only [List.length_drop, List.length_take]; rfl)) ?_
                  with_reducible refine (carry_Way.calls k a0_0 a0_1 a0_2 a0_3 a0_4 a0_5 a0_6 a0_7 a0_8 a0_9 a0_10 a0_11 a1_0 a1_1 a2 t518 t519 _ A57.out).mono ?_
                  rintro e w71 ⟨rfl, hb⟩
                  refine ⟨_, rfl, ?_⟩
                  have n0_ := Aside0.mk (blk_below (by with_reducible repeat first | exact BK512.out | apply bN) hb)
                  have n1_ := Aside0.mk (blk_below (by with_reducible repeat first | exact BK513.out | apply bN) hb)
                  have n2_ := Aside0.mk (blk_below (by with_reducible repeat first | exact BK521.out | apply bN) hb)
                  have n3_ := Aside0.mk (below_step (by with_reducible repeat first | exact HB.out | apply pw_below_drewN) hb)
                  clear BK512 BK513 BK521 HB
                  have BK512 := n0_
                  have BK513 := n1_
                  have BK521 := n2_
                  have HB := n3_
                  clear n0_ n1_ n2_ n3_
                  (try clear hb)
                  (try clear hb2)
                  (try clear hk)
                  (try clear hi)
                  refine hK.out _ _ (c12t BK512.out ⟨(blk_cell BK513.out 0).trans rfl, (blk_cell BK513.out 1).trans rfl⟩) (fun hHeld => ?_)
                  clear hK K
                  refine norm_ (a' := ?_) ?_ ?_
                  rotate_left
                  ·show Act.put _ (some 39) _ = _
                   simp only [Act.put, List.setIfInBounds_toArray, List.set_cons_zero, List.set_cons_succ, i64_w, i32_w]
                   rfl
                  exact norm_ (by simp only [putAll, Act.put, List.setIfInBounds_toArray, List.set_cons_zero, List.set_cons_succ] <;> rfl) (hJ3_7_9 (gb521) _ ⟨hHeld, (by with_reducible repeat first | exact BK512.out | apply bN), (by with_reducible repeat first | exact BK513.out | apply bN), (by with_reducible repeat first | exact BK521.out | apply bN), GW521.out, GE521.out, NB512_521.out, NB521_512.out, NB513_521.out, NB521_513.out, (by repeat (first | (with_reducible first | exact HB.out | apply below_alloc | apply pw_below_drewN | apply below_drew1 | refine below_set ?_ GE512.out | refine below_set ?_ GE513.out | refine below_set ?_ GE521.out) | exact HB.out))⟩)
                 ·skip
                  refine box_step ?hg (N := 9) ?hd (cs := #[.int .i64 0, .int .i64 0]) (t := 25) ?hr ?_; (case hd => rfl); (case hg => rfl); (case hr => first | (go_simp; done) | (go_simp; rfl))
                  intro gb520 hg w71 hbox hb
                  have n0_ := Aside0.mk (blk_below (by with_reducible repeat first | exact BK512.out | apply bN) hb)
                  have n1_ := Aside0.mk (blk_below (by with_reducible repeat first | exact BK513.out | apply bN) hb)
                  have n2_ := Aside0.mk (blk_below (by with_reducible repeat first | exact BK521.out | apply bN) hb)
                  have n3_ := Aside0.mk (below_step (by with_reducible repeat first | exact HB.out | apply pw_below_drewN) hb)
                  have n4_ := Aside0.mk (hbox)
                  have n5_ := Aside0.mk ((by rw [hg]; exact (below_size (by with_reducible repeat first | exact HB.out | apply pw_below_drewN)) : w.heap.size ≤ gb520))
                  have n6_ := Aside0.mk ((by rw [hg]; exact (below_size (by with_reducible repeat first | exact HB.out | apply pw_below_drewN)) : w.heap.size ≤ gb520))
                  have n7_ := Aside0.mk ((by rw [hg]; exact Nat.ne_of_lt (blk_lt (by with_reducible repeat first | exact BK512.out | apply bN)) : gb512 ≠ gb520))
                  have n8_ := Aside0.mk ((by rw [hg]; exact Nat.ne_of_gt (blk_lt (by with_reducible repeat first | exact BK512.out | apply bN)) : gb520 ≠ gb512))
                  have n9_ := Aside0.mk ((by rw [hg]; exact Nat.ne_of_lt (blk_lt (by with_reducible repeat first | exact BK513.out | apply bN)) : gb513 ≠ gb520))
                  have n10_ := Aside0.mk ((by rw [hg]; exact Nat.ne_of_gt (blk_lt (by with_reducible repeat first | exact BK513.out | apply bN)) : gb520 ≠ gb513))
                  have n11_ := Aside0.mk ((by rw [hg]; exact Nat.ne_of_lt (blk_lt (by with_reducible repeat first | exact BK521.out | apply bN)) : gb521 ≠ gb520))
                  have n12_ := Aside0.mk ((by rw [hg]; exact Nat.ne_of_gt (blk_lt (by with_reducible repeat first | exact BK521.out | apply bN)) : gb520 ≠ gb521))
                  clear BK512 BK513 BK521 HB
                  have BK512 := n0_
                  have BK513 := n1_
                  have BK521 := n2_
                  have HB := n3_
                  have BK520 := n4_
                  have GW520 := n5_
                  have GE520 := n6_
                  have NB512_520 := n7_
                  have NB520_512 := n8_
                  have NB513_520 := n9_
                  have NB520_513 := n10_
                  have NB521_520 := n11_
                  have NB520_521 := n12_
                  clear n0_ n1_ n2_ n3_ n4_ n5_ n6_ n7_ n8_ n9_ n10_ n11_ n12_ hb hbox hg
                  refine hK.out _ _ (c12t BK512.out ⟨(blk_cell BK513.out 0).trans rfl, (blk_cell BK513.out 1).trans rfl⟩) (fun hHeld => ?_)
                  clear hK K
                  refine norm_ (a' := ?_) ?_ ?_
                  rotate_left
                  ·show Act.put _ (some 9) _ = _
                   simp only [Act.put, List.setIfInBounds_toArray, List.set_cons_zero, List.set_cons_succ, i64_w, i32_w]
                   rfl
                  exact norm_ (by simp only [putAll, Act.put, List.setIfInBounds_toArray, List.set_cons_zero, List.set_cons_succ] <;> rfl) (hJ3_8_9 (gb520, gb521) _ ⟨hHeld, (by with_reducible repeat first | exact BK512.out | apply bN), (by with_reducible repeat first | exact BK513.out | apply bN), (by with_reducible repeat first | exact BK520.out | apply bN), (by with_reducible repeat first | exact BK521.out | apply bN), GW520.out, GE520.out, NB512_520.out, NB520_512.out, NB513_520.out, NB520_513.out, NB521_520.out, NB520_521.out, GW521.out, GE521.out, NB512_521.out, NB521_512.out, NB513_521.out, NB521_513.out, (by repeat (first | (with_reducible first | exact HB.out | apply below_alloc | apply pw_below_drewN | apply below_drew1 | refine below_set ?_ GE512.out | refine below_set ?_ GE513.out | refine below_set ?_ GE521.out | refine below_set ?_ GE520.out) | exact HB.out))⟩)
               ·skip
                rintro gb520 w70 ⟨hS_, h0_, h1_, h2_, h3_, h4_, h5_, h6_, h7_, h8_, h9_⟩
                have n0_ : Aside0 (w70.heap[gb512]? = some (.cells #[.int .i64 a0_0, .int .i64 a0_1, .int .i64 a0_2, .int .i64 a0_3, .int .i64 a0_4, .int .i64 a0_5, .int .i64 a0_6, .int .i64 a0_7, .int .i64 a0_8, .int .i64 a0_9, .int .i64 a0_10, .int .i64 a0_11] 23 (0, 0))) := ⟨h0_⟩
                have n1_ : Aside0 (w70.heap[gb513]? = some (.cells #[.int .i64 a1_0, .int .i64 a1_1] 25 (0, 0))) := ⟨h1_⟩
                have n2_ : Aside0 (w70.heap[gb520]? = some (.cells #[.int .i64 0, .int .i64 0] 25 (0, 0))) := ⟨h2_⟩
                have n3_ : Aside0 (w.heap.size ≤ gb520) := ⟨h3_⟩
                have n4_ : Aside0 (w.heap.size ≤ gb520) := ⟨h4_⟩
                have n5_ : Aside0 (gb512 ≠ gb520) := ⟨h5_⟩
                have n6_ : Aside0 (gb520 ≠ gb512) := ⟨h6_⟩
                have n7_ : Aside0 (gb513 ≠ gb520) := ⟨h7_⟩
                have n8_ : Aside0 (gb520 ≠ gb513) := ⟨h8_⟩
                have n9_ : Aside0 (Below w.heap.size w w70) := ⟨h9_⟩
                clear BK512 BK513 HB h0_ h1_ h2_ h3_ h4_ h5_ h6_ h7_ h8_ h9_
                have BK512 := n0_
                have BK513 := n1_
                have BK520 := n2_
                have GW520 := n3_
                have GE520 := n4_
                have NB512_520 := n5_
                have NB520_512 := n6_
                have NB513_520 := n7_
                have NB520_513 := n8_
                have HB := n9_
                clear n0_ n1_ n2_ n3_ n4_ n5_ n6_ n7_ n8_ n9_
                have hHeld := hS_
                try dsimp only at hHeld
                refine norm_ (a' := ?_) ?_ ?_
                rotate_left
                ·simp only [putAll, Act.put, List.setIfInBounds_toArray, List.set_cons_zero, List.set_cons_succ]
                 rfl
                refine two_ (i := 7) (j := 9) (Ni := some 39) (Nj := some 10) #[true, true, true, true, true, true, true, true, true, false, false, false] #[true, true, true, true, true, true, true, false, true, true, false, false] rfl rfl rfl rfl (two_of HT_.out (by kernel_rfl)) (by decide) (by decide) (fun K hK => ?_) (fun K hK => ?_)
                ·skip
                 refine goes_ Try.func18 (by kernel_rfl) rfl #[.agg #[.int .i64 a0_0, .int .i64 a0_1, .int .i64 a0_2, .int .i64 a0_3, .int .i64 a0_4, .int .i64 a0_5, .int .i64 a0_6, .int .i64 a0_7, .int .i64 a0_8, .int .i64 a0_9, .int .i64 a0_10, .int .i64 a0_11], .agg #[.int .i64 a1_0, .int .i64 a1_1], .int .i64 a2] (by rfl) rfl rfl (by (try simp only [List.map_toArray, List.map_cons, List.map_nil]); first | done | rfl | (simp only [List.length_drop, List.length_take]; rfl)) ?_
                 with_reducible refine (carry_Way.calls k a0_0 a0_1 a0_2 a0_3 a0_4 a0_5 a0_6 a0_7 a0_8 a0_9 a0_10 a0_11 a1_0 a1_1 a2 t518 t519 _ A57.out).mono ?_
                 rintro e w71 ⟨rfl, hb⟩
                 refine ⟨_, rfl, ?_⟩
                 have n0_ := Aside0.mk (blk_below (by with_reducible repeat first | exact BK512.out | apply bN) hb)
                 have n1_ := Aside0.mk (blk_below (by with_reducible repeat first | exact BK513.out | apply bN) hb)
                 have n2_ := Aside0.mk (blk_below (by with_reducible repeat first | exact BK520.out | apply bN) hb)
                 have n3_ := Aside0.mk (below_step (by with_reducible repeat first | exact HB.out | apply pw_below_drewN) hb)
                 clear BK512 BK513 BK520 HB
                 have BK512 := n0_
                 have BK513 := n1_
                 have BK520 := n2_
                 have HB := n3_
                 clear n0_ n1_ n2_ n3_
                 (try clear hb)
                 (try clear hb2)
                 (try clear hk)
                 (try clear hi)
                 refine hK.out _ _ (c12t BK512.out ⟨(blk_cell BK513.out 0).trans rfl, (blk_cell BK513.out 1).trans rfl⟩) (fun hHeld => ?_)
                 clear hK K
                 refine norm_ (a' := ?_) ?_ ?_
                 rotate_left
                 ·show Act.put _ (some 39) _ = _
                  simp only [Act.put, List.setIfInBounds_toArray, List.set_cons_zero, List.set_cons_succ, i64_w, i32_w]
                  rfl
                 exact norm_ (by simp only [putAll, Act.put, List.setIfInBounds_toArray, List.set_cons_zero, List.set_cons_succ] <;> rfl) (hJ3_7_8 (gb520) _ ⟨hHeld, (by with_reducible repeat first | exact BK512.out | apply bN), (by with_reducible repeat first | exact BK513.out | apply bN), (by with_reducible repeat first | exact BK520.out | apply bN), GW520.out, GE520.out, NB512_520.out, NB520_512.out, NB513_520.out, NB520_513.out, (by repeat (first | (with_reducible first | exact HB.out | apply below_alloc | apply pw_below_drewN | apply below_drew1 | refine below_set ?_ GE512.out | refine below_set ?_ GE513.out | refine below_set ?_ GE520.out) | exact HB.out))⟩)
                ·skip
                 refine box_step ?hg (N := 10) ?hd (cs := #[.int .i64 0, .int .i64 0]) (t := 25) ?hr ?_; (case hd => rfl); (case hg => rfl); (case hr => first | (go_simp; done) | (go_simp; rfl))
                 intro gb521 hg w71 hbox hb
                 have n0_ := Aside0.mk (blk_below (by with_reducible repeat first | exact BK512.out | apply bN) hb)
                 have n1_ := Aside0.mk (blk_below (by with_reducible repeat first | exact BK513.out | apply bN) hb)
                 have n2_ := Aside0.mk (blk_below (by with_reducible repeat first | exact BK520.out | apply bN) hb)
                 have n3_ := Aside0.mk (below_step (by with_reducible repeat first | exact HB.out | apply pw_below_drewN) hb)
                 have n4_ := Aside0.mk (hbox)
                 have n5_ := Aside0.mk ((by rw [hg]; exact (below_size (by with_reducible repeat first | exact HB.out | apply pw_below_drewN)) : w.heap.size ≤ gb521))
                 have n6_ := Aside0.mk ((by rw [hg]; exact (below_size (by with_reducible repeat first | exact HB.out | apply pw_below_drewN)) : w.heap.size ≤ gb521))
                 have n7_ := Aside0.mk ((by rw [hg]; exact Nat.ne_of_lt (blk_lt (by with_reducible repeat first | exact BK512.out | apply bN)) : gb512 ≠ gb521))
                 have n8_ := Aside0.mk ((by rw [hg]; exact Nat.ne_of_gt (blk_lt (by with_reducible repeat first | exact BK512.out | apply bN)) : gb521 ≠ gb512))
                 have n9_ := Aside0.mk ((by rw [hg]; exact Nat.ne_of_lt (blk_lt (by with_reducible repeat first | exact BK513.out | apply bN)) : gb513 ≠ gb521))
                 have n10_ := Aside0.mk ((by rw [hg]; exact Nat.ne_of_gt (blk_lt (by with_reducible repeat first | exact BK513.out | apply bN)) : gb521 ≠ gb513))
                 have n11_ := Aside0.mk ((by rw [hg]; exact Nat.ne_of_lt (blk_lt (by with_reducible repeat first | exact BK520.out | apply bN)) : gb520 ≠ gb521))
                 have n12_ := Aside0.mk ((by rw [hg]; exact Nat.ne_of_gt (blk_lt (by with_reducible repeat first | exact BK520.out | apply bN)) : gb521 ≠ gb520))
                 clear BK512 BK513 BK520 HB
                 have BK512 := n0_
                 have BK513 := n1_
                 have BK520 := n2_
                 have HB := n3_
                 have BK521 := n4_
                 have GW521 := n5_
                 have GE521 := n6_
                 have NB512_521 := n7_
                 have NB521_512 := n8_
                 have NB513_521 := n9_
                 have NB521_513 := n10_
                 have NB520_521 := n11_
                 have NB521_520 := n12_
                 clear n0_ n1_ n2_ n3_ n4_ n5_ n6_ n7_ n8_ n9_ n10_ n11_ n12_ hb hbox hg
                 refine hK.out _ _ (c12t BK512.out ⟨(blk_cell BK513.out 0).trans rfl, (blk_cell BK513.out 1).trans rfl⟩) (fun hHeld => ?_)
                 clear hK K
                 refine norm_ (a' := ?_) ?_ ?_
                 rotate_left
                 ·show Act.put _ (some 10) _ = _
                  simp only [Act.put, List.setIfInBounds_toArray, List.set_cons_zero, List.set_cons_succ, i64_w, i32_w]
                  rfl
                 exact norm_ (by simp only [putAll, Act.put, List.setIfInBounds_toArray, List.set_cons_zero, List.set_cons_succ] <;> rfl) (hJ3_8_9 (gb520, gb521) _ ⟨hHeld, (by with_reducible repeat first | exact BK512.out | apply bN), (by with_reducible repeat first | exact BK513.out | apply bN), (by with_reducible repeat first | exact BK520.out | apply bN), (by with_reducible repeat first | exact BK521.out | apply bN), GW520.out, GE520.out, NB512_520.out, NB520_512.out, NB513_520.out, NB520_513.out, NB521_520.out, NB520_521.out, GW521.out, GE521.out, NB512_521.out, NB521_512.out, NB513_521.out, NB521_513.out, (by repeat (first | (with_reducible first | exact HB.out | apply below_alloc | apply pw_below_drewN | apply below_drew1 | refine below_set ?_ GE512.out | refine below_set ?_ GE513.out | refine below_set ?_ GE520.out | refine below_set ?_ GE521.out) | exact HB.out))⟩)
              ·skip
               rintro _ w70 ⟨hS_, h0_, h1_, h2_⟩
               have n0_ : Aside0 (w70.heap[gb512]? = some (.cells #[.int .i64 a0_0, .int .i64 a0_1, .int .i64 a0_2, .int .i64 a0_3, .int .i64 a0_4, .int .i64 a0_5, .int .i64 a0_6, .int .i64 a0_7, .int .i64 a0_8, .int .i64 a0_9, .int .i64 a0_10, .int .i64 a0_11] 23 (0, 0))) := ⟨h0_⟩
               have n1_ : Aside0 (w70.heap[gb513]? = some (.cells #[.int .i64 a1_0, .int .i64 a1_1] 25 (0, 0))) := ⟨h1_⟩
               have n2_ : Aside0 (Below w.heap.size w w70) := ⟨h2_⟩
               clear BK512 BK513 HB h0_ h1_ h2_
               have BK512 := n0_
               have BK513 := n1_
               have HB := n2_
               clear n0_ n1_ n2_
               have hHeld := hS_
               try dsimp only at hHeld
               refine norm_ (a' := ?_) ?_ ?_
               rotate_left
               ·simp only [putAll, Act.put, List.setIfInBounds_toArray, List.set_cons_zero, List.set_cons_succ]
                rfl
               refine two_ (i := 8) (j := 9) (Ni := some 9) (Nj := some 10) #[true, true, true, true, true, true, true, true, true, false, false, false] #[true, true, true, true, true, true, true, true, false, true, false, false] rfl rfl rfl rfl (two_of HT_.out (by kernel_rfl)) (by decide) (by decide) (fun K hK => ?_) (fun K hK => ?_)
               ·skip
                refine box_step ?hg (N := 9) ?hd (cs := #[.int .i64 0, .int .i64 0]) (t := 25) ?hr ?_; (case hd => rfl); (case hg => rfl); (case hr => first | (go_simp; done) | (go_simp; rfl))
                intro gb520 hg w71 hbox hb
                have n0_ := Aside0.mk (blk_below (by with_reducible repeat first | exact BK512.out | apply bN) hb)
                have n1_ := Aside0.mk (blk_below (by with_reducible repeat first | exact BK513.out | apply bN) hb)
                have n2_ := Aside0.mk (below_step (by with_reducible repeat first | exact HB.out | apply pw_below_drewN) hb)
                have n3_ := Aside0.mk (hbox)
                have n4_ := Aside0.mk ((by rw [hg]; exact (below_size (by with_reducible repeat first | exact HB.out | apply pw_below_drewN)) : w.heap.size ≤ gb520))
                have n5_ := Aside0.mk ((by rw [hg]; exact (below_size (by with_reducible repeat first | exact HB.out | apply pw_below_drewN)) : w.heap.size ≤ gb520))
                have n6_ := Aside0.mk ((by rw [hg]; exact Nat.ne_of_lt (blk_lt (by with_reducible repeat first | exact BK512.out | apply bN)) : gb512 ≠ gb520))
                have n7_ := Aside0.mk ((by rw [hg]; exact Nat.ne_of_gt (blk_lt (by with_reducible repeat first | exact BK512.out | apply bN)) : gb520 ≠ gb512))
                have n8_ := Aside0.mk ((by rw [hg]; exact Nat.ne_of_lt (blk_lt (by with_reducible repeat first | exact BK513.out | apply bN)) : gb513 ≠ gb520))
                have n9_ := Aside0.mk ((by rw [hg]; exact Nat.ne_of_gt (blk_lt (by with_reducible repeat first | exact BK513.out | apply bN)) : gb520 ≠ gb513))
                clear BK512 BK513 HB
                have BK512 := n0_
                have BK513 := n1_
                have HB := n2_
                have BK520 := n3_
                have GW520 := n4_
                have GE520 := n5_
                have NB512_520 := n6_
                have NB520_512 := n7_
                have NB513_520 := n8_
                have NB520_513 := n9_
                clear n0_ n1_ n2_ n3_ n4_ n5_ n6_ n7_ n8_ n9_ hb hbox hg
                refine hK.out _ _ (c12t BK512.out ⟨(blk_cell BK513.out 0).trans rfl, (blk_cell BK513.out 1).trans rfl⟩) (fun hHeld => ?_)
                clear hK K
                refine norm_ (a' := ?_) ?_ ?_
                rotate_left
                ·show Act.put _ (some 9) _ = _
                 simp only [Act.put, List.setIfInBounds_toArray, List.set_cons_zero, List.set_cons_succ, i64_w, i32_w]
                 rfl
                exact norm_ (by simp only [putAll, Act.put, List.setIfInBounds_toArray, List.set_cons_zero, List.set_cons_succ] <;> rfl) (hJ3_7_8 (gb520) _ ⟨hHeld, (by with_reducible repeat first | exact BK512.out | apply bN), (by with_reducible repeat first | exact BK513.out | apply bN), (by with_reducible repeat first | exact BK520.out | apply bN), GW520.out, GE520.out, NB512_520.out, NB520_512.out, NB513_520.out, NB520_513.out, (by repeat (first | (with_reducible first | exact HB.out | apply below_alloc | apply pw_below_drewN | apply below_drew1 | refine below_set ?_ GE512.out | refine below_set ?_ GE513.out | refine below_set ?_ GE520.out) | exact HB.out))⟩)
               ·skip
                refine box_step ?hg (N := 10) ?hd (cs := #[.int .i64 0, .int .i64 0]) (t := 25) ?hr ?_; (case hd => rfl); (case hg => rfl); (case hr => first | (go_simp; done) | (go_simp; rfl))
                intro gb521 hg w71 hbox hb
                have n0_ := Aside0.mk (blk_below (by with_reducible repeat first | exact BK512.out | apply bN) hb)
                have n1_ := Aside0.mk (blk_below (by with_reducible repeat first | exact BK513.out | apply bN) hb)
                have n2_ := Aside0.mk (below_step (by with_reducible repeat first | exact HB.out | apply pw_below_drewN) hb)
                have n3_ := Aside0.mk (hbox)
                have n4_ := Aside0.mk ((by rw [hg]; exact (below_size (by with_reducible repeat first | exact HB.out | apply pw_below_drewN)) : w.heap.size ≤ gb521))
                have n5_ := Aside0.mk ((by rw [hg]; exact (below_size (by with_reducible repeat first | exact HB.out | apply pw_below_drewN)) : w.heap.size ≤ gb521))
                have n6_ := Aside0.mk ((by rw [hg]; exact Nat.ne_of_lt (blk_lt (by with_reducible repeat first | exact BK512.out | apply bN)) : gb512 ≠ gb521))
                have n7_ := Aside0.mk ((by rw [hg]; exact Nat.ne_of_gt (blk_lt (by with_reducible repeat first | exact BK512.out | apply bN)) : gb521 ≠ gb512))
                have n8_ := Aside0.mk ((by rw [hg]; exact Nat.ne_of_lt (blk_lt (by with_reducible repeat first | exact BK513.out | apply bN)) : gb513 ≠ gb521))
                have n9_ := Aside0.mk ((by rw [hg]; exact Nat.ne_of_gt (blk_lt (by with_reducible repeat first | exact BK513.out | apply bN)) : gb521 ≠ gb513))
                clear BK512 BK513 HB
                have BK512 := n0_
                have BK513 := n1_
                have HB := n2_
                have BK521 := n3_
                have GW521 := n4_
                have GE521 := n5_
                have NB512_521 := n6_
                have NB521_512 := n7_
                have NB513_521 := n8_
                have NB521_513 := n9_
                clear n0_ n1_ n2_ n3_ n4_ n5_ n6_ n7_ n8_ n9_ hb hbox hg
                refine hK.out _ _ (c12t BK512.out ⟨(blk_cell BK513.out 0).trans rfl, (blk_cell BK513.out 1).trans rfl⟩) (fun hHeld => ?_)
                clear hK K
                refine norm_ (a' := ?_) ?_ ?_
                rotate_left
                ·show Act.put _ (some 10) _ = _
                 simp only [Act.put, List.setIfInBounds_toArray, List.set_cons_zero, List.set_cons_succ, i64_w, i32_w]
                 rfl
                exact norm_ (by simp only [putAll, Act.put, List.setIfInBounds_toArray, List.set_cons_zero, List.set_cons_succ] <;> rfl) (hJ3_7_9 (gb521) _ ⟨hHeld, (by with_reducible repeat first | exact BK512.out | apply bN), (by with_reducible repeat first | exact BK513.out | apply bN), (by with_reducible repeat first | exact BK521.out | apply bN), GW521.out, GE521.out, NB512_521.out, NB521_512.out, NB513_521.out, NB521_513.out, (by repeat (first | (with_reducible first | exact HB.out | apply below_alloc | apply pw_below_drewN | apply below_drew1 | refine below_set ?_ GE512.out | refine below_set ?_ GE513.out | refine below_set ?_ GE521.out) | exact HB.out))⟩)
             ·skip
              rintro ⟨gb520, gb521⟩ w71 ⟨hS_, h0_, h1_, h2_, h3_, h4_, h5_, h6_, h7_, h8_, h9_, h10_, h11_, h12_, h13_, h14_, h15_, h16_, h17_, h18_⟩
              have n0_ : Aside0 (w71.heap[gb512]? = some (.cells #[.int .i64 a0_0, .int .i64 a0_1, .int .i64 a0_2, .int .i64 a0_3, .int .i64 a0_4, .int .i64 a0_5, .int .i64 a0_6, .int .i64 a0_7, .int .i64 a0_8, .int .i64 a0_9, .int .i64 a0_10, .int .i64 a0_11] 23 (0, 0))) := ⟨h0_⟩
              have n1_ : Aside0 (w71.heap[gb513]? = some (.cells #[.int .i64 a1_0, .int .i64 a1_1] 25 (0, 0))) := ⟨h1_⟩
              have n2_ : Aside0 (w71.heap[gb520]? = some (.cells #[.int .i64 0, .int .i64 0] 25 (0, 0))) := ⟨h2_⟩
              have n3_ : Aside0 (w71.heap[gb521]? = some (.cells #[.int .i64 0, .int .i64 0] 25 (0, 0))) := ⟨h3_⟩
              have n4_ : Aside0 (w.heap.size ≤ gb520) := ⟨h4_⟩
              have n5_ : Aside0 (w.heap.size ≤ gb520) := ⟨h5_⟩
              have n6_ : Aside0 (gb512 ≠ gb520) := ⟨h6_⟩
              have n7_ : Aside0 (gb520 ≠ gb512) := ⟨h7_⟩
              have n8_ : Aside0 (gb513 ≠ gb520) := ⟨h8_⟩
              have n9_ : Aside0 (gb520 ≠ gb513) := ⟨h9_⟩
              have n10_ : Aside0 (gb521 ≠ gb520) := ⟨h10_⟩
              have n11_ : Aside0 (gb520 ≠ gb521) := ⟨h11_⟩
              have n12_ : Aside0 (w.heap.size ≤ gb521) := ⟨h12_⟩
              have n13_ : Aside0 (w.heap.size ≤ gb521) := ⟨h13_⟩
              have n14_ : Aside0 (gb512 ≠ gb521) := ⟨h14_⟩
              have n15_ : Aside0 (gb521 ≠ gb512) := ⟨h15_⟩
              have n16_ : Aside0 (gb513 ≠ gb521) := ⟨h16_⟩
              have n17_ : Aside0 (gb521 ≠ gb513) := ⟨h17_⟩
              have n18_ : Aside0 (Below w.heap.size w w71) := ⟨h18_⟩
              clear BK512 BK513 HB h0_ h1_ h2_ h3_ h4_ h5_ h6_ h7_ h8_ h9_ h10_ h11_ h12_ h13_ h14_ h15_ h16_ h17_ h18_
              have BK512 := n0_
              have BK513 := n1_
              have BK520 := n2_
              have BK521 := n3_
              have GW520 := n4_
              have GE520 := n5_
              have NB512_520 := n6_
              have NB520_512 := n7_
              have NB513_520 := n8_
              have NB520_513 := n9_
              have NB521_520 := n10_
              have NB520_521 := n11_
              have GW521 := n12_
              have GE521 := n13_
              have NB512_521 := n14_
              have NB521_512 := n15_
              have NB513_521 := n16_
              have NB521_513 := n17_
              have HB := n18_
              clear n0_ n1_ n2_ n3_ n4_ n5_ n6_ n7_ n8_ n9_ n10_ n11_ n12_ n13_ n14_ n15_ n16_ n17_ n18_
              have hHeld := hS_
              try dsimp only at hHeld
              refine norm_ (a' := ?_) ?_ ?_
              rotate_left
              ·simp only [putAll, Act.put, List.setIfInBounds_toArray, List.set_cons_zero, List.set_cons_succ]
               rfl
              refine one_ (i := 7) (N := some 39) #[true, true, true, true, true, true, true, true, true, true, false, false] rfl rfl (one_of HT_.out (by kernel_rfl)) (by decide) (fun K hK => ?_)
              refine goes_ Try.func18 (by kernel_rfl) rfl #[.agg #[.int .i64 a0_0, .int .i64 a0_1, .int .i64 a0_2, .int .i64 a0_3, .int .i64 a0_4, .int .i64 a0_5, .int .i64 a0_6, .int .i64 a0_7, .int .i64 a0_8, .int .i64 a0_9, .int .i64 a0_10, .int .i64 a0_11], .agg #[.int .i64 a1_0, .int .i64 a1_1], .int .i64 a2] (by rfl) rfl rfl (by (try simp only [List.map_toArray, List.map_cons, List.map_nil]); first | done | rfl | (simp only [List.length_drop, List.length_take]; rfl)) ?_
              with_reducible refine (carry_Way.calls k a0_0 a0_1 a0_2 a0_3 a0_4 a0_5 a0_6 a0_7 a0_8 a0_9 a0_10 a0_11 a1_0 a1_1 a2 t518 t519 _ A57.out).mono ?_
              rintro e w72 ⟨rfl, hb⟩
              refine ⟨_, rfl, ?_⟩
              have n0_ := Aside0.mk (blk_below (by with_reducible repeat first | exact BK512.out | apply bN) hb)
              have n1_ := Aside0.mk (blk_below (by with_reducible repeat first | exact BK513.out | apply bN) hb)
              have n2_ := Aside0.mk (blk_below (by with_reducible repeat first | exact BK520.out | apply bN) hb)
              have n3_ := Aside0.mk (blk_below (by with_reducible repeat first | exact BK521.out | apply bN) hb)
              have n4_ := Aside0.mk (below_step (by with_reducible repeat first | exact HB.out | apply pw_below_drewN) hb)
              clear BK512 BK513 BK520 BK521 HB
              have BK512 := n0_
              have BK513 := n1_
              have BK520 := n2_
              have BK521 := n3_
              have HB := n4_
              clear n0_ n1_ n2_ n3_ n4_
              (try clear hb)
              (try clear hb2)
              (try clear hk)
              (try clear hi)
              refine hK.out _ _ (c12t BK512.out ⟨(blk_cell BK513.out 0).trans rfl, (blk_cell BK513.out 1).trans rfl⟩) (fun hHeld => ?_)
              clear hK K
              refine norm_ (a' := ?_) ?_ ?_
              rotate_left
              ·show Act.put _ (some 39) _ = _
               simp only [Act.put, List.setIfInBounds_toArray, List.set_cons_zero, List.set_cons_succ, i64_w, i32_w]
               rfl
              exact norm_ (by simp only [putAll, Act.put, List.setIfInBounds_toArray, List.set_cons_zero, List.set_cons_succ] <;> rfl) (hJ3_7_8_9 (gb520, gb521) _ ⟨hHeld, (by with_reducible repeat first | exact BK512.out | apply bN), (by with_reducible repeat first | exact BK513.out | apply bN), (by with_reducible repeat first | exact BK520.out | apply bN), (by with_reducible repeat first | exact BK521.out | apply bN), GW520.out, GE520.out, NB512_520.out, NB520_512.out, NB513_520.out, NB520_513.out, NB521_520.out, NB520_521.out, GW521.out, GE521.out, NB512_521.out, NB521_512.out, NB513_521.out, NB521_513.out, (by repeat (first | (with_reducible first | exact HB.out | apply below_alloc | apply pw_below_drewN | apply below_drew1 | refine below_set ?_ GE512.out | refine below_set ?_ GE513.out | refine below_set ?_ GE520.out | refine below_set ?_ GE521.out) | exact HB.out))⟩)
            ·skip
             rintro gb521 w71 ⟨hS_, h0_, h1_, h2_, h3_, h4_, h5_, h6_, h7_, h8_, h9_⟩
             have n0_ : Aside0 (w71.heap[gb512]? = some (.cells #[.int .i64 a0_0, .int .i64 a0_1, .int .i64 a0_2, .int .i64 a0_3, .int .i64 a0_4, .int .i64 a0_5, .int .i64 a0_6, .int .i64 a0_7, .int .i64 a0_8, .int .i64 a0_9, .int .i64 a0_10, .int .i64 a0_11] 23 (0, 0))) := ⟨h0_⟩
             have n1_ : Aside0 (w71.heap[gb513]? = some (.cells #[.int .i64 a1_0, .int .i64 a1_1] 25 (0, 0))) := ⟨h1_⟩
             have n2_ : Aside0 (w71.heap[gb521]? = some (.cells #[.int .i64 0, .int .i64 0] 25 (0, 0))) := ⟨h2_⟩
             have n3_ : Aside0 (w.heap.size ≤ gb521) := ⟨h3_⟩
             have n4_ : Aside0 (w.heap.size ≤ gb521) := ⟨h4_⟩
             have n5_ : Aside0 (gb512 ≠ gb521) := ⟨h5_⟩
             have n6_ : Aside0 (gb521 ≠ gb512) := ⟨h6_⟩
             have n7_ : Aside0 (gb513 ≠ gb521) := ⟨h7_⟩
             have n8_ : Aside0 (gb521 ≠ gb513) := ⟨h8_⟩
             have n9_ : Aside0 (Below w.heap.size w w71) := ⟨h9_⟩
             clear BK512 BK513 HB h0_ h1_ h2_ h3_ h4_ h5_ h6_ h7_ h8_ h9_
             have BK512 := n0_
             have BK513 := n1_
             have BK521 := n2_
             have GW521 := n3_
             have GE521 := n4_
             have NB512_521 := n5_
             have NB521_512 := n6_
             have NB513_521 := n7_
             have NB521_513 := n8_
             have HB := n9_
             clear n0_ n1_ n2_ n3_ n4_ n5_ n6_ n7_ n8_ n9_
             have hHeld := hS_
             try dsimp only at hHeld
             refine norm_ (a' := ?_) ?_ ?_
             rotate_left
             ·simp only [putAll, Act.put, List.setIfInBounds_toArray, List.set_cons_zero, List.set_cons_succ]
              rfl
             refine one_ (i := 8) (N := some 9) #[true, true, true, true, true, true, true, true, true, true, false, false] rfl rfl (one_of HT_.out (by kernel_rfl)) (by decide) (fun K hK => ?_)
             refine box_step ?hg (N := 9) ?hd (cs := #[.int .i64 0, .int .i64 0]) (t := 25) ?hr ?_; (case hd => rfl); (case hg => rfl); (case hr => first | (go_simp; done) | (go_simp; rfl))
             intro gb520 hg w72 hbox hb
             have n0_ := Aside0.mk (blk_below (by with_reducible repeat first | exact BK512.out | apply bN) hb)
             have n1_ := Aside0.mk (blk_below (by with_reducible repeat first | exact BK513.out | apply bN) hb)
             have n2_ := Aside0.mk (blk_below (by with_reducible repeat first | exact BK521.out | apply bN) hb)
             have n3_ := Aside0.mk (below_step (by with_reducible repeat first | exact HB.out | apply pw_below_drewN) hb)
             have n4_ := Aside0.mk (hbox)
             have n5_ := Aside0.mk ((by rw [hg]; exact (below_size (by with_reducible repeat first | exact HB.out | apply pw_below_drewN)) : w.heap.size ≤ gb520))
             have n6_ := Aside0.mk ((by rw [hg]; exact (below_size (by with_reducible repeat first | exact HB.out | apply pw_below_drewN)) : w.heap.size ≤ gb520))
             have n7_ := Aside0.mk ((by rw [hg]; exact Nat.ne_of_lt (blk_lt (by with_reducible repeat first | exact BK512.out | apply bN)) : gb512 ≠ gb520))
             have n8_ := Aside0.mk ((by rw [hg]; exact Nat.ne_of_gt (blk_lt (by with_reducible repeat first | exact BK512.out | apply bN)) : gb520 ≠ gb512))
             have n9_ := Aside0.mk ((by rw [hg]; exact Nat.ne_of_lt (blk_lt (by with_reducible repeat first | exact BK513.out | apply bN)) : gb513 ≠ gb520))
             have n10_ := Aside0.mk ((by rw [hg]; exact Nat.ne_of_gt (blk_lt (by with_reducible repeat first | exact BK513.out | apply bN)) : gb520 ≠ gb513))
             have n11_ := Aside0.mk ((by rw [hg]; exact Nat.ne_of_lt (blk_lt (by with_reducible repeat first | exact BK521.out | apply bN)) : gb521 ≠ gb520))
             have n12_ := Aside0.mk ((by rw [hg]; exact Nat.ne_of_gt (blk_lt (by with_reducible repeat first | exact BK521.out | apply bN)) : gb520 ≠ gb521))
             clear BK512 BK513 BK521 HB
             have BK512 := n0_
             have BK513 := n1_
             have BK521 := n2_
             have HB := n3_
             have BK520 := n4_
             have GW520 := n5_
             have GE520 := n6_
             have NB512_520 := n7_
             have NB520_512 := n8_
             have NB513_520 := n9_
             have NB520_513 := n10_
             have NB521_520 := n11_
             have NB520_521 := n12_
             clear n0_ n1_ n2_ n3_ n4_ n5_ n6_ n7_ n8_ n9_ n10_ n11_ n12_ hb hbox hg
             refine hK.out _ _ (c12t BK512.out ⟨(blk_cell BK513.out 0).trans rfl, (blk_cell BK513.out 1).trans rfl⟩) (fun hHeld => ?_)
             clear hK K
             refine norm_ (a' := ?_) ?_ ?_
             rotate_left
             ·show Act.put _ (some 9) _ = _
              simp only [Act.put, List.setIfInBounds_toArray, List.set_cons_zero, List.set_cons_succ, i64_w, i32_w]
              rfl
             exact norm_ (by simp only [putAll, Act.put, List.setIfInBounds_toArray, List.set_cons_zero, List.set_cons_succ] <;> rfl) (hJ3_7_8_9 (gb520, gb521) _ ⟨hHeld, (by with_reducible repeat first | exact BK512.out | apply bN), (by with_reducible repeat first | exact BK513.out | apply bN), (by with_reducible repeat first | exact BK520.out | apply bN), (by with_reducible repeat first | exact BK521.out | apply bN), GW520.out, GE520.out, NB512_520.out, NB520_512.out, NB513_520.out, NB520_513.out, NB521_520.out, NB520_521.out, GW521.out, GE521.out, NB512_521.out, NB521_512.out, NB513_521.out, NB521_513.out, (by repeat (first | (with_reducible first | exact HB.out | apply below_alloc | apply pw_below_drewN | apply below_drew1 | refine below_set ?_ GE512.out | refine below_set ?_ GE513.out | refine below_set ?_ GE521.out | refine below_set ?_ GE520.out) | exact HB.out))⟩)
           ·skip
            rintro gb520 w71 ⟨hS_, h0_, h1_, h2_, h3_, h4_, h5_, h6_, h7_, h8_, h9_⟩
            have n0_ : Aside0 (w71.heap[gb512]? = some (.cells #[.int .i64 a0_0, .int .i64 a0_1, .int .i64 a0_2, .int .i64 a0_3, .int .i64 a0_4, .int .i64 a0_5, .int .i64 a0_6, .int .i64 a0_7, .int .i64 a0_8, .int .i64 a0_9, .int .i64 a0_10, .int .i64 a0_11] 23 (0, 0))) := ⟨h0_⟩
            have n1_ : Aside0 (w71.heap[gb513]? = some (.cells #[.int .i64 a1_0, .int .i64 a1_1] 25 (0, 0))) := ⟨h1_⟩
            have n2_ : Aside0 (w71.heap[gb520]? = some (.cells #[.int .i64 0, .int .i64 0] 25 (0, 0))) := ⟨h2_⟩
            have n3_ : Aside0 (w.heap.size ≤ gb520) := ⟨h3_⟩
            have n4_ : Aside0 (w.heap.size ≤ gb520) := ⟨h4_⟩
            have n5_ : Aside0 (gb512 ≠ gb520) := ⟨h5_⟩
            have n6_ : Aside0 (gb520 ≠ gb512) := ⟨h6_⟩
            have n7_ : Aside0 (gb513 ≠ gb520) := ⟨h7_⟩
            have n8_ : Aside0 (gb520 ≠ gb513) := ⟨h8_⟩
            have n9_ : Aside0 (Below w.heap.size w w71) := ⟨h9_⟩
            clear BK512 BK513 HB h0_ h1_ h2_ h3_ h4_ h5_ h6_ h7_ h8_ h9_
            have BK512 := n0_
            have BK513 := n1_
            have BK520 := n2_
            have GW520 := n3_
            have GE520 := n4_
            have NB512_520 := n5_
            have NB520_512 := n6_
            have NB513_520 := n7_
            have NB520_513 := n8_
            have HB := n9_
            clear n0_ n1_ n2_ n3_ n4_ n5_ n6_ n7_ n8_ n9_
            have hHeld := hS_
            try dsimp only at hHeld
            refine norm_ (a' := ?_) ?_ ?_
            rotate_left
            ·simp only [putAll, Act.put, List.setIfInBounds_toArray, List.set_cons_zero, List.set_cons_succ]
             rfl
            refine one_ (i := 9) (N := some 10) #[true, true, true, true, true, true, true, true, true, true, false, false] rfl rfl (one_of HT_.out (by kernel_rfl)) (by decide) (fun K hK => ?_)
            refine box_step ?hg (N := 10) ?hd (cs := #[.int .i64 0, .int .i64 0]) (t := 25) ?hr ?_; (case hd => rfl); (case hg => rfl); (case hr => first | (go_simp; done) | (go_simp; rfl))
            intro gb521 hg w72 hbox hb
            have n0_ := Aside0.mk (blk_below (by with_reducible repeat first | exact BK512.out | apply bN) hb)
            have n1_ := Aside0.mk (blk_below (by with_reducible repeat first | exact BK513.out | apply bN) hb)
            have n2_ := Aside0.mk (blk_below (by with_reducible repeat first | exact BK520.out | apply bN) hb)
            have n3_ := Aside0.mk (below_step (by with_reducible repeat first | exact HB.out | apply pw_below_drewN) hb)
            have n4_ := Aside0.mk (hbox)
            have n5_ := Aside0.mk ((by rw [hg]; exact (below_size (by with_reducible repeat first | exact HB.out | apply pw_below_drewN)) : w.heap.size ≤ gb521))
            have n6_ := Aside0.mk ((by rw [hg]; exact (below_size (by with_reducible repeat first | exact HB.out | apply pw_below_drewN)) : w.heap.size ≤ gb521))
            have n7_ := Aside0.mk ((by rw [hg]; exact Nat.ne_of_lt (blk_lt (by with_reducible repeat first | exact BK512.out | apply bN)) : gb512 ≠ gb521))
            have n8_ := Aside0.mk ((by rw [hg]; exact Nat.ne_of_gt (blk_lt (by with_reducible repeat first | exact BK512.out | apply bN)) : gb521 ≠ gb512))
            have n9_ := Aside0.mk ((by rw [hg]; exact Nat.ne_of_lt (blk_lt (by with_reducible repeat first | exact BK513.out | apply bN)) : gb513 ≠ gb521))
            have n10_ := Aside0.mk ((by rw [hg]; exact Nat.ne_of_gt (blk_lt (by with_reducible repeat first | exact BK513.out | apply bN)) : gb521 ≠ gb513))
            have n11_ := Aside0.mk ((by rw [hg]; exact Nat.ne_of_lt (blk_lt (by with_reducible repeat first | exact BK520.out | apply bN)) : gb520 ≠ gb521))
            have n12_ := Aside0.mk ((by rw [hg]; exact Nat.ne_of_gt (blk_lt (by with_reducible repeat first | exact BK520.out | apply bN)) : gb521 ≠ gb520))
            clear BK512 BK513 BK520 HB
            have BK512 := n0_
            have BK513 := n1_
            have BK520 := n2_
            have HB := n3_
            have BK521 := n4_
            have GW521 := n5_
            have GE521 := n6_
            have NB512_521 := n7_
            have NB521_512 := n8_
            have NB513_521 := n9_
            have NB521_513 := n10_
            have NB520_521 := n11_
            have NB521_520 := n12_
            clear n0_ n1_ n2_ n3_ n4_ n5_ n6_ n7_ n8_ n9_ n10_ n11_ n12_ hb hbox hg
            refine hK.out _ _ (c12t BK512.out ⟨(blk_cell BK513.out 0).trans rfl, (blk_cell BK513.out 1).trans rfl⟩) (fun hHeld => ?_)
            clear hK K
            refine norm_ (a' := ?_) ?_ ?_
            rotate_left
            ·show Act.put _ (some 10) _ = _
             simp only [Act.put, List.setIfInBounds_toArray, List.set_cons_zero, List.set_cons_succ, i64_w, i32_w]
             rfl
            exact norm_ (by simp only [putAll, Act.put, List.setIfInBounds_toArray, List.set_cons_zero, List.set_cons_succ] <;> rfl) (hJ3_7_8_9 (gb520, gb521) _ ⟨hHeld, (by with_reducible repeat first | exact BK512.out | apply bN), (by with_reducible repeat first | exact BK513.out | apply bN), (by with_reducible repeat first | exact BK520.out | apply bN), (by with_reducible repeat first | exact BK521.out | apply bN), GW520.out, GE520.out, NB512_520.out, NB520_512.out, NB513_520.out, NB520_513.out, NB521_520.out, NB520_521.out, GW521.out, GE521.out, NB512_521.out, NB521_512.out, NB513_521.out, NB521_513.out, (by repeat (first | (with_reducible first | exact HB.out | apply below_alloc | apply pw_below_drewN | apply below_drew1 | refine below_set ?_ GE512.out | refine below_set ?_ GE513.out | refine below_set ?_ GE520.out | refine below_set ?_ GE521.out) | exact HB.out))⟩)
          rintro ⟨gb520, gb521⟩ w72 ⟨hS_, h0_, h1_, h2_, h3_, h4_, h5_, h6_, h7_, h8_, h9_, h10_, h11_, h12_, h13_, h14_, h15_, h16_, h17_, h18_⟩
          have n0_ : Aside0 (w72.heap[gb512]? = some (.cells #[.int .i64 a0_0, .int .i64 a0_1, .int .i64 a0_2, .int .i64 a0_3, .int .i64 a0_4, .int .i64 a0_5, .int .i64 a0_6, .int .i64 a0_7, .int .i64 a0_8, .int .i64 a0_9, .int .i64 a0_10, .int .i64 a0_11] 23 (0, 0))) := ⟨h0_⟩
          have n1_ : Aside0 (w72.heap[gb513]? = some (.cells #[.int .i64 a1_0, .int .i64 a1_1] 25 (0, 0))) := ⟨h1_⟩
          have n2_ : Aside0 (w72.heap[gb520]? = some (.cells #[.int .i64 0, .int .i64 0] 25 (0, 0))) := ⟨h2_⟩
          have n3_ : Aside0 (w72.heap[gb521]? = some (.cells #[.int .i64 0, .int .i64 0] 25 (0, 0))) := ⟨h3_⟩
          have n4_ : Aside0 (w.heap.size ≤ gb520) := ⟨h4_⟩
          have n5_ : Aside0 (w.heap.size ≤ gb520) := ⟨h5_⟩
          have n6_ : Aside0 (gb512 ≠ gb520) := ⟨h6_⟩
          have n7_ : Aside0 (gb520 ≠ gb512) := ⟨h7_⟩
          have n8_ : Aside0 (gb513 ≠ gb520) := ⟨h8_⟩
          have n9_ : Aside0 (gb520 ≠ gb513) := ⟨h9_⟩
          have n10_ : Aside0 (gb521 ≠ gb520) := ⟨h10_⟩
          have n11_ : Aside0 (gb520 ≠ gb521) := ⟨h11_⟩
          have n12_ : Aside0 (w.heap.size ≤ gb521) := ⟨h12_⟩
          have n13_ : Aside0 (w.heap.size ≤ gb521) := ⟨h13_⟩
          have n14_ : Aside0 (gb512 ≠ gb521) := ⟨h14_⟩
          have n15_ : Aside0 (gb521 ≠ gb512) := ⟨h15_⟩
          have n16_ : Aside0 (gb513 ≠ gb521) := ⟨h16_⟩
          have n17_ : Aside0 (gb521 ≠ gb513) := ⟨h17_⟩
          have n18_ : Aside0 (Below w.heap.size w w72) := ⟨h18_⟩
          clear BK512 BK513 HB h0_ h1_ h2_ h3_ h4_ h5_ h6_ h7_ h8_ h9_ h10_ h11_ h12_ h13_ h14_ h15_ h16_ h17_ h18_
          have BK512 := n0_
          have BK513 := n1_
          have BK520 := n2_
          have BK521 := n3_
          have GW520 := n4_
          have GE520 := n5_
          have NB512_520 := n6_
          have NB520_512 := n7_
          have NB513_520 := n8_
          have NB520_513 := n9_
          have NB521_520 := n10_
          have NB520_521 := n11_
          have GW521 := n12_
          have GE521 := n13_
          have NB512_521 := n14_
          have NB521_512 := n15_
          have NB513_521 := n16_
          have NB521_513 := n17_
          have HB := n18_
          clear n0_ n1_ n2_ n3_ n4_ n5_ n6_ n7_ n8_ n9_ n10_ n11_ n12_ n13_ n14_ n15_ n16_ n17_ n18_
          have hHeld := hS_
          try dsimp only at hHeld
          refine norm_ (a' := ?_) ?_ ?_
          rotate_left
          ·simp only [putAll, Act.put, List.setIfInBounds_toArray, List.set_cons_zero, List.set_cons_succ]
           rfl
          refine one_ (i := 10) (N := none) #[true, true, true, true, true, true, true, true, true, true, true, false] rfl rfl (one_of HT_.out (by kernel_rfl)) (by decide) (fun K hK => ?_)
          have hs73 : w72.cell? ⟨gb520, 0, none⟩ = some (.int .i64 0) := (blk_cell BK520.out 0).trans rfl
          have hfs73 := blk_frozen BK520.out 0
          have hns73_0 := NB512_520.out
          have hns73_1 := NB513_520.out
          have hns73_3 := NB521_520.out
          have hms73_0 := NB520_512.out
          have hms73_1 := NB520_513.out
          have hms73_3 := NB520_521.out
          have hs74 : w72.cell? ⟨gb520, 1, none⟩ = some (.int .i64 0) := (blk_cell BK520.out 1).trans rfl
          have hfs74 := blk_frozen BK520.out 1
          have hns74_0 := NB512_520.out
          have hns74_1 := NB513_520.out
          have hns74_3 := NB521_520.out
          have hms74_0 := NB520_512.out
          have hms74_1 := NB520_513.out
          have hms74_3 := NB520_521.out
          refine skip_ (w1 := ?_) (by rfl) rfl ?_ ?_
          rotate_left
          ·go_simp
           rfl
          refine hK.out _ _ ⟨((cell_far (p := ⟨gb520, _, none⟩) NB512_520.out _).trans (((cell_far (p := ⟨gb520, _, none⟩) NB512_520.out _).trans (hHeld.1)))), ((cell_far (p := ⟨gb520, _, none⟩) NB512_520.out _).trans (((cell_far (p := ⟨gb520, _, none⟩) NB512_520.out _).trans (hHeld.2.1)))), ((cell_far (p := ⟨gb520, _, none⟩) NB512_520.out _).trans (((cell_far (p := ⟨gb520, _, none⟩) NB512_520.out _).trans (hHeld.2.2.1)))), ((cell_far (p := ⟨gb520, _, none⟩) NB512_520.out _).trans (((cell_far (p := ⟨gb520, _, none⟩) NB512_520.out _).trans (hHeld.2.2.2.1)))), ((cell_far (p := ⟨gb520, _, none⟩) NB512_520.out _).trans (((cell_far (p := ⟨gb520, _, none⟩) NB512_520.out _).trans (hHeld.2.2.2.2.1)))), ((cell_far (p := ⟨gb520, _, none⟩) NB512_520.out _).trans (((cell_far (p := ⟨gb520, _, none⟩) NB512_520.out _).trans (hHeld.2.2.2.2.2.1)))), ((cell_far (p := ⟨gb520, _, none⟩) NB512_520.out _).trans (((cell_far (p := ⟨gb520, _, none⟩) NB512_520.out _).trans (hHeld.2.2.2.2.2.2.1)))), ((cell_far (p := ⟨gb520, _, none⟩) NB512_520.out _).trans (((cell_far (p := ⟨gb520, _, none⟩) NB512_520.out _).trans (hHeld.2.2.2.2.2.2.2.1)))), ((cell_far (p := ⟨gb520, _, none⟩) NB512_520.out _).trans (((cell_far (p := ⟨gb520, _, none⟩) NB512_520.out _).trans (hHeld.2.2.2.2.2.2.2.2.1)))), ((cell_far (p := ⟨gb520, _, none⟩) NB512_520.out _).trans (((cell_far (p := ⟨gb520, _, none⟩) NB512_520.out _).trans (hHeld.2.2.2.2.2.2.2.2.2.1)))), ((cell_far (p := ⟨gb520, _, none⟩) NB512_520.out _).trans (((cell_far (p := ⟨gb520, _, none⟩) NB512_520.out _).trans (hHeld.2.2.2.2.2.2.2.2.2.2.1)))), ((cell_far (p := ⟨gb520, _, none⟩) NB512_520.out _).trans (((cell_far (p := ⟨gb520, _, none⟩) NB512_520.out _).trans (hHeld.2.2.2.2.2.2.2.2.2.2.2.1)))), ((cell_far (p := ⟨gb520, _, none⟩) NB513_520.out _).trans (((cell_far (p := ⟨gb520, _, none⟩) NB513_520.out _).trans (hHeld.2.2.2.2.2.2.2.2.2.2.2.2.1)))), ((cell_far (p := ⟨gb520, _, none⟩) NB513_520.out _).trans (((cell_far (p := ⟨gb520, _, none⟩) NB513_520.out _).trans (hHeld.2.2.2.2.2.2.2.2.2.2.2.2.2))))⟩ (fun hHeld => ?_)
          clear hK K
          refine one_ (i := 11) (N := none) #[true, true, true, true, true, true, true, true, true, true, true, true] rfl rfl (one_of HT_.out (by kernel_rfl)) (by decide) (fun K hK => ?_)
          have hs75 : w72.cell? ⟨gb521, 0, none⟩ = some (.int .i64 0) := (blk_cell BK521.out 0).trans rfl
          have hfs75 := blk_frozen BK521.out 0
          have hns75_0 := NB512_521.out
          have hns75_1 := NB513_521.out
          have hns75_2 := NB520_521.out
          have hms75_0 := NB521_512.out
          have hms75_1 := NB521_513.out
          have hms75_2 := NB521_520.out
          have hs76 : w72.cell? ⟨gb521, 1, none⟩ = some (.int .i64 0) := (blk_cell BK521.out 1).trans rfl
          have hfs76 := blk_frozen BK521.out 1
          have hns76_0 := NB512_521.out
          have hns76_1 := NB513_521.out
          have hns76_2 := NB520_521.out
          have hms76_0 := NB521_512.out
          have hms76_1 := NB521_513.out
          have hms76_2 := NB521_520.out
          refine skip_ (w1 := ?_) (by rfl) rfl ?_ ?_
          rotate_left
          ·go_simp
           rfl
          refine hK.out _ _ ⟨((cell_far (p := ⟨gb521, _, none⟩) NB512_521.out _).trans (((cell_far (p := ⟨gb521, _, none⟩) NB512_521.out _).trans (hHeld.1)))), ((cell_far (p := ⟨gb521, _, none⟩) NB512_521.out _).trans (((cell_far (p := ⟨gb521, _, none⟩) NB512_521.out _).trans (hHeld.2.1)))), ((cell_far (p := ⟨gb521, _, none⟩) NB512_521.out _).trans (((cell_far (p := ⟨gb521, _, none⟩) NB512_521.out _).trans (hHeld.2.2.1)))), ((cell_far (p := ⟨gb521, _, none⟩) NB512_521.out _).trans (((cell_far (p := ⟨gb521, _, none⟩) NB512_521.out _).trans (hHeld.2.2.2.1)))), ((cell_far (p := ⟨gb521, _, none⟩) NB512_521.out _).trans (((cell_far (p := ⟨gb521, _, none⟩) NB512_521.out _).trans (hHeld.2.2.2.2.1)))), ((cell_far (p := ⟨gb521, _, none⟩) NB512_521.out _).trans (((cell_far (p := ⟨gb521, _, none⟩) NB512_521.out _).trans (hHeld.2.2.2.2.2.1)))), ((cell_far (p := ⟨gb521, _, none⟩) NB512_521.out _).trans (((cell_far (p := ⟨gb521, _, none⟩) NB512_521.out _).trans (hHeld.2.2.2.2.2.2.1)))), ((cell_far (p := ⟨gb521, _, none⟩) NB512_521.out _).trans (((cell_far (p := ⟨gb521, _, none⟩) NB512_521.out _).trans (hHeld.2.2.2.2.2.2.2.1)))), ((cell_far (p := ⟨gb521, _, none⟩) NB512_521.out _).trans (((cell_far (p := ⟨gb521, _, none⟩) NB512_521.out _).trans (hHeld.2.2.2.2.2.2.2.2.1)))), ((cell_far (p := ⟨gb521, _, none⟩) NB512_521.out _).trans (((cell_far (p := ⟨gb521, _, none⟩) NB512_521.out _).trans (hHeld.2.2.2.2.2.2.2.2.2.1)))), ((cell_far (p := ⟨gb521, _, none⟩) NB512_521.out _).trans (((cell_far (p := ⟨gb521, _, none⟩) NB512_521.out _).trans (hHeld.2.2.2.2.2.2.2.2.2.2.1)))), ((cell_far (p := ⟨gb521, _, none⟩) NB512_521.out _).trans (((cell_far (p := ⟨gb521, _, none⟩) NB512_521.out _).trans (hHeld.2.2.2.2.2.2.2.2.2.2.2.1)))), ((cell_far (p := ⟨gb521, _, none⟩) NB513_521.out _).trans (((cell_far (p := ⟨gb521, _, none⟩) NB513_521.out _).trans (hHeld.2.2.2.2.2.2.2.2.2.2.2.2.1)))), ((cell_far (p := ⟨gb521, _, none⟩) NB513_521.out _).trans (((cell_far (p := ⟨gb521, _, none⟩) NB513_521.out _).trans (hHeld.2.2.2.2.2.2.2.2.2.2.2.2.2))))⟩ (fun hHeld => ?_)
          clear hK K
          refine done_ (done_of HT_.out (by kernel_rfl)) ?_
          try go_wp2
          have n0_ : Aside0 (((((w72.setCell ⟨gb520, 0, none⟩ (.int .i64 t516)).setCell ⟨gb520, 1, none⟩ (.int .i64 t517)).setCell ⟨gb521, 0, none⟩ (.int .i64 t518)).setCell ⟨gb521, 1, none⟩ (.int .i64 t519)).heap[gb512]? = some (.cells #[.int .i64 a0_0, .int .i64 a0_1, .int .i64 a0_2, .int .i64 a0_3, .int .i64 a0_4, .int .i64 a0_5, .int .i64 a0_6, .int .i64 a0_7, .int .i64 a0_8, .int .i64 a0_9, .int .i64 a0_10, .int .i64 a0_11] 23 (0, 0))) := ⟨by (with_reducible repeat (first | refine blk_drewN ?_ _ | refine blk_drew ?_ | refine blk_alloc ?_ _)); refine blk_far ?_ NB512_521.out _; (with_reducible repeat (first | refine blk_drewN ?_ _ | refine blk_drew ?_ | refine blk_alloc ?_ _)); refine blk_far ?_ NB512_521.out _; (with_reducible repeat (first | refine blk_drewN ?_ _ | refine blk_drew ?_ | refine blk_alloc ?_ _)); refine blk_far ?_ NB512_520.out _; (with_reducible repeat (first | refine blk_drewN ?_ _ | refine blk_drew ?_ | refine blk_alloc ?_ _)); refine blk_far ?_ NB512_520.out _; (with_reducible repeat (first | refine blk_drewN ?_ _ | refine blk_drew ?_ | refine blk_alloc ?_ _)); exact BK512.out⟩
          have n1_ : Aside0 (((((w72.setCell ⟨gb520, 0, none⟩ (.int .i64 t516)).setCell ⟨gb520, 1, none⟩ (.int .i64 t517)).setCell ⟨gb521, 0, none⟩ (.int .i64 t518)).setCell ⟨gb521, 1, none⟩ (.int .i64 t519)).heap[gb513]? = some (.cells #[.int .i64 a1_0, .int .i64 a1_1] 25 (0, 0))) := ⟨by (with_reducible repeat (first | refine blk_drewN ?_ _ | refine blk_drew ?_ | refine blk_alloc ?_ _)); refine blk_far ?_ NB513_521.out _; (with_reducible repeat (first | refine blk_drewN ?_ _ | refine blk_drew ?_ | refine blk_alloc ?_ _)); refine blk_far ?_ NB513_521.out _; (with_reducible repeat (first | refine blk_drewN ?_ _ | refine blk_drew ?_ | refine blk_alloc ?_ _)); refine blk_far ?_ NB513_520.out _; (with_reducible repeat (first | refine blk_drewN ?_ _ | refine blk_drew ?_ | refine blk_alloc ?_ _)); refine blk_far ?_ NB513_520.out _; (with_reducible repeat (first | refine blk_drewN ?_ _ | refine blk_drew ?_ | refine blk_alloc ?_ _)); exact BK513.out⟩
          have n2_ : Aside0 (((((w72.setCell ⟨gb520, 0, none⟩ (.int .i64 t516)).setCell ⟨gb520, 1, none⟩ (.int .i64 t517)).setCell ⟨gb521, 0, none⟩ (.int .i64 t518)).setCell ⟨gb521, 1, none⟩ (.int .i64 t519)).heap[gb520]? = some (.cells #[.int .i64 t516, .int .i64 t517] 25 (0, 0))) := ⟨by (with_reducible repeat (first | refine blk_drewN ?_ _ | refine blk_drew ?_ | refine blk_alloc ?_ _)); refine blk_far ?_ NB520_521.out _; (with_reducible repeat (first | refine blk_drewN ?_ _ | refine blk_drew ?_ | refine blk_alloc ?_ _)); refine blk_far ?_ NB520_521.out _; (with_reducible repeat (first | refine blk_drewN ?_ _ | refine blk_drew ?_ | refine blk_alloc ?_ _)); refine blk_put (cs := #[.int .i64 t516, .int .i64 0]) ?_ 1 _ rfl; (with_reducible repeat (first | refine blk_drewN ?_ _ | refine blk_drew ?_ | refine blk_alloc ?_ _)); refine blk_put (cs := #[.int .i64 0, .int .i64 0]) ?_ 0 _ rfl; (with_reducible repeat (first | refine blk_drewN ?_ _ | refine blk_drew ?_ | refine blk_alloc ?_ _)); exact BK520.out⟩
          have n3_ : Aside0 (((((w72.setCell ⟨gb520, 0, none⟩ (.int .i64 t516)).setCell ⟨gb520, 1, none⟩ (.int .i64 t517)).setCell ⟨gb521, 0, none⟩ (.int .i64 t518)).setCell ⟨gb521, 1, none⟩ (.int .i64 t519)).heap[gb521]? = some (.cells #[.int .i64 t518, .int .i64 t519] 25 (0, 0))) := ⟨by (with_reducible repeat (first | refine blk_drewN ?_ _ | refine blk_drew ?_ | refine blk_alloc ?_ _)); refine blk_put (cs := #[.int .i64 t518, .int .i64 0]) ?_ 1 _ rfl; (with_reducible repeat (first | refine blk_drewN ?_ _ | refine blk_drew ?_ | refine blk_alloc ?_ _)); refine blk_put (cs := #[.int .i64 0, .int .i64 0]) ?_ 0 _ rfl; (with_reducible repeat (first | refine blk_drewN ?_ _ | refine blk_drew ?_ | refine blk_alloc ?_ _)); refine blk_far ?_ NB521_520.out _; (with_reducible repeat (first | refine blk_drewN ?_ _ | refine blk_drew ?_ | refine blk_alloc ?_ _)); refine blk_far ?_ NB521_520.out _; (with_reducible repeat (first | refine blk_drewN ?_ _ | refine blk_drew ?_ | refine blk_alloc ?_ _)); exact BK521.out⟩
          have n4_ : Aside0 (Below w.heap.size w ((((w72.setCell ⟨gb520, 0, none⟩ (.int .i64 t516)).setCell ⟨gb520, 1, none⟩ (.int .i64 t517)).setCell ⟨gb521, 0, none⟩ (.int .i64 t518)).setCell ⟨gb521, 1, none⟩ (.int .i64 t519))) := ⟨by repeat (first | (with_reducible first | exact HB.out | apply below_alloc | apply pw_below_drewN | apply below_drew1 | refine below_set ?_ GE512.out | refine below_set ?_ GE513.out | refine below_set ?_ GE520.out | refine below_set ?_ GE521.out) | exact HB.out)⟩
          (try clear BK512)
          (try clear BK513)
          (try clear BK520)
          (try clear BK521)
          (try clear HB)
          generalize ((((w72.setCell ⟨gb520, 0, none⟩ (.int .i64 t516)).setCell ⟨gb520, 1, none⟩ (.int .i64 t517)).setCell ⟨gb521, 0, none⟩ (.int .i64 t518)).setCell ⟨gb521, 1, none⟩ (.int .i64 t519)) = w77 at n0_ n1_ n2_ n3_ n4_ ⊢
          have BK512 := n0_
          have BK513 := n1_
          have BK520 := n2_
          have BK521 := n3_
          have HB := n4_
          clear n0_ n1_ n2_ n3_ n4_
          have n0_ := Aside0.mk (blk_drew BK512.out)
          have n1_ := Aside0.mk (blk_drew BK513.out)
          have n2_ := Aside0.mk (blk_drew BK520.out)
          have n3_ := Aside0.mk (blk_drew BK521.out)
          have n4_ := Aside0.mk (below_drew1 HB.out)
          clear BK512 BK513 BK520 BK521 HB
          have BK512 := n0_
          have BK513 := n1_
          have BK520 := n2_
          have BK521 := n3_
          have HB := n4_
          clear n0_ n1_ n2_ n3_ n4_
          refine start_ (n := 32) (S := fun w' => w'.cell? ⟨gb520, 0, none⟩ = some (.int .i64 t516) ∧ w'.cell? ⟨gb520, 1, none⟩ = some (.int .i64 t517) ∧ w'.cell? ⟨gb513, 0, none⟩ = some (.int .i64 a1_0) ∧ w'.cell? ⟨gb513, 1, none⟩ = some (.int .i64 a1_1) ∧ w'.cell? ⟨gb512, 0, none⟩ = some (.int .i64 a0_0) ∧ w'.cell? ⟨gb512, 1, none⟩ = some (.int .i64 a0_1) ∧ w'.cell? ⟨gb512, 2, none⟩ = some (.int .i64 a0_2) ∧ w'.cell? ⟨gb512, 3, none⟩ = some (.int .i64 a0_3) ∧ w'.cell? ⟨gb512, 4, none⟩ = some (.int .i64 a0_4) ∧ w'.cell? ⟨gb512, 5, none⟩ = some (.int .i64 a0_5) ∧ w'.cell? ⟨gb512, 6, none⟩ = some (.int .i64 a0_6) ∧ w'.cell? ⟨gb512, 7, none⟩ = some (.int .i64 a0_7) ∧ w'.cell? ⟨gb512, 8, none⟩ = some (.int .i64 a0_8) ∧ w'.cell? ⟨gb512, 9, none⟩ = some (.int .i64 a0_9) ∧ w'.cell? ⟨gb512, 10, none⟩ = some (.int .i64 a0_10) ∧ w'.cell? ⟨gb512, 11, none⟩ = some (.int .i64 a0_11) ∧ w'.cell? ⟨gb521, 0, none⟩ = some (.int .i64 t518) ∧ w'.cell? ⟨gb521, 1, none⟩ = some (.int .i64 t519)) (ds := []) #[false, false, false, false, false, false, false, false, false, false, false, false, false, false, false, false, false, false, false, false, false, false, false, false, false, false, false, false, false, false, false, false] (by kernel_rfl) rfl rfl ⟨(blk_cell BK520.out 0).trans rfl, (blk_cell BK520.out 1).trans rfl, (blk_cell BK513.out 0).trans rfl, (blk_cell BK513.out 1).trans rfl, c12t BK512.out ⟨(blk_cell BK521.out 0).trans rfl, (blk_cell BK521.out 1).trans rfl⟩⟩ (fun hHeld => ?_); refine with_tabW clepsydralaw11_CarryWidens.tab12 clepsydralaw11_CarryWidens.bits12 (fun HT_ HW_ => ?_)
          generalize w77.drew = w78 at BK512 BK513 BK520 BK521 HB hHeld ⊢
          refine pure_ (i := 0) (N := some 40) (v := ?_) (a' := ?_) #[true, false, false, false, false, false, false, false, false, false, false, false, false, false, false, false, false, false, false, false, false, false, false, false, false, false, false, false, false, false, false, false] rfl rfl (any_of HT_.out (by kernel_rfl)) (fun _ _ _ h => h) (Or.inl ⟨by rfl, ?_⟩) ?_ ?_
          rotate_left
          ·intro w'
           go_simp
           with_reducible rfl
          rotate_left
          ·simp only [Act.put, List.setIfInBounds_toArray, List.set_cons_zero, List.set_cons_succ, i64_w, i32_w]
           rfl
          refine pure_ (i := 2) (N := some 42) (v := ?_) (a' := ?_) #[true, false, true, false, false, false, false, false, false, false, false, false, false, false, false, false, false, false, false, false, false, false, false, false, false, false, false, false, false, false, false, false] rfl rfl (any_of HT_.out (by kernel_rfl)) (fun _ _ _ h => h) (Or.inl ⟨by rfl, ?_⟩) ?_ ?_
          rotate_left
          ·intro w'
           go_simp
           with_reducible rfl
          rotate_left
          ·simp only [Act.put, List.setIfInBounds_toArray, List.set_cons_zero, List.set_cons_succ, i64_w, i32_w]
           rfl
          refine pure_ (i := 5) (N := some 45) (v := ?_) (a' := ?_) #[true, false, true, false, false, true, false, false, false, false, false, false, false, false, false, false, false, false, false, false, false, false, false, false, false, false, false, false, false, false, false, false] rfl rfl (any_of HT_.out (by kernel_rfl)) (fun _ _ _ h => h) (Or.inl ⟨by rfl, ?_⟩) ?_ ?_
          rotate_left
          ·intro w'
           go_simp
           with_reducible rfl
          rotate_left
          ·simp only [Act.put, List.setIfInBounds_toArray, List.set_cons_zero, List.set_cons_succ, i64_w, i32_w]
           rfl
          refine pure_ (i := 7) (N := some 47) (v := ?_) (a' := ?_) #[true, false, true, false, false, true, false, true, false, false, false, false, false, false, false, false, false, false, false, false, false, false, false, false, false, false, false, false, false, false, false, false] rfl rfl (any_of HT_.out (by kernel_rfl)) (fun _ _ _ h => h) (Or.inl ⟨by rfl, ?_⟩) ?_ ?_
          rotate_left
          ·intro w'
           go_simp
           with_reducible rfl
          rotate_left
          ·simp only [Act.put, List.setIfInBounds_toArray, List.set_cons_zero, List.set_cons_succ, i64_w, i32_w]
           rfl
          refine pure_ (i := 10) (N := some 50) (v := ?_) (a' := ?_) #[true, false, true, false, false, true, false, true, false, false, true, false, false, false, false, false, false, false, false, false, false, false, false, false, false, false, false, false, false, false, false, false] rfl rfl (any_of HT_.out (by kernel_rfl)) (fun _ _ _ h => h) (Or.inl ⟨by rfl, ?_⟩) ?_ ?_
          rotate_left
          ·intro w'
           go_simp
           with_reducible rfl
          rotate_left
          ·simp only [Act.put, List.setIfInBounds_toArray, List.set_cons_zero, List.set_cons_succ, i64_w, i32_w]
           rfl
          refine take_ (i := 1) (N := some 41) (v := ?_) (a' := ?_) #[true, true, true, false, false, true, false, true, false, false, true, false, false, false, false, false, false, false, false, false, false, false, false, false, false, false, false, false, false, false, false, false] rfl rfl (take_ofW HT_.out HW_.out (by kernel_rfl)) (fun _ _ _ h => h) (Or.inl ⟨by rfl, ?_⟩) hHeld ?_ ?_
          rotate_left
          ·rintro w' ⟨s0, s1, s2, s3, s4, s5, s6, s7, s8, s9, s10, s11, s12, s13, s14, s15, s16, s17⟩
           go_simp
           with_reducible rfl
          rotate_left
          ·simp only [Act.put, List.setIfInBounds_toArray, List.set_cons_zero, List.set_cons_succ, i64_w, i32_w]
           rfl
          refine take_ (i := 3) (N := some 43) (v := ?_) (a' := ?_) #[true, true, true, true, false, true, false, true, false, false, true, false, false, false, false, false, false, false, false, false, false, false, false, false, false, false, false, false, false, false, false, false] rfl rfl (take_ofW HT_.out HW_.out (by kernel_rfl)) (fun _ _ _ h => h) (Or.inl ⟨by rfl, ?_⟩) hHeld ?_ ?_
          rotate_left
          ·rintro w' ⟨s0, s1, s2, s3, s4, s5, s6, s7, s8, s9, s10, s11, s12, s13, s14, s15, s16, s17⟩
           go_simp
           with_reducible rfl
          rotate_left
          ·simp only [Act.put, List.setIfInBounds_toArray, List.set_cons_zero, List.set_cons_succ, i64_w, i32_w]
           rfl
          refine pure_ (i := 4) (N := some 44) (v := ?_) (a' := ?_) #[true, true, true, true, true, true, false, true, false, false, true, false, false, false, false, false, false, false, false, false, false, false, false, false, false, false, false, false, false, false, false, false] rfl rfl (any_of HT_.out (by kernel_rfl)) (fun _ _ _ h => h) (Or.inl ⟨by rfl, ?_⟩) ?_ ?_
          rotate_left
          ·intro w'
           go_simp
           with_reducible rfl
          rotate_left
          ·simp only [Act.put, List.setIfInBounds_toArray, List.set_cons_zero, List.set_cons_succ, i64_w, i32_w]
           rfl
          refine take_ (i := 6) (N := some 46) (v := ?_) (a' := ?_) #[true, true, true, true, true, true, true, true, false, false, true, false, false, false, false, false, false, false, false, false, false, false, false, false, false, false, false, false, false, false, false, false] rfl rfl (take_ofW HT_.out HW_.out (by kernel_rfl)) (fun _ _ _ h => h) (Or.inl ⟨by rfl, ?_⟩) hHeld ?_ ?_
          rotate_left
          ·rintro w' ⟨s0, s1, s2, s3, s4, s5, s6, s7, s8, s9, s10, s11, s12, s13, s14, s15, s16, s17⟩
           go_simp
           with_reducible rfl
          rotate_left
          ·simp only [Act.put, List.setIfInBounds_toArray, List.set_cons_zero, List.set_cons_succ, i64_w, i32_w]
           rfl
          refine take_ (i := 8) (N := some 48) (v := ?_) (a' := ?_) #[true, true, true, true, true, true, true, true, true, false, true, false, false, false, false, false, false, false, false, false, false, false, false, false, false, false, false, false, false, false, false, false] rfl rfl (take_ofW HT_.out HW_.out (by kernel_rfl)) (fun _ _ _ h => h) (Or.inl ⟨by rfl, ?_⟩) hHeld ?_ ?_
          rotate_left
          ·rintro w' ⟨s0, s1, s2, s3, s4, s5, s6, s7, s8, s9, s10, s11, s12, s13, s14, s15, s16, s17⟩
           go_simp
           with_reducible rfl
          rotate_left
          ·simp only [Act.put, List.setIfInBounds_toArray, List.set_cons_zero, List.set_cons_succ, i64_w, i32_w]
           rfl
          refine pure_ (i := 9) (N := some 49) (v := ?_) (a' := ?_) #[true, true, true, true, true, true, true, true, true, true, true, false, false, false, false, false, false, false, false, false, false, false, false, false, false, false, false, false, false, false, false, false] rfl rfl (any_of HT_.out (by kernel_rfl)) (fun _ _ _ h => h) (Or.inl ⟨by rfl, ?_⟩) ?_ ?_
          rotate_left
          ·intro w'
           go_simp
           with_reducible rfl
          rotate_left
          ·simp only [Act.put, List.setIfInBounds_toArray, List.set_cons_zero, List.set_cons_succ, i64_w, i32_w]
           rfl
          refine take_ (i := 11) (N := some 51) (v := ?_) (a' := ?_) #[true, true, true, true, true, true, true, true, true, true, true, true, false, false, false, false, false, false, false, false, false, false, false, false, false, false, false, false, false, false, false, false] rfl rfl (take_ofW HT_.out HW_.out (by kernel_rfl)) (fun _ _ _ h => h) (Or.inl ⟨by rfl, ?_⟩) hHeld ?_ ?_
          rotate_left
          ·rintro w' ⟨s0, s1, s2, s3, s4, s5, s6, s7, s8, s9, s10, s11, s12, s13, s14, s15, s16, s17⟩
           go_simp
           with_reducible rfl
          rotate_left
          ·simp only [Act.put, List.setIfInBounds_toArray, List.set_cons_zero, List.set_cons_succ, i64_w, i32_w]
           rfl
          refine pure_ (i := 12) (N := some 52) (v := ?_) (a' := ?_) #[true, true, true, true, true, true, true, true, true, true, true, true, true, false, false, false, false, false, false, false, false, false, false, false, false, false, false, false, false, false, false, false] rfl rfl (any_of HT_.out (by kernel_rfl)) (fun _ _ _ h => h) (Or.inl ⟨by rfl, ?_⟩) ?_ ?_
          rotate_left
          ·intro w'
           go_simp
           with_reducible rfl
          rotate_left
          ·simp only [Act.put, List.setIfInBounds_toArray, List.set_cons_zero, List.set_cons_succ, i64_w, i32_w]
           rfl
          refine pure_ (i := 13) (N := some 53) (v := ?_) (a' := ?_) #[true, true, true, true, true, true, true, true, true, true, true, true, true, true, false, false, false, false, false, false, false, false, false, false, false, false, false, false, false, false, false, false] rfl rfl (any_of HT_.out (by kernel_rfl)) (fun _ _ _ h => h) (Or.inl ⟨by rfl, ?_⟩) ?_ ?_
          rotate_left
          ·intro w'
           go_simp
           with_reducible rfl
          rotate_left
          ·simp only [Act.put, List.setIfInBounds_toArray, List.set_cons_zero, List.set_cons_succ, i64_w, i32_w]
           rfl
          refine pure_ (i := 14) (N := some 54) (v := ?_) (a' := ?_) #[true, true, true, true, true, true, true, true, true, true, true, true, true, true, true, false, false, false, false, false, false, false, false, false, false, false, false, false, false, false, false, false] rfl rfl (any_of HT_.out (by kernel_rfl)) (fun _ _ _ h => h) (Or.inl ⟨by rfl, ?_⟩) ?_ ?_
          rotate_left
          ·intro w'
           go_simp
           with_reducible rfl
          rotate_left
          ·simp only [Act.put, List.setIfInBounds_toArray, List.set_cons_zero, List.set_cons_succ, i64_w, i32_w]
           rfl
          refine pure_ (i := 15) (N := some 55) (v := ?_) (a' := ?_) #[true, true, true, true, true, true, true, true, true, true, true, true, true, true, true, true, false, false, false, false, false, false, false, false, false, false, false, false, false, false, false, false] rfl rfl (any_of HT_.out (by kernel_rfl)) (fun _ _ _ h => h) (Or.inl ⟨by rfl, ?_⟩) ?_ ?_
          rotate_left
          ·intro w'
           go_simp
           with_reducible rfl
          rotate_left
          ·simp only [Act.put, List.setIfInBounds_toArray, List.set_cons_zero, List.set_cons_succ, i64_w, i32_w]
           rfl
          refine pure_ (i := 16) (N := some 56) (v := ?_) (a' := ?_) #[true, true, true, true, true, true, true, true, true, true, true, true, true, true, true, true, true, false, false, false, false, false, false, false, false, false, false, false, false, false, false, false] rfl rfl (any_of HT_.out (by kernel_rfl)) (fun _ _ _ h => h) (Or.inl ⟨by rfl, ?_⟩) ?_ ?_
          rotate_left
          ·intro w'
           go_simp
           with_reducible rfl
          rotate_left
          ·simp only [Act.put, List.setIfInBounds_toArray, List.set_cons_zero, List.set_cons_succ, i64_w, i32_w]
           rfl
          refine pure_ (i := 18) (N := some 58) (v := ?_) (a' := ?_) #[true, true, true, true, true, true, true, true, true, true, true, true, true, true, true, true, true, false, true, false, false, false, false, false, false, false, false, false, false, false, false, false] rfl rfl (any_of HT_.out (by kernel_rfl)) (fun _ _ _ h => h) (Or.inl ⟨by rfl, ?_⟩) ?_ ?_
          rotate_left
          ·intro w'
           go_simp
           with_reducible rfl
          rotate_left
          ·simp only [Act.put, List.setIfInBounds_toArray, List.set_cons_zero, List.set_cons_succ, i64_w, i32_w]
           rfl
          refine pure_ (i := 21) (N := some 61) (v := ?_) (a' := ?_) #[true, true, true, true, true, true, true, true, true, true, true, true, true, true, true, true, true, false, true, false, false, true, false, false, false, false, false, false, false, false, false, false] rfl rfl (any_of HT_.out (by kernel_rfl)) (fun _ _ _ h => h) (Or.inl ⟨by rfl, ?_⟩) ?_ ?_
          rotate_left
          ·intro w'
           go_simp
           with_reducible rfl
          rotate_left
          ·simp only [Act.put, List.setIfInBounds_toArray, List.set_cons_zero, List.set_cons_succ, i64_w, i32_w]
           rfl
          refine pure_ (i := 23) (N := some 63) (v := ?_) (a' := ?_) #[true, true, true, true, true, true, true, true, true, true, true, true, true, true, true, true, true, false, true, false, false, true, false, true, false, false, false, false, false, false, false, false] rfl rfl (any_of HT_.out (by kernel_rfl)) (fun _ _ _ h => h) (Or.inl ⟨by rfl, ?_⟩) ?_ ?_
          rotate_left
          ·intro w'
           go_simp
           with_reducible rfl
          rotate_left
          ·simp only [Act.put, List.setIfInBounds_toArray, List.set_cons_zero, List.set_cons_succ, i64_w, i32_w]
           rfl
          refine take_ (i := 17) (N := some 57) (v := ?_) (a' := ?_) #[true, true, true, true, true, true, true, true, true, true, true, true, true, true, true, true, true, true, true, false, false, true, false, true, false, false, false, false, false, false, false, false] rfl rfl (take_ofW HT_.out HW_.out (by kernel_rfl)) (fun _ _ _ h => h) (Or.inl ⟨by rfl, ?_⟩) hHeld ?_ ?_
          rotate_left
          ·rintro w' ⟨s0, s1, s2, s3, s4, s5, s6, s7, s8, s9, s10, s11, s12, s13, s14, s15, s16, s17⟩
           go_simp
           with_reducible rfl
          rotate_left
          ·simp only [Act.put, List.setIfInBounds_toArray, List.set_cons_zero, List.set_cons_succ, i64_w, i32_w]
           rfl
          refine take_ (i := 19) (N := some 59) (v := ?_) (a' := ?_) #[true, true, true, true, true, true, true, true, true, true, true, true, true, true, true, true, true, true, true, true, false, true, false, true, false, false, false, false, false, false, false, false] rfl rfl (take_ofW HT_.out HW_.out (by kernel_rfl)) (fun _ _ _ h => h) (Or.inl ⟨by rfl, ?_⟩) hHeld ?_ ?_
          rotate_left
          ·rintro w' ⟨s0, s1, s2, s3, s4, s5, s6, s7, s8, s9, s10, s11, s12, s13, s14, s15, s16, s17⟩
           go_simp
           with_reducible rfl
          rotate_left
          ·simp only [Act.put, List.setIfInBounds_toArray, List.set_cons_zero, List.set_cons_succ, i64_w, i32_w]
           rfl
          refine pure_ (i := 20) (N := some 60) (v := ?_) (a' := ?_) #[true, true, true, true, true, true, true, true, true, true, true, true, true, true, true, true, true, true, true, true, true, true, false, true, false, false, false, false, false, false, false, false] rfl rfl (any_of HT_.out (by kernel_rfl)) (fun _ _ _ h => h) (Or.inl ⟨by rfl, ?_⟩) ?_ ?_
          rotate_left
          ·intro w'
           go_simp
           with_reducible rfl
          rotate_left
          ·simp only [Act.put, List.setIfInBounds_toArray, List.set_cons_zero, List.set_cons_succ, i64_w, i32_w]
           rfl
          refine take_ (i := 22) (N := some 62) (v := ?_) (a' := ?_) #[true, true, true, true, true, true, true, true, true, true, true, true, true, true, true, true, true, true, true, true, true, true, true, true, false, false, false, false, false, false, false, false] rfl rfl (take_ofW HT_.out HW_.out (by kernel_rfl)) (fun _ _ _ h => h) (Or.inl ⟨by rfl, ?_⟩) hHeld ?_ ?_
          rotate_left
          ·rintro w' ⟨s0, s1, s2, s3, s4, s5, s6, s7, s8, s9, s10, s11, s12, s13, s14, s15, s16, s17⟩
           go_simp
           with_reducible rfl
          rotate_left
          ·simp only [Act.put, List.setIfInBounds_toArray, List.set_cons_zero, List.set_cons_succ, i64_w, i32_w]
           rfl
          refine take_ (i := 24) (N := some 64) (v := ?_) (a' := ?_) #[true, true, true, true, true, true, true, true, true, true, true, true, true, true, true, true, true, true, true, true, true, true, true, true, true, false, false, false, false, false, false, false] rfl rfl (take_ofW HT_.out HW_.out (by kernel_rfl)) (fun _ _ _ h => h) (Or.inl ⟨by rfl, ?_⟩) hHeld ?_ ?_
          rotate_left
          ·rintro w' ⟨s0, s1, s2, s3, s4, s5, s6, s7, s8, s9, s10, s11, s12, s13, s14, s15, s16, s17⟩
           go_simp
           with_reducible rfl
          rotate_left
          ·simp only [Act.put, List.setIfInBounds_toArray, List.set_cons_zero, List.set_cons_succ, i64_w, i32_w]
           rfl
          refine pure_ (i := 25) (N := some 65) (v := ?_) (a' := ?_) #[true, true, true, true, true, true, true, true, true, true, true, true, true, true, true, true, true, true, true, true, true, true, true, true, true, true, false, false, false, false, false, false] rfl rfl (any_of HT_.out (by kernel_rfl)) (fun _ _ _ h => h) (Or.inl ⟨by rfl, ?_⟩) ?_ ?_
          rotate_left
          ·intro w'
           go_simp
           with_reducible rfl
          rotate_left
          ·simp only [Act.put, List.setIfInBounds_toArray, List.set_cons_zero, List.set_cons_succ, i64_w, i32_w]
           rfl
          refine take_ (i := 26) (N := some 66) (v := ?_) (a' := ?_) #[true, true, true, true, true, true, true, true, true, true, true, true, true, true, true, true, true, true, true, true, true, true, true, true, true, true, true, false, false, false, false, false] rfl rfl (take_ofW HT_.out HW_.out (by kernel_rfl)) (fun _ _ _ h => h) (Or.inl ⟨by rfl, ?_⟩) hHeld ?_ ?_
          rotate_left
          ·rintro w' ⟨s0, s1, s2, s3, s4, s5, s6, s7, s8, s9, s10, s11, s12, s13, s14, s15, s16, s17⟩
           go_simp
           with_reducible rfl
          rotate_left
          ·simp only [Act.put, List.setIfInBounds_toArray, List.set_cons_zero, List.set_cons_succ, i64_w, i32_w]
           rfl
          refine one_ (i := 27) (N := some 67) #[true, true, true, true, true, true, true, true, true, true, true, true, true, true, true, true, true, true, true, true, true, true, true, true, true, true, true, true, false, false, false, false] rfl rfl (one_of HT_.out (by kernel_rfl)) (by decide) (fun K hK => ?_)
          refine goes_ Try.func35 (by kernel_rfl) rfl #[.agg #[.int .i64 a0_0, .int .i64 a0_1, .int .i64 a0_2, .int .i64 a0_3, .int .i64 a0_4, .int .i64 a0_5, .int .i64 a0_6, .int .i64 a0_7, .int .i64 a0_8, .int .i64 a0_9, .int .i64 a0_10, .int .i64 a0_11]] (by rfl) rfl rfl (by (try simp only [List.map_toArray, List.map_cons, List.map_nil]); first | done | rfl | (simp only [List.length_drop, List.length_take]; rfl)) ?_
          with_reducible refine (limit_Hop.calls k a0_0 a0_1 a0_2 a0_3 a0_4 a0_5 a0_6 a0_7 a0_8 a0_9 a0_10 a0_11 t522 _ A59.out).mono ?_
          rintro e w79 ⟨rfl, hb⟩
          refine ⟨_, rfl, ?_⟩
          have n0_ := Aside0.mk (blk_below (by with_reducible repeat first | exact BK512.out | apply bN) hb)
          have n1_ := Aside0.mk (blk_below (by with_reducible repeat first | exact BK513.out | apply bN) hb)
          have n2_ := Aside0.mk (blk_below (by with_reducible repeat first | exact BK520.out | apply bN) hb)
          have n3_ := Aside0.mk (blk_below (by with_reducible repeat first | exact BK521.out | apply bN) hb)
          have n4_ := Aside0.mk (below_step (by with_reducible repeat first | exact HB.out | apply pw_below_drewN) hb)
          clear BK512 BK513 BK520 BK521 HB
          have BK512 := n0_
          have BK513 := n1_
          have BK520 := n2_
          have BK521 := n3_
          have HB := n4_
          clear n0_ n1_ n2_ n3_ n4_
          (try clear hb)
          (try clear hb2)
          (try clear hk)
          (try clear hi)
          refine hK.out _ _ ⟨(blk_cell BK520.out 0).trans rfl, (blk_cell BK520.out 1).trans rfl, (blk_cell BK513.out 0).trans rfl, (blk_cell BK513.out 1).trans rfl, c12t BK512.out ⟨(blk_cell BK521.out 0).trans rfl, (blk_cell BK521.out 1).trans rfl⟩⟩ (fun hHeld => ?_)
          clear hK K
          refine norm_ (a' := ?_) ?_ ?_
          rotate_left
          ·show Act.put _ (some 67) _ = _
           simp only [Act.put, List.setIfInBounds_toArray, List.set_cons_zero, List.set_cons_succ, i64_w, i32_w]
           rfl
          refine pure_ (i := 28) (N := some 68) (v := ?_) (a' := ?_) #[true, true, true, true, true, true, true, true, true, true, true, true, true, true, true, true, true, true, true, true, true, true, true, true, true, true, true, true, true, false, false, false] rfl rfl (any_of HT_.out (by kernel_rfl)) (fun _ _ _ h => h) (Or.inl ⟨by rfl, ?_⟩) ?_ ?_
          rotate_left
          ·intro w'
           go_simp
           with_reducible rfl
          rotate_left
          ·simp only [Act.put, List.setIfInBounds_toArray, List.set_cons_zero, List.set_cons_succ, i64_w, i32_w]
           rfl
          refine pure_ (i := 29) (N := some 69) (v := ?_) (a' := ?_) #[true, true, true, true, true, true, true, true, true, true, true, true, true, true, true, true, true, true, true, true, true, true, true, true, true, true, true, true, true, true, false, false] rfl rfl (any_of HT_.out (by kernel_rfl)) (fun _ _ _ h => h) (Or.inl ⟨by rfl, ?_⟩) ?_ ?_
          rotate_left
          ·intro w'
           go_simp
           with_reducible rfl
          rotate_left
          ·simp only [Act.put, List.setIfInBounds_toArray, List.set_cons_zero, List.set_cons_succ, i64_w, i32_w]
           rfl
          refine pure_ (i := 30) (N := some 70) (v := ?_) (a' := ?_) #[true, true, true, true, true, true, true, true, true, true, true, true, true, true, true, true, true, true, true, true, true, true, true, true, true, true, true, true, true, true, true, false] rfl rfl (any_of HT_.out (by kernel_rfl)) (fun _ _ _ h => h) (Or.inl ⟨by rfl, ?_⟩) ?_ ?_
          rotate_left
          ·intro w'
           go_simp
           with_reducible rfl
          rotate_left
          ·simp only [Act.put, List.setIfInBounds_toArray, List.set_cons_zero, List.set_cons_succ, i64_w, i32_w]
           rfl
          refine pure_ (i := 31) (N := some 6) (v := ?_) (a' := ?_) #[true, true, true, true, true, true, true, true, true, true, true, true, true, true, true, true, true, true, true, true, true, true, true, true, true, true, true, true, true, true, true, true] rfl rfl (any_of HT_.out (by kernel_rfl)) (fun _ _ _ h => h) (Or.inl ⟨by rfl, ?_⟩) ?_ ?_
          rotate_left
          ·intro w'
           go_simp
           with_reducible rfl
          rotate_left
          ·simp only [Act.put, List.setIfInBounds_toArray, List.set_cons_zero, List.set_cons_succ, i64_w, i32_w]
           rfl
          refine done_ (done_of HT_.out (by kernel_rfl)) ?_
          try go_wp2
          go_ret
          exact ⟨by first | rfl | (simp [errW_none, errW_some] <;> rfl) | (simp [*, errW_none, errW_some] <;> rfl), by repeat (first | (with_reducible first | exact HB.out | apply below_alloc | apply pw_below_drewN | apply below_drew1 | refine below_set ?_ GE512.out | refine below_set ?_ GE513.out | refine below_set ?_ GE520.out | refine below_set ?_ GE521.out) | exact HB.out)⟩
         ·rw [if_neg c58] at H
          have c58b0 : ((wrap64 (t517 - t516)) == (wrap64 ((wrap64 (a1_1 - a1_0)) + (wrap64 (2 * a0_4))))) = false := beq_eq_false_iff_ne.mpr c58
          have c58b1 : ((wrap64 (t517 - t516)) != (wrap64 ((wrap64 (a1_1 - a1_0)) + (wrap64 (2 * a0_4))))) = true := bne_iff_ne.mpr c58
          exact absurd ((Option.some.inj H).trans hT.out) (by decide)
  ·rw [if_neg c7] at H
   have c7b0 : (t515 == 0) = false := beq_eq_false_iff_ne.mpr c7
   have c7b1 : (t515 != 0) = true := bne_iff_ne.mpr c7
   obtain rfl := Option.some.inj H
   go_enter Try.func11, Try.ntmps11
   go_wp2_with (first | ((with_reducible refine gate_dst (N := 3) rfl ?_); refine box_event ?hg (N := 3) ?hd (cs := #[.int .i64 a0_0, .int .i64 a0_1, .int .i64 a0_2, .int .i64 a0_3, .int .i64 a0_4, .int .i64 a0_5, .int .i64 a0_6, .int .i64 a0_7, .int .i64 a0_8, .int .i64 a0_9, .int .i64 a0_10, .int .i64 a0_11]) (t := 23) ?hr ?_; (case hd => rfl); (case hg => rfl); (case hr => first | (go_simp; done) | (go_simp; rfl)); intro gb512 hg w80 hbox hb; have n0_ := Aside0.mk (below_step (by with_reducible repeat first | exact HB.out | apply pw_below_drewN) hb); have n1_ := Aside0.mk (hbox); have n2_ := Aside0.mk ((by rw [hg]; exact (below_size (by with_reducible repeat first | exact HB.out | apply pw_below_drewN)) : w.heap.size ≤ gb512)); have n3_ := Aside0.mk ((by rw [hg]; exact (below_size (by with_reducible repeat first | exact HB.out | apply pw_below_drewN)) : w.heap.size ≤ gb512)); clear HB; have HB := n0_; have BK512 := n1_; have GW512 := n2_; have GE512 := n3_; clear n0_ n1_ n2_ n3_; clear hb hbox hg) | ((with_reducible refine gate_dst (N := 4) rfl ?_); refine box_event ?hg (N := 4) ?hd (cs := #[.int .i64 a1_0, .int .i64 a1_1]) (t := 25) ?hr ?_; (case hd => rfl); (case hg => rfl); (case hr => first | (go_simp; done) | (go_simp; rfl)); intro gb513 hg w81 hbox hb; have n0_ := Aside0.mk (blk_below (by with_reducible repeat first | exact BK512.out | apply bN) hb); have n1_ := Aside0.mk (below_step (by with_reducible repeat first | exact HB.out | apply pw_below_drewN) hb); have n2_ := Aside0.mk (hbox); have n3_ := Aside0.mk ((by rw [hg]; exact (below_size (by with_reducible repeat first | exact HB.out | apply pw_below_drewN)) : w.heap.size ≤ gb513)); have n4_ := Aside0.mk ((by rw [hg]; exact (below_size (by with_reducible repeat first | exact HB.out | apply pw_below_drewN)) : w.heap.size ≤ gb513)); have n5_ := Aside0.mk ((by rw [hg]; exact Nat.ne_of_lt (blk_lt (by with_reducible repeat first | exact BK512.out | apply bN)) : gb512 ≠ gb513)); have n6_ := Aside0.mk ((by rw [hg]; exact Nat.ne_of_gt (blk_lt (by with_reducible repeat first | exact BK512.out | apply bN)) : gb513 ≠ gb512)); clear BK512; clear HB; have BK512 := n0_; have HB := n1_; have BK513 := n2_; have GW513 := n3_; have GE513 := n4_; have NB512_513 := n5_; have NB513_512 := n6_; clear n0_ n1_ n2_ n3_ n4_ n5_ n6_; clear hb hbox hg) | ((with_reducible refine gate_callee (f := 15) rfl ?_); refine goesL_ (some 11) rfl rfl Try.func15 (by kernel_rfl) rfl #[] rfl (by (try simp only [List.map_toArray, List.map_cons, List.map_nil]); first | done | rfl | (simp only [List.length_drop, List.length_take]; rfl)) ?_; (with_reducible refine (clepsydralaw11_alive.calls k  true _ A4.out).mono ?_); rintro e w82 ⟨rfl, hb⟩; refine ⟨_, rfl, ?_⟩; have n0_ := Aside0.mk (blk_below (by with_reducible repeat first | exact BK512.out | apply bN) hb); have n1_ := Aside0.mk (blk_below (by with_reducible repeat first | exact BK513.out | apply bN) hb); have n2_ := Aside0.mk (below_step (by with_reducible repeat first | exact HB.out | apply pw_below_drewN) hb); clear BK512; clear BK513; clear HB; have BK512 := n0_; have BK513 := n1_; have HB := n2_; clear n0_ n1_ n2_; (try clear hb); (try clear hb2); (try clear hk); (try clear hi); have hnb83 := NB512_513.out; have hnc83 := NB513_512.out; have hcz84_0 : w82.cell? ⟨gb512, 0, none⟩ = some (.int .i64 a0_0) := (blk_cell BK512.out 0).trans rfl; have hcz84_1 : w82.cell? ⟨gb512, 1, none⟩ = some (.int .i64 a0_1) := (blk_cell BK512.out 1).trans rfl; have hcz84_2 : w82.cell? ⟨gb512, 2, none⟩ = some (.int .i64 a0_2) := (blk_cell BK512.out 2).trans rfl; have hcz84_3 : w82.cell? ⟨gb512, 3, none⟩ = some (.int .i64 a0_3) := (blk_cell BK512.out 3).trans rfl; have hcz84_4 : w82.cell? ⟨gb512, 4, none⟩ = some (.int .i64 a0_4) := (blk_cell BK512.out 4).trans rfl; have hcz84_5 : w82.cell? ⟨gb512, 5, none⟩ = some (.int .i64 a0_5) := (blk_cell BK512.out 5).trans rfl; have hcz84_6 : w82.cell? ⟨gb512, 6, none⟩ = some (.int .i64 a0_6) := (blk_cell BK512.out 6).trans rfl; have hcz84_7 : w82.cell? ⟨gb512, 7, none⟩ = some (.int .i64 a0_7) := (blk_cell BK512.out 7).trans rfl; have hcz84_8 : w82.cell? ⟨gb512, 8, none⟩ = some (.int .i64 a0_8) := (blk_cell BK512.out 8).trans rfl; have hcz84_9 : w82.cell? ⟨gb512, 9, none⟩ = some (.int .i64 a0_9) := (blk_cell BK512.out 9).trans rfl; have hcz84_10 : w82.cell? ⟨gb512, 10, none⟩ = some (.int .i64 a0_10) := (blk_cell BK512.out 10).trans rfl; have hcz84_11 : w82.cell? ⟨gb512, 11, none⟩ = some (.int .i64 a0_11) := (blk_cell BK512.out 11).trans rfl; have hfz84_0 := blk_frozen BK512.out 0; have hfz84_1 := blk_frozen BK512.out 1; have hfz84_2 := blk_frozen BK512.out 2; have hfz84_3 := blk_frozen BK512.out 3; have hfz84_4 := blk_frozen BK512.out 4; have hfz84_5 := blk_frozen BK512.out 5; have hfz84_6 := blk_frozen BK512.out 6; have hfz84_7 := blk_frozen BK512.out 7; have hfz84_8 := blk_frozen BK512.out 8; have hfz84_9 := blk_frozen BK512.out 9; have hfz84_10 := blk_frozen BK512.out 10; have hfz84_11 := blk_frozen BK512.out 11) | ((with_reducible refine gate_callee (f := 24) rfl ?_); refine goesL_ (some 14) rfl rfl Try.func24 (by kernel_rfl) rfl #[.agg #[.int .i64 a0_0, .int .i64 a0_1, .int .i64 a0_2, .int .i64 a0_3, .int .i64 a0_4, .int .i64 a0_5, .int .i64 a0_6, .int .i64 a0_7, .int .i64 a0_8, .int .i64 a0_9, .int .i64 a0_10, .int .i64 a0_11]] rfl (by (try simp only [List.map_toArray, List.map_cons, List.map_nil]); first | done | rfl | (simp only [List.length_drop, List.length_take]; rfl)) ?_; (with_reducible refine (limit_Check.calls k a0_0 a0_1 a0_2 a0_3 a0_4 a0_5 a0_6 a0_7 a0_8 a0_9 a0_10 a0_11 t515 _ A6.out).mono ?_); rintro e w85 ⟨rfl, hb⟩; refine ⟨_, rfl, ?_⟩; have n0_ := Aside0.mk (blk_below (by with_reducible repeat first | exact BK512.out | apply bN) hb); have n1_ := Aside0.mk (blk_below (by with_reducible repeat first | exact BK513.out | apply bN) hb); have n2_ := Aside0.mk (below_step (by with_reducible repeat first | exact HB.out | apply pw_below_drewN) hb); clear BK512; clear BK513; clear HB; have BK512 := n0_; have BK513 := n1_; have HB := n2_; clear n0_ n1_ n2_; (try clear hb); (try clear hb2); (try clear hk); (try clear hi)))
   go_ret
   exact ⟨by first | rfl | (simp [errW_none, errW_some] <;> rfl) | (simp [*, errW_none, errW_some] <;> rfl), by repeat (first | (with_reducible first | exact HB.out | apply below_alloc | apply pw_below_drewN | apply below_drew1 | refine below_set ?_ GE512.out | refine below_set ?_ GE513.out) | exact HB.out)⟩
 ·replace c5 := Bool.eq_false_iff.mpr c5
  subst c5
  have H1 : (some false) = some r := by rw [if_neg (show ¬ (false = true) by decide)] at H; exact H
  clear H
  have H := H1
  clear H1
  exact absurd ((Option.some.inj H).trans hT.out) (by decide)

end Go.Proofs.Ytigpigfoahlfjaa.Q
