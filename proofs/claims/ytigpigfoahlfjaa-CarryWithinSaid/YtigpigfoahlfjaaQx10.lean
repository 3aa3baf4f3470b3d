/- The calls of these Go functions answer what the Lean functions beside them answer; written by a program (wip/pr2.py, out of the print of the loaded program); under no condition but those that stand in the theorems. -/
import Derived.Test.YtigpigfoahlfjaaQx0
import Derived.Test.YtigpigfoahlfjaaQx4
import Derived.Test.YtigpigfoahlfjaaQx5
import Derived.Test.YtigpigfoahlfjaaQx7
import Derived.Test.YtigpigfoahlfjaaQx9
namespace Go.Proofs.Ytigpigfoahlfjaa.Q
open Go.RowKit Go.Proofs.YtigpigfoahlfjaaW.PrintWords Go.Proofs.YtigpigfoahlfjaaW.PrintLast Go.Proofs.YtigpigfoahlfjaaW.PrintMore
attribute [local go_sem] max2_int min2_int max_two min_two max_three min_three max_four min_four   -- for this text's walks alone
set_option linter.unusedVariables false
set_option linter.unusedSimpArgs false

/-! ### clepsydralaw11_CarryWithin: function 6 -/
def clepsydralaw11_CarryWithin.j0 : Nat → Int → Int → Int → Bool → Int → Int → Int → Int → Int → Int → Int → Int → Int → Int → Int → Int → Int → Int → Option (Bool)
 | 0, _, _, _, _, _, _, _, _, _, _, _, _, _, _, _, _, _, _ => none
 | k + 1, x2, x3, x4, x38, x210000, x210001, x210002, x210003, x210004, x210005, x210006, x210007, x210008, x210009, x210010, x210011, x211000, x211001 => if x38 = true then (some true) else (if x211000 > 288230376151711744 then (some true) else (if x211000 < (-288230376151711744) then (some true) else (if x211001 > 288230376151711744 then (some true) else (if x211001 < (-288230376151711744) then (some true) else (if x4 > 288230376151711744 then (some true) else (if x4 < (-288230376151711744) then (some true) else ((carry_Hold.f k x210000 x210001 x210002 x210003 x210004 x210005 x210006 x210007 x210008 x210009 x210010 x210011 x211000 x211001 x4).bind fun bt214 => ((carry_Hold.f k x210000 x210001 x210002 x210003 x210004 x210005 x210006 x210007 x210008 x210009 x210010 x210011 (wrap64 (x211000 - x2)) (wrap64 (x211001 + x3)) x4).bind fun bt216 => ((carry_Way.f k x210000 x210001 x210002 x210003 x210004 x210005 x210006 x210007 x210008 x210009 x210010 x210011 x211000 x211001 x4).bind fun bt220 => ((carry_Way.f k x210000 x210001 x210002 x210003 x210004 x210005 x210006 x210007 x210008 x210009 x210010 x210011 (wrap64 (x211000 - x2)) (wrap64 (x211001 + x3)) x4).bind fun bt222 => (if bt216.1 ≤ bt214.1 then (if bt214.2 ≤ bt216.2 then (if bt222.1 ≤ bt220.1 then (some (decide (bt220.2 ≤ bt222.2))) else (some false)) else (some false)) else (some false))))))))))))
def clepsydralaw11_CarryWithin.f (k : Nat) (a0_0 : Int) (a0_1 : Int) (a0_2 : Int) (a0_3 : Int) (a0_4 : Int) (a0_5 : Int) (a0_6 : Int) (a0_7 : Int) (a0_8 : Int) (a0_9 : Int) (a0_10 : Int) (a0_11 : Int) (a1_0 : Int) (a1_1 : Int) (a2 : Int) (a3 : Int) (a4 : Int) : Option (Bool) := (clepsydralaw11_alive.f k).bind fun t211 => (if t211 = true then ((limit_Check.f k a0_0 a0_1 a0_2 a0_3 a0_4 a0_5 a0_6 a0_7 a0_8 a0_9 a0_10 a0_11).bind fun t212 => (if t212 = 0 then (if a2 < 0 then (clepsydralaw11_CarryWithin.j0 k a2 a3 a4 true a0_0 a0_1 a0_2 a0_3 a0_4 a0_5 a0_6 a0_7 a0_8 a0_9 a0_10 a0_11 a1_0 a1_1) else (if a3 < 0 then (clepsydralaw11_CarryWithin.j0 k a2 a3 a4 true a0_0 a0_1 a0_2 a0_3 a0_4 a0_5 a0_6 a0_7 a0_8 a0_9 a0_10 a0_11 a1_0 a1_1) else (if a2 > 288230376151711744 then (clepsydralaw11_CarryWithin.j0 k a2 a3 a4 true a0_0 a0_1 a0_2 a0_3 a0_4 a0_5 a0_6 a0_7 a0_8 a0_9 a0_10 a0_11 a1_0 a1_1) else (clepsydralaw11_CarryWithin.j0 k a2 a3 a4 (decide (a3 > 288230376151711744)) a0_0 a0_1 a0_2 a0_3 a0_4 a0_5 a0_6 a0_7 a0_8 a0_9 a0_10 a0_11 a1_0 a1_1)))) else (clepsydralaw11_CarryWithin.j0 k a2 a3 a4 true a0_0 a0_1 a0_2 a0_3 a0_4 a0_5 a0_6 a0_7 a0_8 a0_9 a0_10 a0_11 a1_0 a1_1))) else (some false))
theorem clepsydralaw11_CarryWithin.mono_l : ∀ k, (∀ y0 y1 y2 y3 y4 y5 y6 y7 y8 y9 y10 y11 y12 y13 y14 y15 y16 y17, LeO (clepsydralaw11_CarryWithin.j0 k y0 y1 y2 y3 y4 y5 y6 y7 y8 y9 y10 y11 y12 y13 y14 y15 y16 y17) (clepsydralaw11_CarryWithin.j0 (k + 1) y0 y1 y2 y3 y4 y5 y6 y7 y8 y9 y10 y11 y12 y13 y14 y15 y16 y17))
 | 0 => fun _ _ _ _ _ _ _ _ _ _ _ _ _ _ _ _ _ _ r h => by simp [clepsydralaw11_CarryWithin.j0] at h
 | k + 1 => by
  have ih0 := clepsydralaw11_CarryWithin.mono_l k
  intro y0 y1 y2 y3 y4 y5 y6 y7 y8 y9 y10 y11 y12 y13 y14 y15 y16 y17
  unfold clepsydralaw11_CarryWithin.j0
  repeat' first
  | (with_reducible exact ih0 _ _ _ _ _ _ _ _ _ _ _ _ _ _ _ _ _ _)
  | (with_reducible exact carry_Hold.mono _ _ _ _ _ _ _ _ _ _ _ _ _ _ _ _)
  | (with_reducible exact carry_Way.mono _ _ _ _ _ _ _ _ _ _ _ _ _ _ _ _)
  | (with_reducible exact clepsydralaw11_alive.mono _)
  | (with_reducible exact limit_Check.mono _ _ _ _ _ _ _ _ _ _ _ _ _)
  | (with_reducible exact LeO.refl _)
  | (with_reducible exact LeO.none _)
  | (with_reducible refine LeO.ite ?_ ?_)
  | (with_reducible refine LeO.bind ?_ (fun _ => ?_))
  | exact ih0 _ _ _ _ _ _ _ _ _ _ _ _ _ _ _ _ _ _
  | exact carry_Hold.mono _ _ _ _ _ _ _ _ _ _ _ _ _ _ _ _
  | exact carry_Way.mono _ _ _ _ _ _ _ _ _ _ _ _ _ _ _ _
  | exact clepsydralaw11_alive.mono _
  | exact limit_Check.mono _ _ _ _ _ _ _ _ _ _ _ _ _
  | exact LeO.none _
  | refine LeO.ite ?_ ?_
  | refine LeO.bind ?_ (fun _ => ?_)
theorem clepsydralaw11_CarryWithin.mono : ∀ a0 a1 a2 a3 a4 a5 a6 a7 a8 a9 a10 a11 a12 a13 a14 a15 a16 k, LeO (clepsydralaw11_CarryWithin.f k a0 a1 a2 a3 a4 a5 a6 a7 a8 a9 a10 a11 a12 a13 a14 a15 a16) (clepsydralaw11_CarryWithin.f (k + 1) a0 a1 a2 a3 a4 a5 a6 a7 a8 a9 a10 a11 a12 a13 a14 a15 a16) := by
 intro a0 a1 a2 a3 a4 a5 a6 a7 a8 a9 a10 a11 a12 a13 a14 a15 a16 k
 have ih0 := clepsydralaw11_CarryWithin.mono_l k
 unfold clepsydralaw11_CarryWithin.f
 repeat' first
   | (with_reducible exact ih0 _ _ _ _ _ _ _ _ _ _ _ _ _ _ _ _ _ _)
   | (with_reducible exact carry_Hold.mono _ _ _ _ _ _ _ _ _ _ _ _ _ _ _ _)
   | (with_reducible exact carry_Way.mono _ _ _ _ _ _ _ _ _ _ _ _ _ _ _ _)
   | (with_reducible exact clepsydralaw11_alive.mono _)
   | (with_reducible exact limit_Check.mono _ _ _ _ _ _ _ _ _ _ _ _ _)
   | (with_reducible exact LeO.refl _)
   | (with_reducible exact LeO.none _)
   | (with_reducible refine LeO.ite ?_ ?_)
   | (with_reducible refine LeO.bind ?_ (fun _ => ?_))
   | exact ih0 _ _ _ _ _ _ _ _ _ _ _ _ _ _ _ _ _ _
   | exact carry_Hold.mono _ _ _ _ _ _ _ _ _ _ _ _ _ _ _ _
   | exact carry_Way.mono _ _ _ _ _ _ _ _ _ _ _ _ _ _ _ _
   | exact clepsydralaw11_alive.mono _
   | exact limit_Check.mono _ _ _ _ _ _ _ _ _ _ _ _ _
   | exact LeO.none _
   | refine LeO.ite ?_ ?_
   | refine LeO.bind ?_ (fun _ => ?_)
theorem clepsydralaw11_CarryWithin.ix34_0 (x0 x1 x2 : Value) (w : World) : (Instr.index 34 (.agg #[x0, x1, x2]) (.int .i64 0)).run Try.prog w = .ok x0 w := by kernel_rfl
attribute [local go_sem] clepsydralaw11_CarryWithin.ix34_0
theorem clepsydralaw11_CarryWithin.ix34_1 (x0 x1 x2 : Value) (w : World) : (Instr.index 34 (.agg #[x0, x1, x2]) (.int .i64 1)).run Try.prog w = .ok x1 w := by kernel_rfl
attribute [local go_sem] clepsydralaw11_CarryWithin.ix34_1
theorem clepsydralaw11_CarryWithin.ix34_2 (x0 x1 x2 : Value) (w : World) : (Instr.index 34 (.agg #[x0, x1, x2]) (.int .i64 2)).run Try.prog w = .ok x2 w := by kernel_rfl
attribute [local go_sem] clepsydralaw11_CarryWithin.ix34_2
def clepsydralaw11_CarryWithin.T12 : Bool × List (List Nat × List Nat) := (true, [([], []), ([], []), ([], []), ([0, 1, 2], [0, 1, 2]), ([], []), ([], []), ([], []), ([4, 5, 6, 3], [4, 5, 6]), ([], []), ([], []), ([8, 3, 7, 0, 1, 2, 3, 8, 9], [3, 8]), ([9, 7, 10, 0, 1, 2, 3, 4, 5, 6, 7, 8, 9, 10], [7, 9])])
def clepsydralaw11_CarryWithin.B12 : List Nat := [0, 0, 0, 7, 0, 0, 0, 127, 0, 0, 1023, 2047]
theorem clepsydralaw11_CarryWithin.tab12 : rtab .any (opsOf Try.f6 12) = clepsydralaw11_CarryWithin.T12 := by kernel_rfl
theorem clepsydralaw11_CarryWithin.bits12 : waitsOk clepsydralaw11_CarryWithin.T12.2 clepsydralaw11_CarryWithin.B12 = true := by kernel_rfl
def clepsydralaw11_CarryWithin.T13 : Bool × List (List Nat × List Nat) := (true, [([], []), ([], []), ([], []), ([0, 1, 2], [0, 1, 2]), ([], []), ([], []), ([], []), ([4, 5, 6, 3], [4, 5, 6]), ([], []), ([], []), ([8, 3, 7, 0, 1, 2, 3, 8, 9], [3, 8]), ([9, 7, 10, 0, 1, 2, 3, 4, 5, 6, 7, 8, 9, 10], [7, 9])])
def clepsydralaw11_CarryWithin.B13 : List Nat := [0, 0, 0, 7, 0, 0, 0, 127, 0, 0, 1023, 2047]
theorem clepsydralaw11_CarryWithin.tab13 : rtab .any (opsOf Try.f6 13) = clepsydralaw11_CarryWithin.T13 := by kernel_rfl
theorem clepsydralaw11_CarryWithin.bits13 : waitsOk clepsydralaw11_CarryWithin.T13.2 clepsydralaw11_CarryWithin.B13 = true := by kernel_rfl
set_option maxHeartbeats 8000000 in
set_option maxRecDepth 100000 in
theorem clepsydralaw11_CarryWithin.calls (k : Nat) (a0_0 : Int) (a0_1 : Int) (a0_2 : Int) (a0_3 : Int) (a0_4 : Int) (a0_5 : Int) (a0_6 : Int) (a0_7 : Int) (a0_8 : Int) (a0_9 : Int) (a0_10 : Int) (a0_11 : Int) (a1_0 : Int) (a1_1 : Int) (a2 : Int) (a3 : Int) (a4 : Int) (r : Bool) (w : World) (hT : Aside0 (r = true)) (h : clepsydralaw11_CarryWithin.f k a0_0 a0_1 a0_2 a0_3 a0_4 a0_5 a0_6 a0_7 a0_8 a0_9 a0_10 a0_11 a1_0 a1_1 a2 a3 a4 = some r) :
  Calls Try.prog 6 #[.agg #[.int .i64 a0_0, .int .i64 a0_1, .int .i64 a0_2, .int .i64 a0_3, .int .i64 a0_4, .int .i64 a0_5, .int .i64 a0_6, .int .i64 a0_7, .int .i64 a0_8, .int .i64 a0_9, .int .i64 a0_10, .int .i64 a0_11], .agg #[.int .i64 a1_0, .int .i64 a1_1], .int .i64 a2, .int .i64 a3, .int .i64 a4] w fun e w' => e = .returned (.bool r) ∧ Below w.heap.size w w' := by
 have hu23 := Try.underlying23
 have hu25 := Try.underlying25
 have hu34 := Try.underlying34
 have HB := mk (Below.refl w.heap.size w)
 have H : ((clepsydralaw11_alive.f k).bind fun t211 => (if t211 = true then ((limit_Check.f k a0_0 a0_1 a0_2 a0_3 a0_4 a0_5 a0_6 a0_7 a0_8 a0_9 a0_10 a0_11).bind fun t212 => (if t212 = 0 then (if a2 < 0 then (clepsydralaw11_CarryWithin.j0 k a2 a3 a4 true a0_0 a0_1 a0_2 a0_3 a0_4 a0_5 a0_6 a0_7 a0_8 a0_9 a0_10 a0_11 a1_0 a1_1) else (if a3 < 0 then (clepsydralaw11_CarryWithin.j0 k a2 a3 a4 true a0_0 a0_1 a0_2 a0_3 a0_4 a0_5 a0_6 a0_7 a0_8 a0_9 a0_10 a0_11 a1_0 a1_1) else (if a2 > 288230376151711744 then (clepsydralaw11_CarryWithin.j0 k a2 a3 a4 true a0_0 a0_1 a0_2 a0_3 a0_4 a0_5 a0_6 a0_7 a0_8 a0_9 a0_10 a0_11 a1_0 a1_1) else (clepsydralaw11_CarryWithin.j0 k a2 a3 a4 (decide (a3 > 288230376151711744)) a0_0 a0_1 a0_2 a0_3 a0_4 a0_5 a0_6 a0_7 a0_8 a0_9 a0_10 a0_11 a1_0 a1_1)))) else (clepsydralaw11_CarryWithin.j0 k a2 a3 a4 true a0_0 a0_1 a0_2 a0_3 a0_4 a0_5 a0_6 a0_7 a0_8 a0_9 a0_10 a0_11 a1_0 a1_1))) else (some false))) = some r := h
 clear h
 replace H := Option.bind_eq_some_iff.mp H
 obtain ⟨t211, A60, H⟩ := H
 replace H : (if t211 = true then ((limit_Check.f k a0_0 a0_1 a0_2 a0_3 a0_4 a0_5 a0_6 a0_7 a0_8 a0_9 a0_10 a0_11).bind fun t212 => (if t212 = 0 then (if a2 < 0 then (clepsydralaw11_CarryWithin.j0 k a2 a3 a4 true a0_0 a0_1 a0_2 a0_3 a0_4 a0_5 a0_6 a0_7 a0_8 a0_9 a0_10 a0_11 a1_0 a1_1) else (if a3 < 0 then (clepsydralaw11_CarryWithin.j0 k a2 a3 a4 true a0_0 a0_1 a0_2 a0_3 a0_4 a0_5 a0_6 a0_7 a0_8 a0_9 a0_10 a0_11 a1_0 a1_1) else (if a2 > 288230376151711744 then (clepsydralaw11_CarryWithin.j0 k a2 a3 a4 true a0_0 a0_1 a0_2 a0_3 a0_4 a0_5 a0_6 a0_7 a0_8 a0_9 a0_10 a0_11 a1_0 a1_1) else (clepsydralaw11_CarryWithin.j0 k a2 a3 a4 (decide (a3 > 288230376151711744)) a0_0 a0_1 a0_2 a0_3 a0_4 a0_5 a0_6 a0_7 a0_8 a0_9 a0_10 a0_11 a1_0 a1_1)))) else (clepsydralaw11_CarryWithin.j0 k a2 a3 a4 true a0_0 a0_1 a0_2 a0_3 a0_4 a0_5 a0_6 a0_7 a0_8 a0_9 a0_10 a0_11 a1_0 a1_1))) else (some false)) = some r := H
 have A6 := mk A60
 clear A60
 by_cases c7 : t211 = true
 ·subst c7
  have H1 : ((limit_Check.f k a0_0 a0_1 a0_2 a0_3 a0_4 a0_5 a0_6 a0_7 a0_8 a0_9 a0_10 a0_11).bind fun t212 => (if t212 = 0 then (if a2 < 0 then (clepsydralaw11_CarryWithin.j0 k a2 a3 a4 true a0_0 a0_1 a0_2 a0_3 a0_4 a0_5 a0_6 a0_7 a0_8 a0_9 a0_10 a0_11 a1_0 a1_1) else (if a3 < 0 then (clepsydralaw11_CarryWithin.j0 k a2 a3 a4 true a0_0 a0_1 a0_2 a0_3 a0_4 a0_5 a0_6 a0_7 a0_8 a0_9 a0_10 a0_11 a1_0 a1_1) else (if a2 > 288230376151711744 then (clepsydralaw11_CarryWithin.j0 k a2 a3 a4 true a0_0 a0_1 a0_2 a0_3 a0_4 a0_5 a0_6 a0_7 a0_8 a0_9 a0_10 a0_11 a1_0 a1_1) else (clepsydralaw11_CarryWithin.j0 k a2 a3 a4 (decide (a3 > 288230376151711744)) a0_0 a0_1 a0_2 a0_3 a0_4 a0_5 a0_6 a0_7 a0_8 a0_9 a0_10 a0_11 a1_0 a1_1)))) else (clepsydralaw11_CarryWithin.j0 k a2 a3 a4 true a0_0 a0_1 a0_2 a0_3 a0_4 a0_5 a0_6 a0_7 a0_8 a0_9 a0_10 a0_11 a1_0 a1_1))) = some r := by rw [if_pos rfl] at H; exact H
  clear H
  have H := H1
  clear H1
  have HC8 := mk H
  clear H
  go_enter Try.func6, Try.ntmps6
  go_upto_region 3 with (first | ((with_reducible refine gate_dst (N := 5) rfl ?_); refine box_event ?hg (N := 5) ?hd (cs := #[.int .i64 a0_0, .int .i64 a0_1, .int .i64 a0_2, .int .i64 a0_3, .int .i64 a0_4, .int .i64 a0_5, .int .i64 a0_6, .int .i64 a0_7, .int .i64 a0_8, .int .i64 a0_9, .int .i64 a0_10, .int .i64 a0_11]) (t := 23) ?hr ?_; (case hd => rfl); (case hg => rfl); (case hr => first | (go_simp; done) | (go_simp; rfl)); intro g0_ hg w9 hbox hb; have n0_ := mk (below_step (by repeat first | exact HB.1 | apply pD) hb); have n1_ := mk (hbox); have n2_ := gl hg (by repeat first | exact HB.1 | apply pD); have n3_ := gl hg (by repeat first | exact HB.1 | apply pD); clear HB; have HB := n0_; have B0_ := n1_; have W0_ := n2_; have E0_ := n3_; clear n0_ n1_ n2_ n3_; clear hb hbox hg) | ((with_reducible refine gate_dst (N := 6) rfl ?_); refine box_event ?hg (N := 6) ?hd (cs := #[.int .i64 a1_0, .int .i64 a1_1]) (t := 25) ?hr ?_; (case hd => rfl); (case hg => rfl); (case hr => first | (go_simp; done) | (go_simp; rfl)); intro g1_ hg w10 hbox hb; have n0_ := bb hb B0_.1; have n1_ := mk (below_step (by repeat first | exact HB.1 | apply pD) hb); have n2_ := mk (hbox); have n3_ := gl hg (by repeat first | exact HB.1 | apply pD); have n4_ := gl hg (by repeat first | exact HB.1 | apply pD); have n5_ := nl hg B0_.1; have n6_ := ng hg B0_.1; clear B0_; clear HB; have B0_ := n0_; have HB := n1_; have B1_ := n2_; have W1_ := n3_; have E1_ := n4_; have N01_ := n5_; have N10_ := n6_; clear n0_ n1_ n2_ n3_ n4_ n5_ n6_; clear hb hbox hg) | ((with_reducible refine gate_callee (f := 15) rfl ?_); refine goesL_ (some 18) rfl rfl Try.func15 (by kernel_rfl) rfl #[] rfl (by (try simp only [List.map_toArray, List.map_cons, List.map_nil]); first | done | rfl | (simp only [List.length_drop, List.length_take]; rfl)) ?_; (with_reducible refine (clepsydralaw11_alive.calls k  true _ A6.1).mono ?_); rintro e w11 ⟨rfl, hb⟩; refine ⟨_, rfl, ?_⟩; have n0_ := bb hb B0_.1; have n1_ := bb hb B1_.1; have n2_ := mk (below_step (by repeat first | exact HB.1 | apply pD) hb); clear B0_; clear B1_; clear HB; have B0_ := n0_; have B1_ := n1_; have HB := n2_; clear n0_ n1_ n2_; (try clear hb); (try clear hb2); (try clear hk); (try clear hi)))
  (try simp only [Act.put, List.setIfInBounds_toArray, List.set_cons_zero, List.set_cons_succ])
  go_cut [38] (fun v38 wc => ∃ (kq : Nat) (x38_7 : Bool), v38 = .bool x38_7 ∧ Aside0 (clepsydralaw11_CarryWithin.j0 kq a2 a3 a4 x38_7 a0_0 a0_1 a0_2 a0_3 a0_4 a0_5 a0_6 a0_7 a0_8 a0_9 a0_10 a0_11 a1_0 a1_1 = some r) ∧ Aside0 (kq ≤ k) ∧ Aside0 (wc.heap[g0_]? = some (.cells #[.int .i64 a0_0, .int .i64 a0_1, .int .i64 a0_2, .int .i64 a0_3, .int .i64 a0_4, .int .i64 a0_5, .int .i64 a0_6, .int .i64 a0_7, .int .i64 a0_8, .int .i64 a0_9, .int .i64 a0_10, .int .i64 a0_11] 23 (0, 0))) ∧ Aside0 (wc.heap[g1_]? = some (.cells #[.int .i64 a1_0, .int .i64 a1_1] 25 (0, 0))) ∧ Aside0 (Below w.heap.size w wc))
  case first =>
   have H := HC8.out
   clear HC8
   replace H := Option.bind_eq_some_iff.mp H
   obtain ⟨t212, A120, H⟩ := H
   replace H : (if t212 = 0 then (if a2 < 0 then (clepsydralaw11_CarryWithin.j0 k a2 a3 a4 true a0_0 a0_1 a0_2 a0_3 a0_4 a0_5 a0_6 a0_7 a0_8 a0_9 a0_10 a0_11 a1_0 a1_1) else (if a3 < 0 then (clepsydralaw11_CarryWithin.j0 k a2 a3 a4 true a0_0 a0_1 a0_2 a0_3 a0_4 a0_5 a0_6 a0_7 a0_8 a0_9 a0_10 a0_11 a1_0 a1_1) else (if a2 > 288230376151711744 then (clepsydralaw11_CarryWithin.j0 k a2 a3 a4 true a0_0 a0_1 a0_2 a0_3 a0_4 a0_5 a0_6 a0_7 a0_8 a0_9 a0_10 a0_11 a1_0 a1_1) else (clepsydralaw11_CarryWithin.j0 k a2 a3 a4 (decide (a3 > 288230376151711744)) a0_0 a0_1 a0_2 a0_3 a0_4 a0_5 a0_6 a0_7 a0_8 a0_9 a0_10 a0_11 a1_0 a1_1)))) else (clepsydralaw11_CarryWithin.j0 k a2 a3 a4 true a0_0 a0_1 a0_2 a0_3 a0_4 a0_5 a0_6 a0_7 a0_8 a0_9 a0_10 a0_11 a1_0 a1_1)) = some r := H
   have A12 := mk A120
   clear A120
   by_cases c13 : t212 = 0
   ·rw [if_pos c13] at H
    have c13b0 : (t212 == 0) = true := beq_iff_eq.mpr c13
    have c13b1 : (t212 != 0) = false := bne_eq_false_iff_eq.mpr c13
    clear c13
    (first | rw [c13b0] | (simp only [i64_w, i32_w]; rw [c13b0]) | skip)
    by_cases c14 : a2 < 0
    ·rw [if_pos c14] at H
     have c14b0 : decide (a2 < 0) = true := decide_eq_true c14
     clear c14
     have H' := mk H
     clear H
     have hnb15 := N01_.1
     have hnc15 := N10_.1
     have hcz16_0 : w11.cell? ⟨g0_, 0, none⟩ = some (.int .i64 a0_0) := bt B0_.1 0
     have hcz16_1 : w11.cell? ⟨g0_, 1, none⟩ = some (.int .i64 a0_1) := bt B0_.1 1
     have hcz16_2 : w11.cell? ⟨g0_, 2, none⟩ = some (.int .i64 a0_2) := bt B0_.1 2
     have hcz16_3 : w11.cell? ⟨g0_, 3, none⟩ = some (.int .i64 a0_3) := bt B0_.1 3
     have hcz16_4 : w11.cell? ⟨g0_, 4, none⟩ = some (.int .i64 a0_4) := bt B0_.1 4
     have hcz16_5 : w11.cell? ⟨g0_, 5, none⟩ = some (.int .i64 a0_5) := bt B0_.1 5
     have hcz16_6 : w11.cell? ⟨g0_, 6, none⟩ = some (.int .i64 a0_6) := bt B0_.1 6
     have hcz16_7 : w11.cell? ⟨g0_, 7, none⟩ = some (.int .i64 a0_7) := bt B0_.1 7
     have hcz16_8 : w11.cell? ⟨g0_, 8, none⟩ = some (.int .i64 a0_8) := bt B0_.1 8
     have hcz16_9 : w11.cell? ⟨g0_, 9, none⟩ = some (.int .i64 a0_9) := bt B0_.1 9
     have hcz16_10 : w11.cell? ⟨g0_, 10, none⟩ = some (.int .i64 a0_10) := bt B0_.1 10
     have hcz16_11 : w11.cell? ⟨g0_, 11, none⟩ = some (.int .i64 a0_11) := bt B0_.1 11
     have hfz16_0 := blk_frozen B0_.1 0
     have hfz16_1 := blk_frozen B0_.1 1
     have hfz16_2 := blk_frozen B0_.1 2
     have hfz16_3 := blk_frozen B0_.1 3
     have hfz16_4 := blk_frozen B0_.1 4
     have hfz16_5 := blk_frozen B0_.1 5
     have hfz16_6 := blk_frozen B0_.1 6
     have hfz16_7 := blk_frozen B0_.1 7
     have hfz16_8 := blk_frozen B0_.1 8
     have hfz16_9 := blk_frozen B0_.1 9
     have hfz16_10 := blk_frozen B0_.1 10
     have hfz16_11 := blk_frozen B0_.1 11
     go_wp2_with (first | ((with_reducible refine gate_callee (f := 24) rfl ?_); refine goesL_ (some 21) rfl rfl Try.func24 (by kernel_rfl) rfl #[.agg #[.int .i64 a0_0, .int .i64 a0_1, .int .i64 a0_2, .int .i64 a0_3, .int .i64 a0_4, .int .i64 a0_5, .int .i64 a0_6, .int .i64 a0_7, .int .i64 a0_8, .int .i64 a0_9, .int .i64 a0_10, .int .i64 a0_11]] rfl (by (try simp only [List.map_toArray, List.map_cons, List.map_nil]); first | done | rfl | (simp only [List.length_drop, List.length_take]; rfl)) ?_; (with_reducible refine (limit_Check.calls k a0_0 a0_1 a0_2 a0_3 a0_4 a0_5 a0_6 a0_7 a0_8 a0_9 a0_10 a0_11 t212 _ A12.1).mono ?_); rintro e w17 ⟨rfl, hb⟩; refine ⟨_, rfl, ?_⟩; have n0_ := bb hb B0_.1; have n1_ := bb hb B1_.1; have n2_ := mk (below_step (by repeat first | exact HB.1 | apply pD) hb); clear B0_; clear B1_; clear HB; have B0_ := n0_; have B1_ := n1_; have HB := n2_; clear n0_ n1_ n2_; (try clear hb); (try clear hb2); (try clear hk); (try clear hi)))
     go_meet
     case rel => exact ⟨_, (true), (by first | rfl | (simp; done) | (simp [*]; done) | (simp [Int.tdiv_eq_ediv_of_nonneg]; done) | (simp [Go.RowKit.wrap64]; done) | (simp [*, Go.RowKit.wrap64]; done)), H', ⟨by first | omega | exact Nat.le_refl _⟩, ⟨by exact B0_.1⟩, ⟨by exact B1_.1⟩, ⟨by repeat (first | (with_reducible first | exact HB.1 | apply bA | apply pD | apply b1 | apply bS E0_.1 | apply bS E1_.1) | exact HB.1)⟩⟩
    rw [if_neg c14] at H
    have c14b0 : decide (a2 < 0) = false := decide_eq_false c14
    clear c14
    by_cases c18 : a3 < 0
    ·rw [if_pos c18] at H
     have c18b0 : decide (a3 < 0) = true := decide_eq_true c18
     clear c18
     have H' := mk H
     clear H
     have hnb19 := N01_.1
     have hnc19 := N10_.1
     have hcz20_0 : w11.cell? ⟨g0_, 0, none⟩ = some (.int .i64 a0_0) := bt B0_.1 0
     have hcz20_1 : w11.cell? ⟨g0_, 1, none⟩ = some (.int .i64 a0_1) := bt B0_.1 1
     have hcz20_2 : w11.cell? ⟨g0_, 2, none⟩ = some (.int .i64 a0_2) := bt B0_.1 2
     have hcz20_3 : w11.cell? ⟨g0_, 3, none⟩ = some (.int .i64 a0_3) := bt B0_.1 3
     have hcz20_4 : w11.cell? ⟨g0_, 4, none⟩ = some (.int .i64 a0_4) := bt B0_.1 4
     have hcz20_5 : w11.cell? ⟨g0_, 5, none⟩ = some (.int .i64 a0_5) := bt B0_.1 5
     have hcz20_6 : w11.cell? ⟨g0_, 6, none⟩ = some (.int .i64 a0_6) := bt B0_.1 6
     have hcz20_7 : w11.cell? ⟨g0_, 7, none⟩ = some (.int .i64 a0_7) := bt B0_.1 7
     have hcz20_8 : w11.cell? ⟨g0_, 8, none⟩ = some (.int .i64 a0_8) := bt B0_.1 8
     have hcz20_9 : w11.cell? ⟨g0_, 9, none⟩ = some (.int .i64 a0_9) := bt B0_.1 9
     have hcz20_10 : w11.cell? ⟨g0_, 10, none⟩ = some (.int .i64 a0_10) := bt B0_.1 10
     have hcz20_11 : w11.cell? ⟨g0_, 11, none⟩ = some (.int .i64 a0_11) := bt B0_.1 11
     have hfz20_0 := blk_frozen B0_.1 0
     have hfz20_1 := blk_frozen B0_.1 1
     have hfz20_2 := blk_frozen B0_.1 2
     have hfz20_3 := blk_frozen B0_.1 3
     have hfz20_4 := blk_frozen B0_.1 4
     have hfz20_5 := blk_frozen B0_.1 5
     have hfz20_6 := blk_frozen B0_.1 6
     have hfz20_7 := blk_frozen B0_.1 7
     have hfz20_8 := blk_frozen B0_.1 8
     have hfz20_9 := blk_frozen B0_.1 9
     have hfz20_10 := blk_frozen B0_.1 10
     have hfz20_11 := blk_frozen B0_.1 11
     go_wp2_with (first | ((with_reducible refine gate_callee (f := 24) rfl ?_); refine goesL_ (some 21) rfl rfl Try.func24 (by kernel_rfl) rfl #[.agg #[.int .i64 a0_0, .int .i64 a0_1, .int .i64 a0_2, .int .i64 a0_3, .int .i64 a0_4, .int .i64 a0_5, .int .i64 a0_6, .int .i64 a0_7, .int .i64 a0_8, .int .i64 a0_9, .int .i64 a0_10, .int .i64 a0_11]] rfl (by (try simp only [List.map_toArray, List.map_cons, List.map_nil]); first | done | rfl | (simp only [List.length_drop, List.length_take]; rfl)) ?_; (with_reducible refine (limit_Check.calls k a0_0 a0_1 a0_2 a0_3 a0_4 a0_5 a0_6 a0_7 a0_8 a0_9 a0_10 a0_11 t212 _ A12.1).mono ?_); rintro e w21 ⟨rfl, hb⟩; refine ⟨_, rfl, ?_⟩; have n0_ := bb hb B0_.1; have n1_ := bb hb B1_.1; have n2_ := mk (below_step (by repeat first | exact HB.1 | apply pD) hb); clear B0_; clear B1_; clear HB; have B0_ := n0_; have B1_ := n1_; have HB := n2_; clear n0_ n1_ n2_; (try clear hb); (try clear hb2); (try clear hk); (try clear hi)))
     go_meet
     case rel => exact ⟨_, (true), (by first | rfl | (simp; done) | (simp [*]; done) | (simp [Int.tdiv_eq_ediv_of_nonneg]; done) | (simp [Go.RowKit.wrap64]; done) | (simp [*, Go.RowKit.wrap64]; done)), H', ⟨by first | omega | exact Nat.le_refl _⟩, ⟨by exact B0_.1⟩, ⟨by exact B1_.1⟩, ⟨by repeat (first | (with_reducible first | exact HB.1 | apply bA | apply pD | apply b1 | apply bS E0_.1 | apply bS E1_.1) | exact HB.1)⟩⟩
    rw [if_neg c18] at H
    have c18b0 : decide (a3 < 0) = false := decide_eq_false c18
    clear c18
    by_cases c22 : a2 > 288230376151711744
    ·rw [if_pos c22] at H
     have c22b0 : decide (288230376151711744 < a2) = true := decide_eq_true c22
     clear c22
     have H' := mk H
     clear H
     have hnb23 := N01_.1
     have hnc23 := N10_.1
     have hcz24_0 : w11.cell? ⟨g0_, 0, none⟩ = some (.int .i64 a0_0) := bt B0_.1 0
     have hcz24_1 : w11.cell? ⟨g0_, 1, none⟩ = some (.int .i64 a0_1) := bt B0_.1 1
     have hcz24_2 : w11.cell? ⟨g0_, 2, none⟩ = some (.int .i64 a0_2) := bt B0_.1 2
     have hcz24_3 : w11.cell? ⟨g0_, 3, none⟩ = some (.int .i64 a0_3) := bt B0_.1 3
     have hcz24_4 : w11.cell? ⟨g0_, 4, none⟩ = some (.int .i64 a0_4) := bt B0_.1 4
     have hcz24_5 : w11.cell? ⟨g0_, 5, none⟩ = some (.int .i64 a0_5) := bt B0_.1 5
     have hcz24_6 : w11.cell? ⟨g0_, 6, none⟩ = some (.int .i64 a0_6) := bt B0_.1 6
     have hcz24_7 : w11.cell? ⟨g0_, 7, none⟩ = some (.int .i64 a0_7) := bt B0_.1 7
     have hcz24_8 : w11.cell? ⟨g0_, 8, none⟩ = some (.int .i64 a0_8) := bt B0_.1 8
     have hcz24_9 : w11.cell? ⟨g0_, 9, none⟩ = some (.int .i64 a0_9) := bt B0_.1 9
     have hcz24_10 : w11.cell? ⟨g0_, 10, none⟩ = some (.int .i64 a0_10) := bt B0_.1 10
     have hcz24_11 : w11.cell? ⟨g0_, 11, none⟩ = some (.int .i64 a0_11) := bt B0_.1 11
     have hfz24_0 := blk_frozen B0_.1 0
     have hfz24_1 := blk_frozen B0_.1 1
     have hfz24_2 := blk_frozen B0_.1 2
     have hfz24_3 := blk_frozen B0_.1 3
     have hfz24_4 := blk_frozen B0_.1 4
     have hfz24_5 := blk_frozen B0_.1 5
     have hfz24_6 := blk_frozen B0_.1 6
     have hfz24_7 := blk_frozen B0_.1 7
     have hfz24_8 := blk_frozen B0_.1 8
     have hfz24_9 := blk_frozen B0_.1 9
     have hfz24_10 := blk_frozen B0_.1 10
     have hfz24_11 := blk_frozen B0_.1 11
     go_wp2_with (first | ((with_reducible refine gate_callee (f := 24) rfl ?_); refine goesL_ (some 21) rfl rfl Try.func24 (by kernel_rfl) rfl #[.agg #[.int .i64 a0_0, .int .i64 a0_1, .int .i64 a0_2, .int .i64 a0_3, .int .i64 a0_4, .int .i64 a0_5, .int .i64 a0_6, .int .i64 a0_7, .int .i64 a0_8, .int .i64 a0_9, .int .i64 a0_10, .int .i64 a0_11]] rfl (by (try simp only [List.map_toArray, List.map_cons, List.map_nil]); first | done | rfl | (simp only [List.length_drop, List.length_take]; rfl)) ?_; (with_reducible refine (limit_Check.calls k a0_0 a0_1 a0_2 a0_3 a0_4 a0_5 a0_6 a0_7 a0_8 a0_9 a0_10 a0_11 t212 _ A12.1).mono ?_); rintro e w25 ⟨rfl, hb⟩; refine ⟨_, rfl, ?_⟩; have n0_ := bb hb B0_.1; have n1_ := bb hb B1_.1; have n2_ := mk (below_step (by repeat first | exact HB.1 | apply pD) hb); clear B0_; clear B1_; clear HB; have B0_ := n0_; have B1_ := n1_; have HB := n2_; clear n0_ n1_ n2_; (try clear hb); (try clear hb2); (try clear hk); (try clear hi)))
     go_meet
     case rel => exact ⟨_, (true), (by first | rfl | (simp; done) | (simp [*]; done) | (simp [Int.tdiv_eq_ediv_of_nonneg]; done) | (simp [Go.RowKit.wrap64]; done) | (simp [*, Go.RowKit.wrap64]; done)), H', ⟨by first | omega | exact Nat.le_refl _⟩, ⟨by exact B0_.1⟩, ⟨by exact B1_.1⟩, ⟨by repeat (first | (with_reducible first | exact HB.1 | apply bA | apply pD | apply b1 | apply bS E0_.1 | apply bS E1_.1) | exact HB.1)⟩⟩
    rw [if_neg c22] at H
    have c22b0 : decide (288230376151711744 < a2) = false := decide_eq_false c22
    clear c22
    have H' := mk H
    clear H
    have hnb26 := N01_.1
    have hnc26 := N10_.1
    have hcz27_0 : w11.cell? ⟨g0_, 0, none⟩ = some (.int .i64 a0_0) := bt B0_.1 0
    have hcz27_1 : w11.cell? ⟨g0_, 1, none⟩ = some (.int .i64 a0_1) := bt B0_.1 1
    have hcz27_2 : w11.cell? ⟨g0_, 2, none⟩ = some (.int .i64 a0_2) := bt B0_.1 2
    have hcz27_3 : w11.cell? ⟨g0_, 3, none⟩ = some (.int .i64 a0_3) := bt B0_.1 3
    have hcz27_4 : w11.cell? ⟨g0_, 4, none⟩ = some (.int .i64 a0_4) := bt B0_.1 4
    have hcz27_5 : w11.cell? ⟨g0_, 5, none⟩ = some (.int .i64 a0_5) := bt B0_.1 5
    have hcz27_6 : w11.cell? ⟨g0_, 6, none⟩ = some (.int .i64 a0_6) := bt B0_.1 6
    have hcz27_7 : w11.cell? ⟨g0_, 7, none⟩ = some (.int .i64 a0_7) := bt B0_.1 7
    have hcz27_8 : w11.cell? ⟨g0_, 8, none⟩ = some (.int .i64 a0_8) := bt B0_.1 8
    have hcz27_9 : w11.cell? ⟨g0_, 9, none⟩ = some (.int .i64 a0_9) := bt B0_.1 9
    have hcz27_10 : w11.cell? ⟨g0_, 10, none⟩ = some (.int .i64 a0_10) := bt B0_.1 10
    have hcz27_11 : w11.cell? ⟨g0_, 11, none⟩ = some (.int .i64 a0_11) := bt B0_.1 11
    have hfz27_0 := blk_frozen B0_.1 0
    have hfz27_1 := blk_frozen B0_.1 1
    have hfz27_2 := blk_frozen B0_.1 2
    have hfz27_3 := blk_frozen B0_.1 3
    have hfz27_4 := blk_frozen B0_.1 4
    have hfz27_5 := blk_frozen B0_.1 5
    have hfz27_6 := blk_frozen B0_.1 6
    have hfz27_7 := blk_frozen B0_.1 7
    have hfz27_8 := blk_frozen B0_.1 8
    have hfz27_9 := blk_frozen B0_.1 9
    have hfz27_10 := blk_frozen B0_.1 10
    have hfz27_11 := blk_frozen B0_.1 11
    go_wp2_with (first | ((with_reducible refine gate_callee (f := 24) rfl ?_); refine goesL_ (some 21) rfl rfl Try.func24 (by kernel_rfl) rfl #[.agg #[.int .i64 a0_0, .int .i64 a0_1, .int .i64 a0_2, .int .i64 a0_3, .int .i64 a0_4, .int .i64 a0_5, .int .i64 a0_6, .int .i64 a0_7, .int .i64 a0_8, .int .i64 a0_9, .int .i64 a0_10, .int .i64 a0_11]] rfl (by (try simp only [List.map_toArray, List.map_cons, List.map_nil]); first | done | rfl | (simp only [List.length_drop, List.length_take]; rfl)) ?_; (with_reducible refine (limit_Check.calls k a0_0 a0_1 a0_2 a0_3 a0_4 a0_5 a0_6 a0_7 a0_8 a0_9 a0_10 a0_11 t212 _ A12.1).mono ?_); rintro e w28 ⟨rfl, hb⟩; refine ⟨_, rfl, ?_⟩; have n0_ := bb hb B0_.1; have n1_ := bb hb B1_.1; have n2_ := mk (below_step (by repeat first | exact HB.1 | apply pD) hb); clear B0_; clear B1_; clear HB; have B0_ := n0_; have B1_ := n1_; have HB := n2_; clear n0_ n1_ n2_; (try clear hb); (try clear hb2); (try clear hk); (try clear hi)))
    go_meet
    case rel => exact ⟨_, (decide (a3 > 288230376151711744)), (by first | rfl | (simp; done) | (simp [*]; done) | (simp [Int.tdiv_eq_ediv_of_nonneg]; done) | (simp [Go.RowKit.wrap64]; done) | (simp [*, Go.RowKit.wrap64]; done)), H', ⟨by first | omega | exact Nat.le_refl _⟩, ⟨by exact B0_.1⟩, ⟨by exact B1_.1⟩, ⟨by repeat (first | (with_reducible first | exact HB.1 | apply bA | apply pD | apply b1 | apply bS E0_.1 | apply bS E1_.1) | exact HB.1)⟩⟩
   rw [if_neg c13] at H
   have c13b0 : (t212 == 0) = false := beq_eq_false_iff_ne.mpr c13
   have c13b1 : (t212 != 0) = true := bne_iff_ne.mpr c13
   (first | rw [c13b0] | (simp only [i64_w, i32_w]; rw [c13b0]) | skip)
   have H' := mk H
   clear H
   have hnb29 := N01_.1
   have hnc29 := N10_.1
   have hcz30_0 : w11.cell? ⟨g0_, 0, none⟩ = some (.int .i64 a0_0) := bt B0_.1 0
   have hcz30_1 : w11.cell? ⟨g0_, 1, none⟩ = some (.int .i64 a0_1) := bt B0_.1 1
   have hcz30_2 : w11.cell? ⟨g0_, 2, none⟩ = some (.int .i64 a0_2) := bt B0_.1 2
   have hcz30_3 : w11.cell? ⟨g0_, 3, none⟩ = some (.int .i64 a0_3) := bt B0_.1 3
   have hcz30_4 : w11.cell? ⟨g0_, 4, none⟩ = some (.int .i64 a0_4) := bt B0_.1 4
   have hcz30_5 : w11.cell? ⟨g0_, 5, none⟩ = some (.int .i64 a0_5) := bt B0_.1 5
   have hcz30_6 : w11.cell? ⟨g0_, 6, none⟩ = some (.int .i64 a0_6) := bt B0_.1 6
   have hcz30_7 : w11.cell? ⟨g0_, 7, none⟩ = some (.int .i64 a0_7) := bt B0_.1 7
   have hcz30_8 : w11.cell? ⟨g0_, 8, none⟩ = some (.int .i64 a0_8) := bt B0_.1 8
   have hcz30_9 : w11.cell? ⟨g0_, 9, none⟩ = some (.int .i64 a0_9) := bt B0_.1 9
   have hcz30_10 : w11.cell? ⟨g0_, 10, none⟩ = some (.int .i64 a0_10) := bt B0_.1 10
   have hcz30_11 : w11.cell? ⟨g0_, 11, none⟩ = some (.int .i64 a0_11) := bt B0_.1 11
   have hfz30_0 := blk_frozen B0_.1 0
   have hfz30_1 := blk_frozen B0_.1 1
   have hfz30_2 := blk_frozen B0_.1 2
   have hfz30_3 := blk_frozen B0_.1 3
   have hfz30_4 := blk_frozen B0_.1 4
   have hfz30_5 := blk_frozen B0_.1 5
   have hfz30_6 := blk_frozen B0_.1 6
   have hfz30_7 := blk_frozen B0_.1 7
   have hfz30_8 := blk_frozen B0_.1 8
   have hfz30_9 := blk_frozen B0_.1 9
   have hfz30_10 := blk_frozen B0_.1 10
   have hfz30_11 := blk_frozen B0_.1 11
   go_wp2_with (first | ((with_reducible refine gate_callee (f := 24) rfl ?_); refine goesL_ (some 21) rfl rfl Try.func24 (by kernel_rfl) rfl #[.agg #[.int .i64 a0_0, .int .i64 a0_1, .int .i64 a0_2, .int .i64 a0_3, .int .i64 a0_4, .int .i64 a0_5, .int .i64 a0_6, .int .i64 a0_7, .int .i64 a0_8, .int .i64 a0_9, .int .i64 a0_10, .int .i64 a0_11]] rfl (by (try simp only [List.map_toArray, List.map_cons, List.map_nil]); first | done | rfl | (simp only [List.length_drop, List.length_take]; rfl)) ?_; (with_reducible refine (limit_Check.calls k a0_0 a0_1 a0_2 a0_3 a0_4 a0_5 a0_6 a0_7 a0_8 a0_9 a0_10 a0_11 t212 _ A12.1).mono ?_); rintro e w31 ⟨rfl, hb⟩; refine ⟨_, rfl, ?_⟩; have n0_ := bb hb B0_.1; have n1_ := bb hb B1_.1; have n2_ := mk (below_step (by repeat first | exact HB.1 | apply pD) hb); clear B0_; clear B1_; clear HB; have B0_ := n0_; have B1_ := n1_; have HB := n2_; clear n0_ n1_ n2_; (try clear hb); (try clear hb2); (try clear hk); (try clear hi)))
   go_meet
   case rel => exact ⟨_, (true), (by first | rfl | (simp; done) | (simp [*]; done) | (simp [Int.tdiv_eq_ediv_of_nonneg]; done) | (simp [Go.RowKit.wrap64]; done) | (simp [*, Go.RowKit.wrap64]; done)), H', ⟨by first | omega | exact Nat.le_refl _⟩, ⟨by exact B0_.1⟩, ⟨by exact B1_.1⟩, ⟨by repeat (first | (with_reducible first | exact HB.1 | apply bA | apply pD | apply b1 | apply bS E0_.1 | apply bS E1_.1) | exact HB.1)⟩⟩
  case rest =>
   clear HC8
   try clear c1
   try clear c2
   try clear p2
   try clear c6
   try clear c7
   try clear c13
   try clear c13b0
   try clear c13b1
   try clear c14
   try clear c14b0
   try clear c15
   try clear c18
   try clear c18b0
   try clear c19
   try clear c22
   try clear c22b0
   try clear c23
   try clear c24
   try clear c26
   try clear c29
   try clear hcz16_0
   try clear hcz16_1
   try clear hcz16_10
   try clear hcz16_11
   try clear hcz16_2
   try clear hcz16_3
   try clear hcz16_4
   try clear hcz16_5
   try clear hcz16_6
   try clear hcz16_7
   try clear hcz16_8
   try clear hcz16_9
   try clear hcz20_0
   try clear hcz20_1
   try clear hcz20_10
   try clear hcz20_11
   try clear hcz20_2
   try clear hcz20_3
   try clear hcz20_4
   try clear hcz20_5
   try clear hcz20_6
   try clear hcz20_7
   try clear hcz20_8
   try clear hcz20_9
   try clear hcz24_0
   try clear hcz24_1
   try clear hcz24_10
   try clear hcz24_11
   try clear hcz24_2
   try clear hcz24_3
   try clear hcz24_4
   try clear hcz24_5
   try clear hcz24_6
   try clear hcz24_7
   try clear hcz24_8
   try clear hcz24_9
   try clear hcz27_0
   try clear hcz27_1
   try clear hcz27_10
   try clear hcz27_11
   try clear hcz27_2
   try clear hcz27_3
   try clear hcz27_4
   try clear hcz27_5
   try clear hcz27_6
   try clear hcz27_7
   try clear hcz27_8
   try clear hcz27_9
   try clear hcz30_0
   try clear hcz30_1
   try clear hcz30_10
   try clear hcz30_11
   try clear hcz30_2
   try clear hcz30_3
   try clear hcz30_4
   try clear hcz30_5
   try clear hcz30_6
   try clear hcz30_7
   try clear hcz30_8
   try clear hcz30_9
   try clear hfz16_0
   try clear hfz16_1
   try clear hfz16_10
   try clear hfz16_11
   try clear hfz16_2
   try clear hfz16_3
   try clear hfz16_4
   try clear hfz16_5
   try clear hfz16_6
   try clear hfz16_7
   try clear hfz16_8
   try clear hfz16_9
   try clear hfz20_0
   try clear hfz20_1
   try clear hfz20_10
   try clear hfz20_11
   try clear hfz20_2
   try clear hfz20_3
   try clear hfz20_4
   try clear hfz20_5
   try clear hfz20_6
   try clear hfz20_7
   try clear hfz20_8
   try clear hfz20_9
   try clear hfz24_0
   try clear hfz24_1
   try clear hfz24_10
   try clear hfz24_11
   try clear hfz24_2
   try clear hfz24_3
   try clear hfz24_4
   try clear hfz24_5
   try clear hfz24_6
   try clear hfz24_7
   try clear hfz24_8
   try clear hfz24_9
   try clear hfz27_0
   try clear hfz27_1
   try clear hfz27_10
   try clear hfz27_11
   try clear hfz27_2
   try clear hfz27_3
   try clear hfz27_4
   try clear hfz27_5
   try clear hfz27_6
   try clear hfz27_7
   try clear hfz27_8
   try clear hfz27_9
   try clear hfz30_0
   try clear hfz30_1
   try clear hfz30_10
   try clear hfz30_11
   try clear hfz30_2
   try clear hfz30_3
   try clear hfz30_4
   try clear hfz30_5
   try clear hfz30_6
   try clear hfz30_7
   try clear hfz30_8
   try clear hfz30_9
   obtain ⟨kq, x38_7, rfl, HA, HJ7, B0_, B1_, HB⟩ := hcut
   cases kq with
   | zero => exact absurd HA.out (by simp [clepsydralaw11_CarryWithin.j0])
   | succ kj7 =>
    have H := HA.out
    clear HA
    simp only [clepsydralaw11_CarryWithin.j0] at H
    by_cases c32 : x38_7 = true
    ·subst c32
     have H1 : (some true) = some r := by rw [if_pos rfl] at H; exact H
     clear H
     have H := H1
     clear H1
     obtain rfl := Option.some.inj H
     go_wp2
     go_ret
     exact ⟨by first | rfl | (simp [errW_none, errW_some] <;> rfl) | (simp [*, errW_none, errW_some] <;> rfl), by repeat (first | (with_reducible first | exact HB.1 | apply bA | apply pD | apply b1 | apply bS E0_.1 | apply bS E1_.1) | exact HB.1)⟩
    replace c32 := Bool.eq_false_iff.mpr c32
    subst c32
    have H1 : (if a1_0 > 288230376151711744 then (some true) else (if a1_0 < (-288230376151711744) then (some true) else (if a1_1 > 288230376151711744 then (some true) else (if a1_1 < (-288230376151711744) then (some true) else (if a4 > 288230376151711744 then (some true) else (if a4 < (-288230376151711744) then (some true) else ((carry_Hold.f kj7 a0_0 a0_1 a0_2 a0_3 a0_4 a0_5 a0_6 a0_7 a0_8 a0_9 a0_10 a0_11 a1_0 a1_1 a4).bind fun bt214 => ((carry_Hold.f kj7 a0_0 a0_1 a0_2 a0_3 a0_4 a0_5 a0_6 a0_7 a0_8 a0_9 a0_10 a0_11 (wrap64 (a1_0 - a2)) (wrap64 (a1_1 + a3)) a4).bind fun bt216 => ((carry_Way.f kj7 a0_0 a0_1 a0_2 a0_3 a0_4 a0_5 a0_6 a0_7 a0_8 a0_9 a0_10 a0_11 a1_0 a1_1 a4).bind fun bt220 => ((carry_Way.f kj7 a0_0 a0_1 a0_2 a0_3 a0_4 a0_5 a0_6 a0_7 a0_8 a0_9 a0_10 a0_11 (wrap64 (a1_0 - a2)) (wrap64 (a1_1 + a3)) a4).bind fun bt222 => (if bt216.1 ≤ bt214.1 then (if bt214.2 ≤ bt216.2 then (if bt222.1 ≤ bt220.1 then (some (decide (bt220.2 ≤ bt222.2))) else (some false)) else (some false)) else (some false)))))))))))) = some r := by rw [if_neg (show ¬ (false = true) by decide)] at H; exact H
    clear H
    have H := H1
    clear H1
    by_cases c33 : a1_0 > 288230376151711744
    ·rw [if_pos c33] at H
     have c33b0 : decide (288230376151711744 < a1_0) = true := decide_eq_true c33
     clear c33
     obtain rfl := Option.some.inj H
     have hnb34 := N10_.1
     have hnc34 := N01_.1
     have hcz35_0 : wc.cell? ⟨g1_, 0, none⟩ = some (.int .i64 a1_0) := bt B1_.1 0
     have hcz35_1 : wc.cell? ⟨g1_, 1, none⟩ = some (.int .i64 a1_1) := bt B1_.1 1
     have hfz35_0 := blk_frozen B1_.1 0
     have hfz35_1 := blk_frozen B1_.1 1
     try go_wp2
     refine wp_loop_rounds 4 ?_; rw [rounds_succ]
     try go_wp2
     go_ret
     exact ⟨by first | rfl | (simp [errW_none, errW_some] <;> rfl) | (simp [*, errW_none, errW_some] <;> rfl), by repeat (first | (with_reducible first | exact HB.1 | apply bA | apply pD | apply b1 | apply bS E0_.1 | apply bS E1_.1) | exact HB.1)⟩
    rw [if_neg c33] at H
    have c33b0 : decide (288230376151711744 < a1_0) = false := decide_eq_false c33
    clear c33
    by_cases c36 : a1_0 < (-288230376151711744)
    ·rw [if_pos c36] at H
     have c36b0 : decide (a1_0 < (-288230376151711744)) = true := decide_eq_true c36
     clear c36
     obtain rfl := Option.some.inj H
     have hnb37 := N10_.1
     have hnc37 := N01_.1
     have hcz38_0 : wc.cell? ⟨g1_, 0, none⟩ = some (.int .i64 a1_0) := bt B1_.1 0
     have hcz38_1 : wc.cell? ⟨g1_, 1, none⟩ = some (.int .i64 a1_1) := bt B1_.1 1
     have hfz38_0 := blk_frozen B1_.1 0
     have hfz38_1 := blk_frozen B1_.1 1
     try go_wp2
     refine wp_loop_rounds 4 ?_; rw [rounds_succ]
     try go_wp2
     go_ret
     exact ⟨by first | rfl | (simp [errW_none, errW_some] <;> rfl) | (simp [*, errW_none, errW_some] <;> rfl), by repeat (first | (with_reducible first | exact HB.1 | apply bA | apply pD | apply b1 | apply bS E0_.1 | apply bS E1_.1) | exact HB.1)⟩
    rw [if_neg c36] at H
    have c36b0 : decide (a1_0 < (-288230376151711744)) = false := decide_eq_false c36
    clear c36
    by_cases c39 : a1_1 > 288230376151711744
    ·rw [if_pos c39] at H
     have c39b0 : decide (288230376151711744 < a1_1) = true := decide_eq_true c39
     clear c39
     obtain rfl := Option.some.inj H
     have hnb40 := N10_.1
     have hnc40 := N01_.1
     have hcz41_0 : wc.cell? ⟨g1_, 0, none⟩ = some (.int .i64 a1_0) := bt B1_.1 0
     have hcz41_1 : wc.cell? ⟨g1_, 1, none⟩ = some (.int .i64 a1_1) := bt B1_.1 1
     have hfz41_0 := blk_frozen B1_.1 0
     have hfz41_1 := blk_frozen B1_.1 1
     try go_wp2
     refine wp_loop_rounds 4 ?_; rw [rounds_succ]
     try go_wp2
     rw [rounds_succ]
     try go_wp2
     go_ret
     exact ⟨by first | rfl | (simp [errW_none, errW_some] <;> rfl) | (simp [*, errW_none, errW_some] <;> rfl), by repeat (first | (with_reducible first | exact HB.1 | apply bA | apply pD | apply b1 | apply bS E0_.1 | apply bS E1_.1) | exact HB.1)⟩
    rw [if_neg c39] at H
    have c39b0 : decide (288230376151711744 < a1_1) = false := decide_eq_false c39
    clear c39
    by_cases c42 : a1_1 < (-288230376151711744)
    ·rw [if_pos c42] at H
     have c42b0 : decide (a1_1 < (-288230376151711744)) = true := decide_eq_true c42
     clear c42
     obtain rfl := Option.some.inj H
     have hnb43 := N10_.1
     have hnc43 := N01_.1
     have hcz44_0 : wc.cell? ⟨g1_, 0, none⟩ = some (.int .i64 a1_0) := bt B1_.1 0
     have hcz44_1 : wc.cell? ⟨g1_, 1, none⟩ = some (.int .i64 a1_1) := bt B1_.1 1
     have hfz44_0 := blk_frozen B1_.1 0
     have hfz44_1 := blk_frozen B1_.1 1
     try go_wp2
     refine wp_loop_rounds 4 ?_; rw [rounds_succ]
     try go_wp2
     rw [rounds_succ]
     try go_wp2
     go_ret
     exact ⟨by first | rfl | (simp [errW_none, errW_some] <;> rfl) | (simp [*, errW_none, errW_some] <;> rfl), by repeat (first | (with_reducible first | exact HB.1 | apply bA | apply pD | apply b1 | apply bS E0_.1 | apply bS E1_.1) | exact HB.1)⟩
    rw [if_neg c42] at H
    have c42b0 : decide (a1_1 < (-288230376151711744)) = false := decide_eq_false c42
    clear c42
    by_cases c45 : a4 > 288230376151711744
    ·rw [if_pos c45] at H
     have c45b0 : decide (288230376151711744 < a4) = true := decide_eq_true c45
     clear c45
     obtain rfl := Option.some.inj H
     have hnb46 := N10_.1
     have hnc46 := N01_.1
     have hcz47_0 : wc.cell? ⟨g1_, 0, none⟩ = some (.int .i64 a1_0) := bt B1_.1 0
     have hcz47_1 : wc.cell? ⟨g1_, 1, none⟩ = some (.int .i64 a1_1) := bt B1_.1 1
     have hfz47_0 := blk_frozen B1_.1 0
     have hfz47_1 := blk_frozen B1_.1 1
     try go_wp2
     refine wp_loop_rounds 4 ?_; rw [rounds_succ]
     try go_wp2
     rw [rounds_succ]
     try go_wp2
     rw [rounds_succ]
     try go_wp2
     go_ret
     exact ⟨by first | rfl | (simp [errW_none, errW_some] <;> rfl) | (simp [*, errW_none, errW_some] <;> rfl), by repeat (first | (with_reducible first | exact HB.1 | apply bA | apply pD | apply b1 | apply bS E0_.1 | apply bS E1_.1) | exact HB.1)⟩
    rw [if_neg c45] at H
    have c45b0 : decide (288230376151711744 < a4) = false := decide_eq_false c45
    clear c45
    by_cases c48 : a4 < (-288230376151711744)
    ·rw [if_pos c48] at H
     have c48b0 : decide (a4 < (-288230376151711744)) = true := decide_eq_true c48
     clear c48
     obtain rfl := Option.some.inj H
     have hnb49 := N10_.1
     have hnc49 := N01_.1
     have hcz50_0 : wc.cell? ⟨g1_, 0, none⟩ = some (.int .i64 a1_0) := bt B1_.1 0
     have hcz50_1 : wc.cell? ⟨g1_, 1, none⟩ = some (.int .i64 a1_1) := bt B1_.1 1
     have hfz50_0 := blk_frozen B1_.1 0
     have hfz50_1 := blk_frozen B1_.1 1
     try go_wp2
     refine wp_loop_rounds 4 ?_; rw [rounds_succ]
     try go_wp2
     rw [rounds_succ]
     try go_wp2
     rw [rounds_succ]
     try go_wp2
     go_ret
     exact ⟨by first | rfl | (simp [errW_none, errW_some] <;> rfl) | (simp [*, errW_none, errW_some] <;> rfl), by repeat (first | (with_reducible first | exact HB.1 | apply bA | apply pD | apply b1 | apply bS E0_.1 | apply bS E1_.1) | exact HB.1)⟩
    rw [if_neg c48] at H
    have c48b0 : decide (a4 < (-288230376151711744)) = false := decide_eq_false c48
    clear c48
    replace H := Option.bind_eq_some_iff.mp H
    obtain ⟨⟨t214, t215⟩, A510, H⟩ := H
    replace H : ((carry_Hold.f kj7 a0_0 a0_1 a0_2 a0_3 a0_4 a0_5 a0_6 a0_7 a0_8 a0_9 a0_10 a0_11 (wrap64 (a1_0 - a2)) (wrap64 (a1_1 + a3)) a4).bind fun bt216 => ((carry_Way.f kj7 a0_0 a0_1 a0_2 a0_3 a0_4 a0_5 a0_6 a0_7 a0_8 a0_9 a0_10 a0_11 a1_0 a1_1 a4).bind fun bt220 => ((carry_Way.f kj7 a0_0 a0_1 a0_2 a0_3 a0_4 a0_5 a0_6 a0_7 a0_8 a0_9 a0_10 a0_11 (wrap64 (a1_0 - a2)) (wrap64 (a1_1 + a3)) a4).bind fun bt222 => (if bt216.1 ≤ t214 then (if t215 ≤ bt216.2 then (if bt222.1 ≤ bt220.1 then (some (decide (bt220.2 ≤ bt222.2))) else (some false)) else (some false)) else (some false))))) = some r := H
    have A51 := mk A510
    clear A510
    replace H := Option.bind_eq_some_iff.mp H
    obtain ⟨⟨t216, t217⟩, A520, H⟩ := H
    replace H : ((carry_Way.f kj7 a0_0 a0_1 a0_2 a0_3 a0_4 a0_5 a0_6 a0_7 a0_8 a0_9 a0_10 a0_11 a1_0 a1_1 a4).bind fun bt220 => ((carry_Way.f kj7 a0_0 a0_1 a0_2 a0_3 a0_4 a0_5 a0_6 a0_7 a0_8 a0_9 a0_10 a0_11 (wrap64 (a1_0 - a2)) (wrap64 (a1_1 + a3)) a4).bind fun bt222 => (if t216 ≤ t214 then (if t215 ≤ t217 then (if bt222.1 ≤ bt220.1 then (some (decide (bt220.2 ≤ bt222.2))) else (some false)) else (some false)) else (some false)))) = some r := H
    have A52 := mk A520
    clear A520
    replace H := Option.bind_eq_some_iff.mp H
    obtain ⟨⟨t220, t221⟩, A530, H⟩ := H
    replace H : ((carry_Way.f kj7 a0_0 a0_1 a0_2 a0_3 a0_4 a0_5 a0_6 a0_7 a0_8 a0_9 a0_10 a0_11 (wrap64 (a1_0 - a2)) (wrap64 (a1_1 + a3)) a4).bind fun bt222 => (if t216 ≤ t214 then (if t215 ≤ t217 then (if bt222.1 ≤ t220 then (some (decide (t221 ≤ bt222.2))) else (some false)) else (some false)) else (some false))) = some r := H
    have A53 := mk A530
    clear A530
    replace H := Option.bind_eq_some_iff.mp H
    obtain ⟨⟨t222, t223⟩, A540, H⟩ := H
    replace H : (if t216 ≤ t214 then (if t215 ≤ t217 then (if t222 ≤ t220 then (some (decide (t221 ≤ t223))) else (some false)) else (some false)) else (some false)) = some r := H
    have A54 := mk A540
    clear A540
    by_cases c55 : t216 ≤ t214
    ·rw [if_pos c55] at H
     have c55b0 : decide (t216 ≤ t214) = true := decide_eq_true c55
     clear c55
     by_cases c56 : t215 ≤ t217
     ·rw [if_pos c56] at H
      have c56b0 : decide (t215 ≤ t217) = true := decide_eq_true c56
      clear c56
      by_cases c57 : t222 ≤ t220
      ·rw [if_pos c57] at H
       have c57b0 : decide (t222 ≤ t220) = true := decide_eq_true c57
       clear c57
       obtain rfl := Option.some.inj H
       have hnb58 := N10_.1
       have hnc58 := N01_.1
       have hcz59_0 : wc.cell? ⟨g1_, 0, none⟩ = some (.int .i64 a1_0) := bt B1_.1 0
       have hcz59_1 : wc.cell? ⟨g1_, 1, none⟩ = some (.int .i64 a1_1) := bt B1_.1 1
       have hfz59_0 := blk_frozen B1_.1 0
       have hfz59_1 := blk_frozen B1_.1 1
       try go_wp2
       refine wp_loop_rounds 4 ?_; rw [rounds_succ]
       try go_wp2
       rw [rounds_succ]
       try go_wp2
       rw [rounds_succ]
       try go_wp2
       rw [rounds_succ]
       try go_wp2_with (first | ((with_reducible refine gate_dst (N := 13) rfl ?_); refine box_event ?hg (N := 13) ?hd (cs := #[.int .i64 0, .int .i64 0]) (t := 25) ?hr ?_; (case hd => rfl); (case hg => rfl); (case hr => first | (go_simp; done) | (go_simp; rfl)); intro g2_ hg w60 hbox hb; have n0_ := bb hb B0_.1; have n1_ := bb hb B1_.1; have n2_ := mk (below_step (by repeat first | exact HB.1 | apply pD) hb); have n3_ := mk (hbox); have n4_ := gl hg (by repeat first | exact HB.1 | apply pD); have n5_ := gl hg (by repeat first | exact HB.1 | apply pD); have n6_ := nl hg B0_.1; have n7_ := ng hg B0_.1; have n8_ := nl hg B1_.1; have n9_ := ng hg B1_.1; clear B0_; clear B1_; clear HB; have B0_ := n0_; have B1_ := n1_; have HB := n2_; have B2_ := n3_; have W2_ := n4_; have E2_ := n5_; have N02_ := n6_; have N20_ := n7_; have N12_ := n8_; have N21_ := n9_; clear n0_ n1_ n2_ n3_ n4_ n5_ n6_ n7_ n8_ n9_; clear hb hbox hg; have hnb61 := N20_.1; have hnc61 := N02_.1; have hnb62 := N21_.1; have hnc62 := N12_.1; have hcz63_0 : w60.cell? ⟨g2_, 0, none⟩ = some (.int .i64 0) := bt B2_.1 0; have hcz63_1 : w60.cell? ⟨g2_, 1, none⟩ = some (.int .i64 0) := bt B2_.1 1; have hfz63_0 := blk_frozen B2_.1 0; have hfz63_1 := blk_frozen B2_.1 1))
       have n0_ : Aside0 (((w60.setCell ⟨g2_, 0, none⟩ (.int .i64 (wrap64 (a1_0 - a2)))).setCell ⟨g2_, 1, none⟩ (.int .i64 (wrap64 (a1_1 + a3)))).heap[g0_]? = some (.cells #[.int .i64 a0_0, .int .i64 a0_1, .int .i64 a0_2, .int .i64 a0_3, .int .i64 a0_4, .int .i64 a0_5, .int .i64 a0_6, .int .i64 a0_7, .int .i64 a0_8, .int .i64 a0_9, .int .i64 a0_10, .int .i64 a0_11] 23 (0, 0))) := ⟨by (with_reducible repeat (first | refine blk_drewN ?_ _ | refine blk_drew ?_ | refine blk_alloc ?_ _)); refine blk_far ?_ N02_.1 _; (with_reducible repeat (first | refine blk_drewN ?_ _ | refine blk_drew ?_ | refine blk_alloc ?_ _)); refine blk_far ?_ N02_.1 _; (with_reducible repeat (first | refine blk_drewN ?_ _ | refine blk_drew ?_ | refine blk_alloc ?_ _)); exact B0_.1⟩
       have n1_ : Aside0 (((w60.setCell ⟨g2_, 0, none⟩ (.int .i64 (wrap64 (a1_0 - a2)))).setCell ⟨g2_, 1, none⟩ (.int .i64 (wrap64 (a1_1 + a3)))).heap[g1_]? = some (.cells #[.int .i64 a1_0, .int .i64 a1_1] 25 (0, 0))) := ⟨by (with_reducible repeat (first | refine blk_drewN ?_ _ | refine blk_drew ?_ | refine blk_alloc ?_ _)); refine blk_far ?_ N12_.1 _; (with_reducible repeat (first | refine blk_drewN ?_ _ | refine blk_drew ?_ | refine blk_alloc ?_ _)); refine blk_far ?_ N12_.1 _; (with_reducible repeat (first | refine blk_drewN ?_ _ | refine blk_drew ?_ | refine blk_alloc ?_ _)); exact B1_.1⟩
       have n2_ : Aside0 (((w60.setCell ⟨g2_, 0, none⟩ (.int .i64 (wrap64 (a1_0 - a2)))).setCell ⟨g2_, 1, none⟩ (.int .i64 (wrap64 (a1_1 + a3)))).heap[g2_]? = some (.cells #[.int .i64 (wrap64 (a1_0 - a2)), .int .i64 (wrap64 (a1_1 + a3))] 25 (0, 0))) := ⟨by (with_reducible repeat (first | refine blk_drewN ?_ _ | refine blk_drew ?_ | refine blk_alloc ?_ _)); refine blk_put (cs := #[.int .i64 (wrap64 (a1_0 - a2)), .int .i64 0]) ?_ 1 _ rfl; (with_reducible repeat (first | refine blk_drewN ?_ _ | refine blk_drew ?_ | refine blk_alloc ?_ _)); refine blk_put (cs := #[.int .i64 0, .int .i64 0]) ?_ 0 _ rfl; (with_reducible repeat (first | refine blk_drewN ?_ _ | refine blk_drew ?_ | refine blk_alloc ?_ _)); exact B2_.1⟩
       have n3_ : Aside0 (Below w.heap.size w ((w60.setCell ⟨g2_, 0, none⟩ (.int .i64 (wrap64 (a1_0 - a2)))).setCell ⟨g2_, 1, none⟩ (.int .i64 (wrap64 (a1_1 + a3))))) := ⟨by repeat (first | (with_reducible first | exact HB.1 | apply bA | apply pD | apply b1 | apply bS E0_.1 | apply bS E1_.1 | apply bS E2_.1) | exact HB.1)⟩
       (try clear B0_)
       (try clear B1_)
       (try clear B2_)
       (try clear HB)
       generalize ((w60.setCell ⟨g2_, 0, none⟩ (.int .i64 (wrap64 (a1_0 - a2)))).setCell ⟨g2_, 1, none⟩ (.int .i64 (wrap64 (a1_1 + a3)))) = w64 at n0_ n1_ n2_ n3_ ⊢
       have B0_ := n0_
       have B1_ := n1_
       have B2_ := n2_
       have HB := n3_
       clear n0_ n1_ n2_ n3_
       have n0_ := mk (blk_drew B0_.1)
       have n1_ := mk (blk_drew B1_.1)
       have n2_ := mk (blk_drew B2_.1)
       have n3_ := mk (below_drew1 HB.1)
       clear B0_ B1_ B2_ HB
       have B0_ := n0_
       have B1_ := n1_
       have B2_ := n2_
       have HB := n3_
       clear n0_ n1_ n2_ n3_
       refine start_ (n := 12) (S := fun w' => w'.cell? ⟨g0_, 0, none⟩ = some (.int .i64 a0_0) ∧ w'.cell? ⟨g0_, 1, none⟩ = some (.int .i64 a0_1) ∧ w'.cell? ⟨g0_, 2, none⟩ = some (.int .i64 a0_2) ∧ w'.cell? ⟨g0_, 3, none⟩ = some (.int .i64 a0_3) ∧ w'.cell? ⟨g0_, 4, none⟩ = some (.int .i64 a0_4) ∧ w'.cell? ⟨g0_, 5, none⟩ = some (.int .i64 a0_5) ∧ w'.cell? ⟨g0_, 6, none⟩ = some (.int .i64 a0_6) ∧ w'.cell? ⟨g0_, 7, none⟩ = some (.int .i64 a0_7) ∧ w'.cell? ⟨g0_, 8, none⟩ = some (.int .i64 a0_8) ∧ w'.cell? ⟨g0_, 9, none⟩ = some (.int .i64 a0_9) ∧ w'.cell? ⟨g0_, 10, none⟩ = some (.int .i64 a0_10) ∧ w'.cell? ⟨g0_, 11, none⟩ = some (.int .i64 a0_11) ∧ w'.cell? ⟨g1_, 0, none⟩ = some (.int .i64 a1_0) ∧ w'.cell? ⟨g1_, 1, none⟩ = some (.int .i64 a1_1) ∧ w'.cell? ⟨g2_, 0, none⟩ = some (.int .i64 (wrap64 (a1_0 - a2))) ∧ w'.cell? ⟨g2_, 1, none⟩ = some (.int .i64 (wrap64 (a1_1 + a3)))) (ds := []) #[false, false, false, false, false, false, false, false, false, false, false, false] (by kernel_rfl) rfl rfl (c12t B0_.1 ⟨bt B1_.1 0, bt B1_.1 1, bt B2_.1 0, bt B2_.1 1⟩) (fun hHeld => ?_); refine with_tabW clepsydralaw11_CarryWithin.tab12 clepsydralaw11_CarryWithin.bits12 (fun HT_ HW_ => ?_)
       generalize w64.drew = w65 at B0_ B1_ B2_ HB hHeld ⊢
       refine pure_ (i := 2) (N := some 66) (v := ?_) (a' := ?_) #[false, false, true, false, false, false, false, false, false, false, false, false] rfl rfl (any_of HT_.out (by kernel_rfl)) (fun _ _ _ h => h) (Or.inl ⟨by rfl, ?_⟩) ?_ ?_
       rotate_left
       ·intro w'
        go_simp
        with_reducible rfl
       rotate_left
       ·simp only [Act.put, List.setIfInBounds_toArray, List.set_cons_zero, List.set_cons_succ, i64_w, i32_w]
        rfl
       refine pure_ (i := 6) (N := some 70) (v := ?_) (a' := ?_) #[false, false, true, false, false, false, true, false, false, false, false, false] rfl rfl (any_of HT_.out (by kernel_rfl)) (fun _ _ _ h => h) (Or.inl ⟨by rfl, ?_⟩) ?_ ?_
       rotate_left
       ·intro w'
        go_simp
        with_reducible rfl
       rotate_left
       ·simp only [Act.put, List.setIfInBounds_toArray, List.set_cons_zero, List.set_cons_succ, i64_w, i32_w]
        rfl
       refine take_ (i := 0) (N := some 64) (v := ?_) (a' := ?_) #[true, false, true, false, false, false, true, false, false, false, false, false] rfl rfl (take_ofW HT_.out HW_.out (by kernel_rfl)) (fun _ _ _ h => h) (Or.inl ⟨by rfl, ?_⟩) hHeld ?_ ?_
       rotate_left
       ·rintro w' ⟨s0, s1, s2, s3, s4, s5, s6, s7, s8, s9, s10, s11, s12, s13, s14, s15⟩
        go_simp
        with_reducible rfl
       rotate_left
       ·simp only [Act.put, List.setIfInBounds_toArray, List.set_cons_zero, List.set_cons_succ, i64_w, i32_w]
        rfl
       refine take_ (i := 1) (N := some 65) (v := ?_) (a' := ?_) #[true, true, true, false, false, false, true, false, false, false, false, false] rfl rfl (take_ofW HT_.out HW_.out (by kernel_rfl)) (fun _ _ _ h => h) (Or.inl ⟨by rfl, ?_⟩) hHeld ?_ ?_
       rotate_left
       ·rintro w' ⟨s0, s1, s2, s3, s4, s5, s6, s7, s8, s9, s10, s11, s12, s13, s14, s15⟩
        go_simp
        with_reducible rfl
       rotate_left
       ·simp only [Act.put, List.setIfInBounds_toArray, List.set_cons_zero, List.set_cons_succ, i64_w, i32_w]
        rfl
       refine take_ (i := 4) (N := some 68) (v := ?_) (a' := ?_) #[true, true, true, false, true, false, true, false, false, false, false, false] rfl rfl (take_ofW HT_.out HW_.out (by kernel_rfl)) (fun _ _ _ h => h) (Or.inl ⟨by rfl, ?_⟩) hHeld ?_ ?_
       rotate_left
       ·rintro w' ⟨s0, s1, s2, s3, s4, s5, s6, s7, s8, s9, s10, s11, s12, s13, s14, s15⟩
        go_simp
        with_reducible rfl
       rotate_left
       ·simp only [Act.put, List.setIfInBounds_toArray, List.set_cons_zero, List.set_cons_succ, i64_w, i32_w]
        rfl
       refine take_ (i := 5) (N := some 69) (v := ?_) (a' := ?_) #[true, true, true, false, true, true, true, false, false, false, false, false] rfl rfl (take_ofW HT_.out HW_.out (by kernel_rfl)) (fun _ _ _ h => h) (Or.inl ⟨by rfl, ?_⟩) hHeld ?_ ?_
       rotate_left
       ·rintro w' ⟨s0, s1, s2, s3, s4, s5, s6, s7, s8, s9, s10, s11, s12, s13, s14, s15⟩
        go_simp
        with_reducible rfl
       rotate_left
       ·simp only [Act.put, List.setIfInBounds_toArray, List.set_cons_zero, List.set_cons_succ, i64_w, i32_w]
        rfl
       refine join_ (σ := Nat × Nat) 2 #[true, true, true, true, true, true, true, true, true, true, false, false] (fun s_ => [(67, .agg #[.int .i64 t214, .int .i64 t215]), (71, .agg #[.int .i64 t216, .int .i64 t217]), (14, .pointer (some ⟨s_.1, 0, none⟩)), (15, .pointer (some ⟨s_.2, 0, none⟩))]) (fun s_ w' => (w'.cell? ⟨g0_, 0, none⟩ = some (.int .i64 a0_0) ∧ w'.cell? ⟨g0_, 1, none⟩ = some (.int .i64 a0_1) ∧ w'.cell? ⟨g0_, 2, none⟩ = some (.int .i64 a0_2) ∧ w'.cell? ⟨g0_, 3, none⟩ = some (.int .i64 a0_3) ∧ w'.cell? ⟨g0_, 4, none⟩ = some (.int .i64 a0_4) ∧ w'.cell? ⟨g0_, 5, none⟩ = some (.int .i64 a0_5) ∧ w'.cell? ⟨g0_, 6, none⟩ = some (.int .i64 a0_6) ∧ w'.cell? ⟨g0_, 7, none⟩ = some (.int .i64 a0_7) ∧ w'.cell? ⟨g0_, 8, none⟩ = some (.int .i64 a0_8) ∧ w'.cell? ⟨g0_, 9, none⟩ = some (.int .i64 a0_9) ∧ w'.cell? ⟨g0_, 10, none⟩ = some (.int .i64 a0_10) ∧ w'.cell? ⟨g0_, 11, none⟩ = some (.int .i64 a0_11) ∧ w'.cell? ⟨g1_, 0, none⟩ = some (.int .i64 a1_0) ∧ w'.cell? ⟨g1_, 1, none⟩ = some (.int .i64 a1_1) ∧ w'.cell? ⟨g2_, 0, none⟩ = some (.int .i64 (wrap64 (a1_0 - a2))) ∧ w'.cell? ⟨g2_, 1, none⟩ = some (.int .i64 (wrap64 (a1_1 + a3)))) ∧ (w'.heap[g0_]? = some (.cells #[.int .i64 a0_0, .int .i64 a0_1, .int .i64 a0_2, .int .i64 a0_3, .int .i64 a0_4, .int .i64 a0_5, .int .i64 a0_6, .int .i64 a0_7, .int .i64 a0_8, .int .i64 a0_9, .int .i64 a0_10, .int .i64 a0_11] 23 (0, 0))) ∧ (w'.heap[g1_]? = some (.cells #[.int .i64 a1_0, .int .i64 a1_1] 25 (0, 0))) ∧ (w'.heap[g2_]? = some (.cells #[.int .i64 (wrap64 (a1_0 - a2)), .int .i64 (wrap64 (a1_1 + a3))] 25 (0, 0))) ∧ (w'.heap[s_.1]? = some (.cells #[.int .i64 0, .int .i64 0] 25 (0, 0))) ∧ (w'.heap[s_.2]? = some (.cells #[.int .i64 0, .int .i64 0] 25 (0, 0))) ∧ (w.heap.size ≤ s_.1) ∧ (w.heap.size ≤ s_.1) ∧ (g0_ ≠ s_.1) ∧ (s_.1 ≠ g0_) ∧ (g1_ ≠ s_.1) ∧ (s_.1 ≠ g1_) ∧ (g2_ ≠ s_.1) ∧ (s_.1 ≠ g2_) ∧ (s_.2 ≠ s_.1) ∧ (s_.1 ≠ s_.2) ∧ (w.heap.size ≤ s_.2) ∧ (w.heap.size ≤ s_.2) ∧ (g0_ ≠ s_.2) ∧ (s_.2 ≠ g0_) ∧ (g1_ ≠ s_.2) ∧ (s_.2 ≠ g1_) ∧ (g2_ ≠ s_.2) ∧ (s_.2 ≠ g2_) ∧ (Below w.heap.size w w')) ?_ ?_
       rotate_left
       ·intro hJ3_7_8_9
        refine join_ (σ := Nat) 3 #[true, true, true, true, true, true, true, true, true, false, false, false] (fun s_ => [(67, .agg #[.int .i64 t214, .int .i64 t215]), (71, .agg #[.int .i64 t216, .int .i64 t217]), (14, .pointer (some ⟨s_, 0, none⟩))]) (fun s_ w' => (w'.cell? ⟨g0_, 0, none⟩ = some (.int .i64 a0_0) ∧ w'.cell? ⟨g0_, 1, none⟩ = some (.int .i64 a0_1) ∧ w'.cell? ⟨g0_, 2, none⟩ = some (.int .i64 a0_2) ∧ w'.cell? ⟨g0_, 3, none⟩ = some (.int .i64 a0_3) ∧ w'.cell? ⟨g0_, 4, none⟩ = some (.int .i64 a0_4) ∧ w'.cell? ⟨g0_, 5, none⟩ = some (.int .i64 a0_5) ∧ w'.cell? ⟨g0_, 6, none⟩ = some (.int .i64 a0_6) ∧ w'.cell? ⟨g0_, 7, none⟩ = some (.int .i64 a0_7) ∧ w'.cell? ⟨g0_, 8, none⟩ = some (.int .i64 a0_8) ∧ w'.cell? ⟨g0_, 9, none⟩ = some (.int .i64 a0_9) ∧ w'.cell? ⟨g0_, 10, none⟩ = some (.int .i64 a0_10) ∧ w'.cell? ⟨g0_, 11, none⟩ = some (.int .i64 a0_11) ∧ w'.cell? ⟨g1_, 0, none⟩ = some (.int .i64 a1_0) ∧ w'.cell? ⟨g1_, 1, none⟩ = some (.int .i64 a1_1) ∧ w'.cell? ⟨g2_, 0, none⟩ = some (.int .i64 (wrap64 (a1_0 - a2))) ∧ w'.cell? ⟨g2_, 1, none⟩ = some (.int .i64 (wrap64 (a1_1 + a3)))) ∧ (w'.heap[g0_]? = some (.cells #[.int .i64 a0_0, .int .i64 a0_1, .int .i64 a0_2, .int .i64 a0_3, .int .i64 a0_4, .int .i64 a0_5, .int .i64 a0_6, .int .i64 a0_7, .int .i64 a0_8, .int .i64 a0_9, .int .i64 a0_10, .int .i64 a0_11] 23 (0, 0))) ∧ (w'.heap[g1_]? = some (.cells #[.int .i64 a1_0, .int .i64 a1_1] 25 (0, 0))) ∧ (w'.heap[g2_]? = some (.cells #[.int .i64 (wrap64 (a1_0 - a2)), .int .i64 (wrap64 (a1_1 + a3))] 25 (0, 0))) ∧ (w'.heap[s_]? = some (.cells #[.int .i64 0, .int .i64 0] 25 (0, 0))) ∧ (w.heap.size ≤ s_) ∧ (w.heap.size ≤ s_) ∧ (g0_ ≠ s_) ∧ (s_ ≠ g0_) ∧ (g1_ ≠ s_) ∧ (s_ ≠ g1_) ∧ (g2_ ≠ s_) ∧ (s_ ≠ g2_) ∧ (Below w.heap.size w w')) ?_ ?_
        rotate_left
        ·intro hJ3_7_8
         refine join_ (σ := Nat) 3 #[true, true, true, true, true, true, true, true, false, true, false, false] (fun s_ => [(67, .agg #[.int .i64 t214, .int .i64 t215]), (71, .agg #[.int .i64 t216, .int .i64 t217]), (15, .pointer (some ⟨s_, 0, none⟩))]) (fun s_ w' => (w'.cell? ⟨g0_, 0, none⟩ = some (.int .i64 a0_0) ∧ w'.cell? ⟨g0_, 1, none⟩ = some (.int .i64 a0_1) ∧ w'.cell? ⟨g0_, 2, none⟩ = some (.int .i64 a0_2) ∧ w'.cell? ⟨g0_, 3, none⟩ = some (.int .i64 a0_3) ∧ w'.cell? ⟨g0_, 4, none⟩ = some (.int .i64 a0_4) ∧ w'.cell? ⟨g0_, 5, none⟩ = some (.int .i64 a0_5) ∧ w'.cell? ⟨g0_, 6, none⟩ = some (.int .i64 a0_6) ∧ w'.cell? ⟨g0_, 7, none⟩ = some (.int .i64 a0_7) ∧ w'.cell? ⟨g0_, 8, none⟩ = some (.int .i64 a0_8) ∧ w'.cell? ⟨g0_, 9, none⟩ = some (.int .i64 a0_9) ∧ w'.cell? ⟨g0_, 10, none⟩ = some (.int .i64 a0_10) ∧ w'.cell? ⟨g0_, 11, none⟩ = some (.int .i64 a0_11) ∧ w'.cell? ⟨g1_, 0, none⟩ = some (.int .i64 a1_0) ∧ w'.cell? ⟨g1_, 1, none⟩ = some (.int .i64 a1_1) ∧ w'.cell? ⟨g2_, 0, none⟩ = some (.int .i64 (wrap64 (a1_0 - a2))) ∧ w'.cell? ⟨g2_, 1, none⟩ = some (.int .i64 (wrap64 (a1_1 + a3)))) ∧ (w'.heap[g0_]? = some (.cells #[.int .i64 a0_0, .int .i64 a0_1, .int .i64 a0_2, .int .i64 a0_3, .int .i64 a0_4, .int .i64 a0_5, .int .i64 a0_6, .int .i64 a0_7, .int .i64 a0_8, .int .i64 a0_9, .int .i64 a0_10, .int .i64 a0_11] 23 (0, 0))) ∧ (w'.heap[g1_]? = some (.cells #[.int .i64 a1_0, .int .i64 a1_1] 25 (0, 0))) ∧ (w'.heap[g2_]? = some (.cells #[.int .i64 (wrap64 (a1_0 - a2)), .int .i64 (wrap64 (a1_1 + a3))] 25 (0, 0))) ∧ (w'.heap[s_]? = some (.cells #[.int .i64 0, .int .i64 0] 25 (0, 0))) ∧ (w.heap.size ≤ s_) ∧ (w.heap.size ≤ s_) ∧ (g0_ ≠ s_) ∧ (s_ ≠ g0_) ∧ (g1_ ≠ s_) ∧ (s_ ≠ g1_) ∧ (g2_ ≠ s_) ∧ (s_ ≠ g2_) ∧ (Below w.heap.size w w')) ?_ ?_
         rotate_left
         ·intro hJ3_7_9
          refine join_ (σ := Nat × Nat) 3 #[true, true, true, true, true, true, true, false, true, true, false, false] (fun s_ => [(67, .agg #[.int .i64 t214, .int .i64 t215]), (14, .pointer (some ⟨s_.1, 0, none⟩)), (15, .pointer (some ⟨s_.2, 0, none⟩))]) (fun s_ w' => (w'.cell? ⟨g0_, 0, none⟩ = some (.int .i64 a0_0) ∧ w'.cell? ⟨g0_, 1, none⟩ = some (.int .i64 a0_1) ∧ w'.cell? ⟨g0_, 2, none⟩ = some (.int .i64 a0_2) ∧ w'.cell? ⟨g0_, 3, none⟩ = some (.int .i64 a0_3) ∧ w'.cell? ⟨g0_, 4, none⟩ = some (.int .i64 a0_4) ∧ w'.cell? ⟨g0_, 5, none⟩ = some (.int .i64 a0_5) ∧ w'.cell? ⟨g0_, 6, none⟩ = some (.int .i64 a0_6) ∧ w'.cell? ⟨g0_, 7, none⟩ = some (.int .i64 a0_7) ∧ w'.cell? ⟨g0_, 8, none⟩ = some (.int .i64 a0_8) ∧ w'.cell? ⟨g0_, 9, none⟩ = some (.int .i64 a0_9) ∧ w'.cell? ⟨g0_, 10, none⟩ = some (.int .i64 a0_10) ∧ w'.cell? ⟨g0_, 11, none⟩ = some (.int .i64 a0_11) ∧ w'.cell? ⟨g1_, 0, none⟩ = some (.int .i64 a1_0) ∧ w'.cell? ⟨g1_, 1, none⟩ = some (.int .i64 a1_1) ∧ w'.cell? ⟨g2_, 0, none⟩ = some (.int .i64 (wrap64 (a1_0 - a2))) ∧ w'.cell? ⟨g2_, 1, none⟩ = some (.int .i64 (wrap64 (a1_1 + a3)))) ∧ (w'.heap[g0_]? = some (.cells #[.int .i64 a0_0, .int .i64 a0_1, .int .i64 a0_2, .int .i64 a0_3, .int .i64 a0_4, .int .i64 a0_5, .int .i64 a0_6, .int .i64 a0_7, .int .i64 a0_8, .int .i64 a0_9, .int .i64 a0_10, .int .i64 a0_11] 23 (0, 0))) ∧ (w'.heap[g1_]? = some (.cells #[.int .i64 a1_0, .int .i64 a1_1] 25 (0, 0))) ∧ (w'.heap[g2_]? = some (.cells #[.int .i64 (wrap64 (a1_0 - a2)), .int .i64 (wrap64 (a1_1 + a3))] 25 (0, 0))) ∧ (w'.heap[s_.1]? = some (.cells #[.int .i64 0, .int .i64 0] 25 (0, 0))) ∧ (w'.heap[s_.2]? = some (.cells #[.int .i64 0, .int .i64 0] 25 (0, 0))) ∧ (w.heap.size ≤ s_.1) ∧ (w.heap.size ≤ s_.1) ∧ (g0_ ≠ s_.1) ∧ (s_.1 ≠ g0_) ∧ (g1_ ≠ s_.1) ∧ (s_.1 ≠ g1_) ∧ (g2_ ≠ s_.1) ∧ (s_.1 ≠ g2_) ∧ (s_.2 ≠ s_.1) ∧ (s_.1 ≠ s_.2) ∧ (w.heap.size ≤ s_.2) ∧ (w.heap.size ≤ s_.2) ∧ (g0_ ≠ s_.2) ∧ (s_.2 ≠ g0_) ∧ (g1_ ≠ s_.2) ∧ (s_.2 ≠ g1_) ∧ (g2_ ≠ s_.2) ∧ (s_.2 ≠ g2_) ∧ (Below w.heap.size w w')) ?_ ?_
          rotate_left
          ·intro hJ3_8_9
           refine join_ (σ := Unit) 4 #[true, true, true, true, true, true, true, true, false, false, false, false] (fun s_ => [(67, .agg #[.int .i64 t214, .int .i64 t215]), (71, .agg #[.int .i64 t216, .int .i64 t217])]) (fun s_ w' => (w'.cell? ⟨g0_, 0, none⟩ = some (.int .i64 a0_0) ∧ w'.cell? ⟨g0_, 1, none⟩ = some (.int .i64 a0_1) ∧ w'.cell? ⟨g0_, 2, none⟩ = some (.int .i64 a0_2) ∧ w'.cell? ⟨g0_, 3, none⟩ = some (.int .i64 a0_3) ∧ w'.cell? ⟨g0_, 4, none⟩ = some (.int .i64 a0_4) ∧ w'.cell? ⟨g0_, 5, none⟩ = some (.int .i64 a0_5) ∧ w'.cell? ⟨g0_, 6, none⟩ = some (.int .i64 a0_6) ∧ w'.cell? ⟨g0_, 7, none⟩ = some (.int .i64 a0_7) ∧ w'.cell? ⟨g0_, 8, none⟩ = some (.int .i64 a0_8) ∧ w'.cell? ⟨g0_, 9, none⟩ = some (.int .i64 a0_9) ∧ w'.cell? ⟨g0_, 10, none⟩ = some (.int .i64 a0_10) ∧ w'.cell? ⟨g0_, 11, none⟩ = some (.int .i64 a0_11) ∧ w'.cell? ⟨g1_, 0, none⟩ = some (.int .i64 a1_0) ∧ w'.cell? ⟨g1_, 1, none⟩ = some (.int .i64 a1_1) ∧ w'.cell? ⟨g2_, 0, none⟩ = some (.int .i64 (wrap64 (a1_0 - a2))) ∧ w'.cell? ⟨g2_, 1, none⟩ = some (.int .i64 (wrap64 (a1_1 + a3)))) ∧ (w'.heap[g0_]? = some (.cells #[.int .i64 a0_0, .int .i64 a0_1, .int .i64 a0_2, .int .i64 a0_3, .int .i64 a0_4, .int .i64 a0_5, .int .i64 a0_6, .int .i64 a0_7, .int .i64 a0_8, .int .i64 a0_9, .int .i64 a0_10, .int .i64 a0_11] 23 (0, 0))) ∧ (w'.heap[g1_]? = some (.cells #[.int .i64 a1_0, .int .i64 a1_1] 25 (0, 0))) ∧ (w'.heap[g2_]? = some (.cells #[.int .i64 (wrap64 (a1_0 - a2)), .int .i64 (wrap64 (a1_1 + a3))] 25 (0, 0))) ∧ (Below w.heap.size w w')) ?_ ?_
           rotate_left
           ·intro hJ3_7
            refine join_ (σ := Nat) 4 #[true, true, true, true, true, true, true, false, true, false, false, false] (fun s_ => [(67, .agg #[.int .i64 t214, .int .i64 t215]), (14, .pointer (some ⟨s_, 0, none⟩))]) (fun s_ w' => (w'.cell? ⟨g0_, 0, none⟩ = some (.int .i64 a0_0) ∧ w'.cell? ⟨g0_, 1, none⟩ = some (.int .i64 a0_1) ∧ w'.cell? ⟨g0_, 2, none⟩ = some (.int .i64 a0_2) ∧ w'.cell? ⟨g0_, 3, none⟩ = some (.int .i64 a0_3) ∧ w'.cell? ⟨g0_, 4, none⟩ = some (.int .i64 a0_4) ∧ w'.cell? ⟨g0_, 5, none⟩ = some (.int .i64 a0_5) ∧ w'.cell? ⟨g0_, 6, none⟩ = some (.int .i64 a0_6) ∧ w'.cell? ⟨g0_, 7, none⟩ = some (.int .i64 a0_7) ∧ w'.cell? ⟨g0_, 8, none⟩ = some (.int .i64 a0_8) ∧ w'.cell? ⟨g0_, 9, none⟩ = some (.int .i64 a0_9) ∧ w'.cell? ⟨g0_, 10, none⟩ = some (.int .i64 a0_10) ∧ w'.cell? ⟨g0_, 11, none⟩ = some (.int .i64 a0_11) ∧ w'.cell? ⟨g1_, 0, none⟩ = some (.int .i64 a1_0) ∧ w'.cell? ⟨g1_, 1, none⟩ = some (.int .i64 a1_1) ∧ w'.cell? ⟨g2_, 0, none⟩ = some (.int .i64 (wrap64 (a1_0 - a2))) ∧ w'.cell? ⟨g2_, 1, none⟩ = some (.int .i64 (wrap64 (a1_1 + a3)))) ∧ (w'.heap[g0_]? = some (.cells #[.int .i64 a0_0, .int .i64 a0_1, .int .i64 a0_2, .int .i64 a0_3, .int .i64 a0_4, .int .i64 a0_5, .int .i64 a0_6, .int .i64 a0_7, .int .i64 a0_8, .int .i64 a0_9, .int .i64 a0_10, .int .i64 a0_11] 23 (0, 0))) ∧ (w'.heap[g1_]? = some (.cells #[.int .i64 a1_0, .int .i64 a1_1] 25 (0, 0))) ∧ (w'.heap[g2_]? = some (.cells #[.int .i64 (wrap64 (a1_0 - a2)), .int .i64 (wrap64 (a1_1 + a3))] 25 (0, 0))) ∧ (w'.heap[s_]? = some (.cells #[.int .i64 0, .int .i64 0] 25 (0, 0))) ∧ (w.heap.size ≤ s_) ∧ (w.heap.size ≤ s_) ∧ (g0_ ≠ s_) ∧ (s_ ≠ g0_) ∧ (g1_ ≠ s_) ∧ (s_ ≠ g1_) ∧ (g2_ ≠ s_) ∧ (s_ ≠ g2_) ∧ (Below w.heap.size w w')) ?_ ?_
            rotate_left
            ·intro hJ3_8
             refine join_ (σ := Nat) 4 #[true, true, true, true, true, true, true, false, false, true, false, false] (fun s_ => [(67, .agg #[.int .i64 t214, .int .i64 t215]), (15, .pointer (some ⟨s_, 0, none⟩))]) (fun s_ w' => (w'.cell? ⟨g0_, 0, none⟩ = some (.int .i64 a0_0) ∧ w'.cell? ⟨g0_, 1, none⟩ = some (.int .i64 a0_1) ∧ w'.cell? ⟨g0_, 2, none⟩ = some (.int .i64 a0_2) ∧ w'.cell? ⟨g0_, 3, none⟩ = some (.int .i64 a0_3) ∧ w'.cell? ⟨g0_, 4, none⟩ = some (.int .i64 a0_4) ∧ w'.cell? ⟨g0_, 5, none⟩ = some (.int .i64 a0_5) ∧ w'.cell? ⟨g0_, 6, none⟩ = some (.int .i64 a0_6) ∧ w'.cell? ⟨g0_, 7, none⟩ = some (.int .i64 a0_7) ∧ w'.cell? ⟨g0_, 8, none⟩ = some (.int .i64 a0_8) ∧ w'.cell? ⟨g0_, 9, none⟩ = some (.int .i64 a0_9) ∧ w'.cell? ⟨g0_, 10, none⟩ = some (.int .i64 a0_10) ∧ w'.cell? ⟨g0_, 11, none⟩ = some (.int .i64 a0_11) ∧ w'.cell? ⟨g1_, 0, none⟩ = some (.int .i64 a1_0) ∧ w'.cell? ⟨g1_, 1, none⟩ = some (.int .i64 a1_1) ∧ w'.cell? ⟨g2_, 0, none⟩ = some (.int .i64 (wrap64 (a1_0 - a2))) ∧ w'.cell? ⟨g2_, 1, none⟩ = some (.int .i64 (wrap64 (a1_1 + a3)))) ∧ (w'.heap[g0_]? = some (.cells #[.int .i64 a0_0, .int .i64 a0_1, .int .i64 a0_2, .int .i64 a0_3, .int .i64 a0_4, .int .i64 a0_5, .int .i64 a0_6, .int .i64 a0_7, .int .i64 a0_8, .int .i64 a0_9, .int .i64 a0_10, .int .i64 a0_11] 23 (0, 0))) ∧ (w'.heap[g1_]? = some (.cells #[.int .i64 a1_0, .int .i64 a1_1] 25 (0, 0))) ∧ (w'.heap[g2_]? = some (.cells #[.int .i64 (wrap64 (a1_0 - a2)), .int .i64 (wrap64 (a1_1 + a3))] 25 (0, 0))) ∧ (w'.heap[s_]? = some (.cells #[.int .i64 0, .int .i64 0] 25 (0, 0))) ∧ (w.heap.size ≤ s_) ∧ (w.heap.size ≤ s_) ∧ (g0_ ≠ s_) ∧ (s_ ≠ g0_) ∧ (g1_ ≠ s_) ∧ (s_ ≠ g1_) ∧ (g2_ ≠ s_) ∧ (s_ ≠ g2_) ∧ (Below w.heap.size w w')) ?_ ?_
             rotate_left
             ·intro hJ3_9
              refine join_ (σ := Nat × Nat) 4 #[true, true, true, false, true, true, true, false, true, true, false, false] (fun s_ => [(14, .pointer (some ⟨s_.1, 0, none⟩)), (15, .pointer (some ⟨s_.2, 0, none⟩))]) (fun s_ w' => (w'.cell? ⟨g0_, 0, none⟩ = some (.int .i64 a0_0) ∧ w'.cell? ⟨g0_, 1, none⟩ = some (.int .i64 a0_1) ∧ w'.cell? ⟨g0_, 2, none⟩ = some (.int .i64 a0_2) ∧ w'.cell? ⟨g0_, 3, none⟩ = some (.int .i64 a0_3) ∧ w'.cell? ⟨g0_, 4, none⟩ = some (.int .i64 a0_4) ∧ w'.cell? ⟨g0_, 5, none⟩ = some (.int .i64 a0_5) ∧ w'.cell? ⟨g0_, 6, none⟩ = some (.int .i64 a0_6) ∧ w'.cell? ⟨g0_, 7, none⟩ = some (.int .i64 a0_7) ∧ w'.cell? ⟨g0_, 8, none⟩ = some (.int .i64 a0_8) ∧ w'.cell? ⟨g0_, 9, none⟩ = some (.int .i64 a0_9) ∧ w'.cell? ⟨g0_, 10, none⟩ = some (.int .i64 a0_10) ∧ w'.cell? ⟨g0_, 11, none⟩ = some (.int .i64 a0_11) ∧ w'.cell? ⟨g1_, 0, none⟩ = some (.int .i64 a1_0) ∧ w'.cell? ⟨g1_, 1, none⟩ = some (.int .i64 a1_1) ∧ w'.cell? ⟨g2_, 0, none⟩ = some (.int .i64 (wrap64 (a1_0 - a2))) ∧ w'.cell? ⟨g2_, 1, none⟩ = some (.int .i64 (wrap64 (a1_1 + a3)))) ∧ (w'.heap[g0_]? = some (.cells #[.int .i64 a0_0, .int .i64 a0_1, .int .i64 a0_2, .int .i64 a0_3, .int .i64 a0_4, .int .i64 a0_5, .int .i64 a0_6, .int .i64 a0_7, .int .i64 a0_8, .int .i64 a0_9, .int .i64 a0_10, .int .i64 a0_11] 23 (0, 0))) ∧ (w'.heap[g1_]? = some (.cells #[.int .i64 a1_0, .int .i64 a1_1] 25 (0, 0))) ∧ (w'.heap[g2_]? = some (.cells #[.int .i64 (wrap64 (a1_0 - a2)), .int .i64 (wrap64 (a1_1 + a3))] 25 (0, 0))) ∧ (w'.heap[s_.1]? = some (.cells #[.int .i64 0, .int .i64 0] 25 (0, 0))) ∧ (w'.heap[s_.2]? = some (.cells #[.int .i64 0, .int .i64 0] 25 (0, 0))) ∧ (w.heap.size ≤ s_.1) ∧ (w.heap.size ≤ s_.1) ∧ (g0_ ≠ s_.1) ∧ (s_.1 ≠ g0_) ∧ (g1_ ≠ s_.1) ∧ (s_.1 ≠ g1_) ∧ (g2_ ≠ s_.1) ∧ (s_.1 ≠ g2_) ∧ (s_.2 ≠ s_.1) ∧ (s_.1 ≠ s_.2) ∧ (w.heap.size ≤ s_.2) ∧ (w.heap.size ≤ s_.2) ∧ (g0_ ≠ s_.2) ∧ (s_.2 ≠ g0_) ∧ (g1_ ≠ s_.2) ∧ (s_.2 ≠ g1_) ∧ (g2_ ≠ s_.2) ∧ (s_.2 ≠ g2_) ∧ (Below w.heap.size w w')) ?_ ?_
              rotate_left
              ·intro hJ8_9
               refine join_ (σ := Unit) 5 #[true, true, true, true, true, true, true, false, false, false, false, false] (fun s_ => [(67, .agg #[.int .i64 t214, .int .i64 t215])]) (fun s_ w' => (w'.cell? ⟨g0_, 0, none⟩ = some (.int .i64 a0_0) ∧ w'.cell? ⟨g0_, 1, none⟩ = some (.int .i64 a0_1) ∧ w'.cell? ⟨g0_, 2, none⟩ = some (.int .i64 a0_2) ∧ w'.cell? ⟨g0_, 3, none⟩ = some (.int .i64 a0_3) ∧ w'.cell? ⟨g0_, 4, none⟩ = some (.int .i64 a0_4) ∧ w'.cell? ⟨g0_, 5, none⟩ = some (.int .i64 a0_5) ∧ w'.cell? ⟨g0_, 6, none⟩ = some (.int .i64 a0_6) ∧ w'.cell? ⟨g0_, 7, none⟩ = some (.int .i64 a0_7) ∧ w'.cell? ⟨g0_, 8, none⟩ = some (.int .i64 a0_8) ∧ w'.cell? ⟨g0_, 9, none⟩ = some (.int .i64 a0_9) ∧ w'.cell? ⟨g0_, 10, none⟩ = some (.int .i64 a0_10) ∧ w'.cell? ⟨g0_, 11, none⟩ = some (.int .i64 a0_11) ∧ w'.cell? ⟨g1_, 0, none⟩ = some (.int .i64 a1_0) ∧ w'.cell? ⟨g1_, 1, none⟩ = some (.int .i64 a1_1) ∧ w'.cell? ⟨g2_, 0, none⟩ = some (.int .i64 (wrap64 (a1_0 - a2))) ∧ w'.cell? ⟨g2_, 1, none⟩ = some (.int .i64 (wrap64 (a1_1 + a3)))) ∧ (w'.heap[g0_]? = some (.cells #[.int .i64 a0_0, .int .i64 a0_1, .int .i64 a0_2, .int .i64 a0_3, .int .i64 a0_4, .int .i64 a0_5, .int .i64 a0_6, .int .i64 a0_7, .int .i64 a0_8, .int .i64 a0_9, .int .i64 a0_10, .int .i64 a0_11] 23 (0, 0))) ∧ (w'.heap[g1_]? = some (.cells #[.int .i64 a1_0, .int .i64 a1_1] 25 (0, 0))) ∧ (w'.heap[g2_]? = some (.cells #[.int .i64 (wrap64 (a1_0 - a2)), .int .i64 (wrap64 (a1_1 + a3))] 25 (0, 0))) ∧ (Below w.heap.size w w')) ?_ ?_
               rotate_left
               ·intro hJ3
                refine join_ (σ := Nat) 5 #[true, true, true, false, true, true, true, false, true, false, false, false] (fun s_ => [(14, .pointer (some ⟨s_, 0, none⟩))]) (fun s_ w' => (w'.cell? ⟨g0_, 0, none⟩ = some (.int .i64 a0_0) ∧ w'.cell? ⟨g0_, 1, none⟩ = some (.int .i64 a0_1) ∧ w'.cell? ⟨g0_, 2, none⟩ = some (.int .i64 a0_2) ∧ w'.cell? ⟨g0_, 3, none⟩ = some (.int .i64 a0_3) ∧ w'.cell? ⟨g0_, 4, none⟩ = some (.int .i64 a0_4) ∧ w'.cell? ⟨g0_, 5, none⟩ = some (.int .i64 a0_5) ∧ w'.cell? ⟨g0_, 6, none⟩ = some (.int .i64 a0_6) ∧ w'.cell? ⟨g0_, 7, none⟩ = some (.int .i64 a0_7) ∧ w'.cell? ⟨g0_, 8, none⟩ = some (.int .i64 a0_8) ∧ w'.cell? ⟨g0_, 9, none⟩ = some (.int .i64 a0_9) ∧ w'.cell? ⟨g0_, 10, none⟩ = some (.int .i64 a0_10) ∧ w'.cell? ⟨g0_, 11, none⟩ = some (.int .i64 a0_11) ∧ w'.cell? ⟨g1_, 0, none⟩ = some (.int .i64 a1_0) ∧ w'.cell? ⟨g1_, 1, none⟩ = some (.int .i64 a1_1) ∧ w'.cell? ⟨g2_, 0, none⟩ = some (.int .i64 (wrap64 (a1_0 - a2))) ∧ w'.cell? ⟨g2_, 1, none⟩ = some (.int .i64 (wrap64 (a1_1 + a3)))) ∧ (w'.heap[g0_]? = some (.cells #[.int .i64 a0_0, .int .i64 a0_1, .int .i64 a0_2, .int .i64 a0_3, .int .i64 a0_4, .int .i64 a0_5, .int .i64 a0_6, .int .i64 a0_7, .int .i64 a0_8, .int .i64 a0_9, .int .i64 a0_10, .int .i64 a0_11] 23 (0, 0))) ∧ (w'.heap[g1_]? = some (.cells #[.int .i64 a1_0, .int .i64 a1_1] 25 (0, 0))) ∧ (w'.heap[g2_]? = some (.cells #[.int .i64 (wrap64 (a1_0 - a2)), .int .i64 (wrap64 (a1_1 + a3))] 25 (0, 0))) ∧ (w'.heap[s_]? = some (.cells #[.int .i64 0, .int .i64 0] 25 (0, 0))) ∧ (w.heap.size ≤ s_) ∧ (w.heap.size ≤ s_) ∧ (g0_ ≠ s_) ∧ (s_ ≠ g0_) ∧ (g1_ ≠ s_) ∧ (s_ ≠ g1_) ∧ (g2_ ≠ s_) ∧ (s_ ≠ g2_) ∧ (Below w.heap.size w w')) ?_ ?_
                rotate_left
                ·intro hJ8
                 refine join_ (σ := Nat) 5 #[true, true, true, false, true, true, true, false, false, true, false, false] (fun s_ => [(15, .pointer (some ⟨s_, 0, none⟩))]) (fun s_ w' => (w'.cell? ⟨g0_, 0, none⟩ = some (.int .i64 a0_0) ∧ w'.cell? ⟨g0_, 1, none⟩ = some (.int .i64 a0_1) ∧ w'.cell? ⟨g0_, 2, none⟩ = some (.int .i64 a0_2) ∧ w'.cell? ⟨g0_, 3, none⟩ = some (.int .i64 a0_3) ∧ w'.cell? ⟨g0_, 4, none⟩ = some (.int .i64 a0_4) ∧ w'.cell? ⟨g0_, 5, none⟩ = some (.int .i64 a0_5) ∧ w'.cell? ⟨g0_, 6, none⟩ = some (.int .i64 a0_6) ∧ w'.cell? ⟨g0_, 7, none⟩ = some (.int .i64 a0_7) ∧ w'.cell? ⟨g0_, 8, none⟩ = some (.int .i64 a0_8) ∧ w'.cell? ⟨g0_, 9, none⟩ = some (.int .i64 a0_9) ∧ w'.cell? ⟨g0_, 10, none⟩ = some (.int .i64 a0_10) ∧ w'.cell? ⟨g0_, 11, none⟩ = some (.int .i64 a0_11) ∧ w'.cell? ⟨g1_, 0, none⟩ = some (.int .i64 a1_0) ∧ w'.cell? ⟨g1_, 1, none⟩ = some (.int .i64 a1_1) ∧ w'.cell? ⟨g2_, 0, none⟩ = some (.int .i64 (wrap64 (a1_0 - a2))) ∧ w'.cell? ⟨g2_, 1, none⟩ = some (.int .i64 (wrap64 (a1_1 + a3)))) ∧ (w'.heap[g0_]? = some (.cells #[.int .i64 a0_0, .int .i64 a0_1, .int .i64 a0_2, .int .i64 a0_3, .int .i64 a0_4, .int .i64 a0_5, .int .i64 a0_6, .int .i64 a0_7, .int .i64 a0_8, .int .i64 a0_9, .int .i64 a0_10, .int .i64 a0_11] 23 (0, 0))) ∧ (w'.heap[g1_]? = some (.cells #[.int .i64 a1_0, .int .i64 a1_1] 25 (0, 0))) ∧ (w'.heap[g2_]? = some (.cells #[.int .i64 (wrap64 (a1_0 - a2)), .int .i64 (wrap64 (a1_1 + a3))] 25 (0, 0))) ∧ (w'.heap[s_]? = some (.cells #[.int .i64 0, .int .i64 0] 25 (0, 0))) ∧ (w.heap.size ≤ s_) ∧ (w.heap.size ≤ s_) ∧ (g0_ ≠ s_) ∧ (s_ ≠ g0_) ∧ (g1_ ≠ s_) ∧ (s_ ≠ g1_) ∧ (g2_ ≠ s_) ∧ (s_ ≠ g2_) ∧ (Below w.heap.size w w')) ?_ ?_
                 rotate_left
                 ·intro hJ9
                  refine three_ (i := 3) (j := 8) (k := 9) (Ni := some 67) (Nj := some 14) (Nk := some 15) #[true, true, true, true, true, true, true, false, false, false, false, false] #[true, true, true, false, true, true, true, false, true, false, false, false] #[true, true, true, false, true, true, true, false, false, true, false, false] rfl rfl rfl rfl rfl rfl (three_of HT_.out (by kernel_rfl)) (by decide) (by decide) (by decide) (fun K hK => ?_) (fun K hK => ?_) (fun K hK => ?_)
                  ·skip
                   refine goes_ Try.func16 (by kernel_rfl) rfl #[.agg #[.int .i64 a0_0, .int .i64 a0_1, .int .i64 a0_2, .int .i64 a0_3, .int .i64 a0_4, .int .i64 a0_5, .int .i64 a0_6, .int .i64 a0_7, .int .i64 a0_8, .int .i64 a0_9, .int .i64 a0_10, .int .i64 a0_11], .agg #[.int .i64 a1_0, .int .i64 a1_1], .int .i64 a4] (by rfl) rfl rfl (by (try simp only [List.map_toArray, List.map_cons, List.map_nil]); first | done | rfl | (simp only [List.length_drop, List.length_take]; rfl)) ?_
                   with_reducible refine (carry_Hold.calls kj7 a0_0 a0_1 a0_2 a0_3 a0_4 a0_5 a0_6 a0_7 a0_8 a0_9 a0_10 a0_11 a1_0 a1_1 a4 t214 t215 _ A51.1).mono ?_
                   rintro e w66 ⟨rfl, hb⟩
                   refine ⟨_, rfl, ?_⟩
                   have n0_ := bb hb B0_.1
                   have n1_ := bb hb B1_.1
                   have n2_ := bb hb B2_.1
                   have n3_ := mk (below_step (by repeat first | exact HB.1 | apply pD) hb)
                   clear B0_ B1_ B2_ HB
                   have B0_ := n0_
                   have B1_ := n1_
                   have B2_ := n2_
                   have HB := n3_
                   clear n0_ n1_ n2_ n3_
                   (try clear hb)
                   (try clear hb2)
                   (try clear hk)
                   (try clear hi)
                   refine hK.out _ _ (c12t B0_.1 ⟨bt B1_.1 0, bt B1_.1 1, bt B2_.1 0, bt B2_.1 1⟩) (fun hHeld => ?_)
                   clear hK K
                   refine norm_ (a' := ?_) ?_ ?_
                   rotate_left
                   ·show Act.put _ (some 67) _ = _
                    simp only [Act.put, List.setIfInBounds_toArray, List.set_cons_zero, List.set_cons_succ, i64_w, i32_w]
                    rfl
                   exact norm_ (by simp only [putAll, Act.put, List.setIfInBounds_toArray, List.set_cons_zero, List.set_cons_succ] <;> rfl) (hJ3 () _ ⟨hHeld, (by exact B0_.1), (by exact B1_.1), (by exact B2_.1), (by repeat (first | (with_reducible first | exact HB.1 | apply bA | apply pD | apply b1 | apply bS E0_.1 | apply bS E1_.1 | apply bS E2_.1) | exact HB.1))⟩)
                  ·skip
                   refine box_step ?hg (N := 14) ?hd (cs := #[.int .i64 0, .int .i64 0]) (t := 25) ?hr ?_; (case hd => rfl); (case hg => rfl); (case hr => first | (go_simp; done) | (go_simp; rfl))
                   intro g3_ hg w66 hbox hb
                   have n0_ := bb hb B0_.1
                   have n1_ := bb hb B1_.1
                   have n2_ := bb hb B2_.1
                   have n3_ := mk (below_step (by repeat first | exact HB.1 | apply pD) hb)
                   have B3_ := mk (hbox)
                   have W3_ := gl hg (by repeat first | exact HB.1 | apply pD)
                   have E3_ := gl hg (by repeat first | exact HB.1 | apply pD)
                   have N03_ := nl hg B0_.1
                   have N30_ := ng hg B0_.1
                   have N13_ := nl hg B1_.1
                   have N31_ := ng hg B1_.1
                   have N23_ := nl hg B2_.1
                   have N32_ := ng hg B2_.1
                   clear B0_ B1_ B2_ HB
                   have B0_ := n0_
                   have B1_ := n1_
                   have B2_ := n2_
                   have HB := n3_
                   clear n0_ n1_ n2_ n3_ hb hbox hg
                   refine hK.out _ _ (c12t B0_.1 ⟨bt B1_.1 0, bt B1_.1 1, bt B2_.1 0, bt B2_.1 1⟩) (fun hHeld => ?_)
                   clear hK K
                   refine norm_ (a' := ?_) ?_ ?_
                   rotate_left
                   ·show Act.put _ (some 14) _ = _
                    simp only [Act.put, List.setIfInBounds_toArray, List.set_cons_zero, List.set_cons_succ, i64_w, i32_w]
                    rfl
                   exact norm_ (by simp only [putAll, Act.put, List.setIfInBounds_toArray, List.set_cons_zero, List.set_cons_succ] <;> rfl) (hJ8 (g3_) _ ⟨hHeld, (by exact B0_.1), (by exact B1_.1), (by exact B2_.1), (by exact B3_.1), W3_.1, E3_.1, N03_.1, N30_.1, N13_.1, N31_.1, N23_.1, N32_.1, (by repeat (first | (with_reducible first | exact HB.1 | apply bA | apply pD | apply b1 | apply bS E0_.1 | apply bS E1_.1 | apply bS E2_.1 | apply bS E3_.1) | exact HB.1))⟩)
                  skip
                  refine box_step ?hg (N := 15) ?hd (cs := #[.int .i64 0, .int .i64 0]) (t := 25) ?hr ?_; (case hd => rfl); (case hg => rfl); (case hr => first | (go_simp; done) | (go_simp; rfl))
                  intro g4_ hg w66 hbox hb
                  have n0_ := bb hb B0_.1
                  have n1_ := bb hb B1_.1
                  have n2_ := bb hb B2_.1
                  have n3_ := mk (below_step (by repeat first | exact HB.1 | apply pD) hb)
                  have B4_ := mk (hbox)
                  have W4_ := gl hg (by repeat first | exact HB.1 | apply pD)
                  have E4_ := gl hg (by repeat first | exact HB.1 | apply pD)
                  have N04_ := nl hg B0_.1
                  have N40_ := ng hg B0_.1
                  have N14_ := nl hg B1_.1
                  have N41_ := ng hg B1_.1
                  have N24_ := nl hg B2_.1
                  have N42_ := ng hg B2_.1
                  clear B0_ B1_ B2_ HB
                  have B0_ := n0_
                  have B1_ := n1_
                  have B2_ := n2_
                  have HB := n3_
                  clear n0_ n1_ n2_ n3_ hb hbox hg
                  refine hK.out _ _ (c12t B0_.1 ⟨bt B1_.1 0, bt B1_.1 1, bt B2_.1 0, bt B2_.1 1⟩) (fun hHeld => ?_)
                  clear hK K
                  refine norm_ (a' := ?_) ?_ ?_
                  rotate_left
                  ·show Act.put _ (some 15) _ = _
                   simp only [Act.put, List.setIfInBounds_toArray, List.set_cons_zero, List.set_cons_succ, i64_w, i32_w]
                   rfl
                  exact norm_ (by simp only [putAll, Act.put, List.setIfInBounds_toArray, List.set_cons_zero, List.set_cons_succ] <;> rfl) (hJ9 (g4_) _ ⟨hHeld, (by exact B0_.1), (by exact B1_.1), (by exact B2_.1), (by exact B4_.1), W4_.1, E4_.1, N04_.1, N40_.1, N14_.1, N41_.1, N24_.1, N42_.1, (by repeat (first | (with_reducible first | exact HB.1 | apply bA | apply pD | apply b1 | apply bS E0_.1 | apply bS E1_.1 | apply bS E2_.1 | apply bS E4_.1) | exact HB.1))⟩)
                 skip
                 rintro g4_ w67 ⟨hS_, h0_, h1_, h2_, h3_, h4_, h5_, h6_, h7_, h8_, h9_, h10_, h11_, h12_⟩
                 have n0_ : Aside0 (w67.heap[g0_]? = some (.cells #[.int .i64 a0_0, .int .i64 a0_1, .int .i64 a0_2, .int .i64 a0_3, .int .i64 a0_4, .int .i64 a0_5, .int .i64 a0_6, .int .i64 a0_7, .int .i64 a0_8, .int .i64 a0_9, .int .i64 a0_10, .int .i64 a0_11] 23 (0, 0))) := ⟨h0_⟩
                 have n1_ : Aside0 (w67.heap[g1_]? = some (.cells #[.int .i64 a1_0, .int .i64 a1_1] 25 (0, 0))) := ⟨h1_⟩
                 have n2_ : Aside0 (w67.heap[g2_]? = some (.cells #[.int .i64 (wrap64 (a1_0 - a2)), .int .i64 (wrap64 (a1_1 + a3))] 25 (0, 0))) := ⟨h2_⟩
                 have B4_ : Aside0 (w67.heap[g4_]? = some (.cells #[.int .i64 0, .int .i64 0] 25 (0, 0))) := ⟨h3_⟩
                 have W4_ : Aside0 (w.heap.size ≤ g4_) := ⟨h4_⟩
                 have E4_ : Aside0 (w.heap.size ≤ g4_) := ⟨h5_⟩
                 have N04_ : Aside0 (g0_ ≠ g4_) := ⟨h6_⟩
                 have N40_ : Aside0 (g4_ ≠ g0_) := ⟨h7_⟩
                 have N14_ : Aside0 (g1_ ≠ g4_) := ⟨h8_⟩
                 have N41_ : Aside0 (g4_ ≠ g1_) := ⟨h9_⟩
                 have N24_ : Aside0 (g2_ ≠ g4_) := ⟨h10_⟩
                 have N42_ : Aside0 (g4_ ≠ g2_) := ⟨h11_⟩
                 have n12_ : Aside0 (Below w.heap.size w w67) := ⟨h12_⟩
                 clear B0_ B1_ B2_ HB h0_ h1_ h2_ h3_ h4_ h5_ h6_ h7_ h8_ h9_ h10_ h11_ h12_
                 have B0_ := n0_
                 have B1_ := n1_
                 have B2_ := n2_
                 have HB := n12_
                 clear n0_ n1_ n2_ n12_
                 have hHeld := hS_
                 try dsimp only at hHeld
                 refine norm_ (a' := ?_) ?_ ?_
                 rotate_left
                 ·simp only [putAll, Act.put, List.setIfInBounds_toArray, List.set_cons_zero, List.set_cons_succ]
                  rfl
                 refine two_ (i := 3) (j := 8) (Ni := some 67) (Nj := some 14) #[true, true, true, true, true, true, true, false, false, true, false, false] #[true, true, true, false, true, true, true, false, true, true, false, false] rfl rfl rfl rfl (two_of HT_.out (by kernel_rfl)) (by decide) (by decide) (fun K hK => ?_) (fun K hK => ?_)
                 ·skip
                  refine goes_ Try.func16 (by kernel_rfl) rfl #[.agg #[.int .i64 a0_0, .int .i64 a0_1, .int .i64 a0_2, .int .i64 a0_3, .int .i64 a0_4, .int .i64 a0_5, .int .i64 a0_6, .int .i64 a0_7, .int .i64 a0_8, .int .i64 a0_9, .int .i64 a0_10, .int .i64 a0_11], .agg #[.int .i64 a1_0, .int .i64 a1_1], .int .i64 a4] (by rfl) rfl rfl (by (try simp only [List.map_toArray, List.map_cons, List.map_nil]); first | done | rfl | (simp only [List.length_drop, List.length_take]; rfl)) ?_
                  with_reducible refine (carry_Hold.calls kj7 a0_0 a0_1 a0_2 a0_3 a0_4 a0_5 a0_6 a0_7 a0_8 a0_9 a0_10 a0_11 a1_0 a1_1 a4 t214 t215 _ A51.1).mono ?_
                  rintro e w68 ⟨rfl, hb⟩
                  refine ⟨_, rfl, ?_⟩
                  have n0_ := bb hb B0_.1
                  have n1_ := bb hb B1_.1
                  have n2_ := bb hb B2_.1
                  have n3_ := bb hb B4_.1
                  have n4_ := mk (below_step (by repeat first | exact HB.1 | apply pD) hb)
                  clear B0_ B1_ B2_ B4_ HB
                  have B0_ := n0_
                  have B1_ := n1_
                  have B2_ := n2_
                  have B4_ := n3_
                  have HB := n4_
                  clear n0_ n1_ n2_ n3_ n4_
                  (try clear hb)
                  (try clear hb2)
                  (try clear hk)
                  (try clear hi)
                  refine hK.out _ _ (c12t B0_.1 ⟨bt B1_.1 0, bt B1_.1 1, bt B2_.1 0, bt B2_.1 1⟩) (fun hHeld => ?_)
                  clear hK K
                  refine norm_ (a' := ?_) ?_ ?_
                  rotate_left
                  ·show Act.put _ (some 67) _ = _
                   simp only [Act.put, List.setIfInBounds_toArray, List.set_cons_zero, List.set_cons_succ, i64_w, i32_w]
                   rfl
                  exact norm_ (by simp only [putAll, Act.put, List.setIfInBounds_toArray, List.set_cons_zero, List.set_cons_succ] <;> rfl) (hJ3_9 (g4_) _ ⟨hHeld, (by exact B0_.1), (by exact B1_.1), (by exact B2_.1), (by exact B4_.1), W4_.1, E4_.1, N04_.1, N40_.1, N14_.1, N41_.1, N24_.1, N42_.1, (by repeat (first | (with_reducible first | exact HB.1 | apply bA | apply pD | apply b1 | apply bS E0_.1 | apply bS E1_.1 | apply bS E2_.1 | apply bS E4_.1) | exact HB.1))⟩)
                 skip
                 refine box_step ?hg (N := 14) ?hd (cs := #[.int .i64 0, .int .i64 0]) (t := 25) ?hr ?_; (case hd => rfl); (case hg => rfl); (case hr => first | (go_simp; done) | (go_simp; rfl))
                 intro g3_ hg w68 hbox hb
                 have n0_ := bb hb B0_.1
                 have n1_ := bb hb B1_.1
                 have n2_ := bb hb B2_.1
                 have n3_ := bb hb B4_.1
                 have n4_ := mk (below_step (by repeat first | exact HB.1 | apply pD) hb)
                 have B3_ := mk (hbox)
                 have W3_ := gl hg (by repeat first | exact HB.1 | apply pD)
                 have E3_ := gl hg (by repeat first | exact HB.1 | apply pD)
                 have N03_ := nl hg B0_.1
                 have N30_ := ng hg B0_.1
                 have N13_ := nl hg B1_.1
                 have N31_ := ng hg B1_.1
                 have N23_ := nl hg B2_.1
                 have N32_ := ng hg B2_.1
                 have N43_ := nl hg B4_.1
                 have N34_ := ng hg B4_.1
                 clear B0_ B1_ B2_ B4_ HB
                 have B0_ := n0_
                 have B1_ := n1_
                 have B2_ := n2_
                 have B4_ := n3_
                 have HB := n4_
                 clear n0_ n1_ n2_ n3_ n4_ hb hbox hg
                 refine hK.out _ _ (c12t B0_.1 ⟨bt B1_.1 0, bt B1_.1 1, bt B2_.1 0, bt B2_.1 1⟩) (fun hHeld => ?_)
                 clear hK K
                 refine norm_ (a' := ?_) ?_ ?_
                 rotate_left
                 ·show Act.put _ (some 14) _ = _
                  simp only [Act.put, List.setIfInBounds_toArray, List.set_cons_zero, List.set_cons_succ, i64_w, i32_w]
                  rfl
                 exact norm_ (by simp only [putAll, Act.put, List.setIfInBounds_toArray, List.set_cons_zero, List.set_cons_succ] <;> rfl) (hJ8_9 (g3_, g4_) _ ⟨hHeld, (by exact B0_.1), (by exact B1_.1), (by exact B2_.1), (by exact B3_.1), (by exact B4_.1), W3_.1, E3_.1, N03_.1, N30_.1, N13_.1, N31_.1, N23_.1, N32_.1, N43_.1, N34_.1, W4_.1, E4_.1, N04_.1, N40_.1, N14_.1, N41_.1, N24_.1, N42_.1, (by repeat (first | (with_reducible first | exact HB.1 | apply bA | apply pD | apply b1 | apply bS E0_.1 | apply bS E1_.1 | apply bS E2_.1 | apply bS E4_.1 | apply bS E3_.1) | exact HB.1))⟩)
                skip
                rintro g3_ w67 ⟨hS_, h0_, h1_, h2_, h3_, h4_, h5_, h6_, h7_, h8_, h9_, h10_, h11_, h12_⟩
                have n0_ : Aside0 (w67.heap[g0_]? = some (.cells #[.int .i64 a0_0, .int .i64 a0_1, .int .i64 a0_2, .int .i64 a0_3, .int .i64 a0_4, .int .i64 a0_5, .int .i64 a0_6, .int .i64 a0_7, .int .i64 a0_8, .int .i64 a0_9, .int .i64 a0_10, .int .i64 a0_11] 23 (0, 0))) := ⟨h0_⟩
                have n1_ : Aside0 (w67.heap[g1_]? = some (.cells #[.int .i64 a1_0, .int .i64 a1_1] 25 (0, 0))) := ⟨h1_⟩
                have n2_ : Aside0 (w67.heap[g2_]? = some (.cells #[.int .i64 (wrap64 (a1_0 - a2)), .int .i64 (wrap64 (a1_1 + a3))] 25 (0, 0))) := ⟨h2_⟩
                have B3_ : Aside0 (w67.heap[g3_]? = some (.cells #[.int .i64 0, .int .i64 0] 25 (0, 0))) := ⟨h3_⟩
                have W3_ : Aside0 (w.heap.size ≤ g3_) := ⟨h4_⟩
                have E3_ : Aside0 (w.heap.size ≤ g3_) := ⟨h5_⟩
                have N03_ : Aside0 (g0_ ≠ g3_) := ⟨h6_⟩
                have N30_ : Aside0 (g3_ ≠ g0_) := ⟨h7_⟩
                have N13_ : Aside0 (g1_ ≠ g3_) := ⟨h8_⟩
                have N31_ : Aside0 (g3_ ≠ g1_) := ⟨h9_⟩
                have N23_ : Aside0 (g2_ ≠ g3_) := ⟨h10_⟩
                have N32_ : Aside0 (g3_ ≠ g2_) := ⟨h11_⟩
                have n12_ : Aside0 (Below w.heap.size w w67) := ⟨h12_⟩
                clear B0_ B1_ B2_ HB h0_ h1_ h2_ h3_ h4_ h5_ h6_ h7_ h8_ h9_ h10_ h11_ h12_
                have B0_ := n0_
                have B1_ := n1_
                have B2_ := n2_
                have HB := n12_
                clear n0_ n1_ n2_ n12_
                have hHeld := hS_
                try dsimp only at hHeld
                refine norm_ (a' := ?_) ?_ ?_
                rotate_left
                ·simp only [putAll, Act.put, List.setIfInBounds_toArray, List.set_cons_zero, List.set_cons_succ]
                 rfl
                refine two_ (i := 3) (j := 9) (Ni := some 67) (Nj := some 15) #[true, true, true, true, true, true, true, false, true, false, false, false] #[true, true, true, false, true, true, true, false, true, true, false, false] rfl rfl rfl rfl (two_of HT_.out (by kernel_rfl)) (by decide) (by decide) (fun K hK => ?_) (fun K hK => ?_)
                ·skip
                 refine goes_ Try.func16 (by kernel_rfl) rfl #[.agg #[.int .i64 a0_0, .int .i64 a0_1, .int .i64 a0_2, .int .i64 a0_3, .int .i64 a0_4, .int .i64 a0_5, .int .i64 a0_6, .int .i64 a0_7, .int .i64 a0_8, .int .i64 a0_9, .int .i64 a0_10, .int .i64 a0_11], .agg #[.int .i64 a1_0, .int .i64 a1_1], .int .i64 a4] (by rfl) rfl rfl (by (try simp only [List.map_toArray, List.map_cons, List.map_nil]); first | done | rfl | (simp only [List.length_drop, List.length_take]; rfl)) ?_
                 with_reducible refine (carry_Hold.calls kj7 a0_0 a0_1 a0_2 a0_3 a0_4 a0_5 a0_6 a0_7 a0_8 a0_9 a0_10 a0_11 a1_0 a1_1 a4 t214 t215 _ A51.1).mono ?_
                 rintro e w68 ⟨rfl, hb⟩
                 refine ⟨_, rfl, ?_⟩
                 have n0_ := bb hb B0_.1
                 have n1_ := bb hb B1_.1
                 have n2_ := bb hb B2_.1
                 have n3_ := bb hb B3_.1
                 have n4_ := mk (below_step (by repeat first | exact HB.1 | apply pD) hb)
                 clear B0_ B1_ B2_ B3_ HB
                 have B0_ := n0_
                 have B1_ := n1_
                 have B2_ := n2_
                 have B3_ := n3_
                 have HB := n4_
                 clear n0_ n1_ n2_ n3_ n4_
                 (try clear hb)
                 (try clear hb2)
                 (try clear hk)
                 (try clear hi)
                 refine hK.out _ _ (c12t B0_.1 ⟨bt B1_.1 0, bt B1_.1 1, bt B2_.1 0, bt B2_.1 1⟩) (fun hHeld => ?_)
                 clear hK K
                 refine norm_ (a' := ?_) ?_ ?_
                 rotate_left
                 ·show Act.put _ (some 67) _ = _
                  simp only [Act.put, List.setIfInBounds_toArray, List.set_cons_zero, List.set_cons_succ, i64_w, i32_w]
                  rfl
                 exact norm_ (by simp only [putAll, Act.put, List.setIfInBounds_toArray, List.set_cons_zero, List.set_cons_succ] <;> rfl) (hJ3_8 (g3_) _ ⟨hHeld, (by exact B0_.1), (by exact B1_.1), (by exact B2_.1), (by exact B3_.1), W3_.1, E3_.1, N03_.1, N30_.1, N13_.1, N31_.1, N23_.1, N32_.1, (by repeat (first | (with_reducible first | exact HB.1 | apply bA | apply pD | apply b1 | apply bS E0_.1 | apply bS E1_.1 | apply bS E2_.1 | apply bS E3_.1) | exact HB.1))⟩)
                skip
                refine box_step ?hg (N := 15) ?hd (cs := #[.int .i64 0, .int .i64 0]) (t := 25) ?hr ?_; (case hd => rfl); (case hg => rfl); (case hr => first | (go_simp; done) | (go_simp; rfl))
                intro g4_ hg w68 hbox hb
                have n0_ := bb hb B0_.1
                have n1_ := bb hb B1_.1
                have n2_ := bb hb B2_.1
                have n3_ := bb hb B3_.1
                have n4_ := mk (below_step (by repeat first | exact HB.1 | apply pD) hb)
                have B4_ := mk (hbox)
                have W4_ := gl hg (by repeat first | exact HB.1 | apply pD)
                have E4_ := gl hg (by repeat first | exact HB.1 | apply pD)
                have N04_ := nl hg B0_.1
                have N40_ := ng hg B0_.1
                have N14_ := nl hg B1_.1
                have N41_ := ng hg B1_.1
                have N24_ := nl hg B2_.1
                have N42_ := ng hg B2_.1
                have N34_ := nl hg B3_.1
                have N43_ := ng hg B3_.1
                clear B0_ B1_ B2_ B3_ HB
                have B0_ := n0_
                have B1_ := n1_
                have B2_ := n2_
                have B3_ := n3_
                have HB := n4_
                clear n0_ n1_ n2_ n3_ n4_ hb hbox hg
                refine hK.out _ _ (c12t B0_.1 ⟨bt B1_.1 0, bt B1_.1 1, bt B2_.1 0, bt B2_.1 1⟩) (fun hHeld => ?_)
                clear hK K
                refine norm_ (a' := ?_) ?_ ?_
                rotate_left
                ·show Act.put _ (some 15) _ = _
                 simp only [Act.put, List.setIfInBounds_toArray, List.set_cons_zero, List.set_cons_succ, i64_w, i32_w]
                 rfl
                exact norm_ (by simp only [putAll, Act.put, List.setIfInBounds_toArray, List.set_cons_zero, List.set_cons_succ] <;> rfl) (hJ8_9 (g3_, g4_) _ ⟨hHeld, (by exact B0_.1), (by exact B1_.1), (by exact B2_.1), (by exact B3_.1), (by exact B4_.1), W3_.1, E3_.1, N03_.1, N30_.1, N13_.1, N31_.1, N23_.1, N32_.1, N43_.1, N34_.1, W4_.1, E4_.1, N04_.1, N40_.1, N14_.1, N41_.1, N24_.1, N42_.1, (by repeat (first | (with_reducible first | exact HB.1 | apply bA | apply pD | apply b1 | apply bS E0_.1 | apply bS E1_.1 | apply bS E2_.1 | apply bS E3_.1 | apply bS E4_.1) | exact HB.1))⟩)
               skip
               rintro _ w67 ⟨hS_, h0_, h1_, h2_, h3_⟩
               have n0_ : Aside0 (w67.heap[g0_]? = some (.cells #[.int .i64 a0_0, .int .i64 a0_1, .int .i64 a0_2, .int .i64 a0_3, .int .i64 a0_4, .int .i64 a0_5, .int .i64 a0_6, .int .i64 a0_7, .int .i64 a0_8, .int .i64 a0_9, .int .i64 a0_10, .int .i64 a0_11] 23 (0, 0))) := ⟨h0_⟩
               have n1_ : Aside0 (w67.heap[g1_]? = some (.cells #[.int .i64 a1_0, .int .i64 a1_1] 25 (0, 0))) := ⟨h1_⟩
               have n2_ : Aside0 (w67.heap[g2_]? = some (.cells #[.int .i64 (wrap64 (a1_0 - a2)), .int .i64 (wrap64 (a1_1 + a3))] 25 (0, 0))) := ⟨h2_⟩
               have n3_ : Aside0 (Below w.heap.size w w67) := ⟨h3_⟩
               clear B0_ B1_ B2_ HB h0_ h1_ h2_ h3_
               have B0_ := n0_
               have B1_ := n1_
               have B2_ := n2_
               have HB := n3_
               clear n0_ n1_ n2_ n3_
               have hHeld := hS_
               try dsimp only at hHeld
               refine norm_ (a' := ?_) ?_ ?_
               rotate_left
               ·simp only [putAll, Act.put, List.setIfInBounds_toArray, List.set_cons_zero, List.set_cons_succ]
                rfl
               refine three_ (i := 7) (j := 8) (k := 9) (Ni := some 71) (Nj := some 14) (Nk := some 15) #[true, true, true, true, true, true, true, true, false, false, false, false] #[true, true, true, true, true, true, true, false, true, false, false, false] #[true, true, true, true, true, true, true, false, false, true, false, false] rfl rfl rfl rfl rfl rfl (three_of HT_.out (by kernel_rfl)) (by decide) (by decide) (by decide) (fun K hK => ?_) (fun K hK => ?_) (fun K hK => ?_)
               ·skip
                refine goes_ Try.func16 (by kernel_rfl) rfl #[.agg #[.int .i64 a0_0, .int .i64 a0_1, .int .i64 a0_2, .int .i64 a0_3, .int .i64 a0_4, .int .i64 a0_5, .int .i64 a0_6, .int .i64 a0_7, .int .i64 a0_8, .int .i64 a0_9, .int .i64 a0_10, .int .i64 a0_11], .agg #[.int .i64 (wrap64 (a1_0 - a2)), .int .i64 (wrap64 (a1_1 + a3))], .int .i64 a4] (by rfl) rfl rfl (by (try simp only [List.map_toArray, List.map_cons, List.map_nil]); first | done | rfl | (simp only [List.length_drop, List.length_take]; rfl)) ?_
                with_reducible refine (carry_Hold.calls kj7 a0_0 a0_1 a0_2 a0_3 a0_4 a0_5 a0_6 a0_7 a0_8 a0_9 a0_10 a0_11 (wrap64 (a1_0 - a2)) (wrap64 (a1_1 + a3)) a4 t216 t217 _ A52.1).mono ?_
                rintro e w68 ⟨rfl, hb⟩
                refine ⟨_, rfl, ?_⟩
                have n0_ := bb hb B0_.1
                have n1_ := bb hb B1_.1
                have n2_ := bb hb B2_.1
                have n3_ := mk (below_step (by repeat first | exact HB.1 | apply pD) hb)
                clear B0_ B1_ B2_ HB
                have B0_ := n0_
                have B1_ := n1_
                have B2_ := n2_
                have HB := n3_
                clear n0_ n1_ n2_ n3_
                (try clear hb)
                (try clear hb2)
                (try clear hk)
                (try clear hi)
                refine hK.out _ _ (c12t B0_.1 ⟨bt B1_.1 0, bt B1_.1 1, bt B2_.1 0, bt B2_.1 1⟩) (fun hHeld => ?_)
                clear hK K
                refine norm_ (a' := ?_) ?_ ?_
                rotate_left
                ·show Act.put _ (some 71) _ = _
                 simp only [Act.put, List.setIfInBounds_toArray, List.set_cons_zero, List.set_cons_succ, i64_w, i32_w]
                 rfl
                exact norm_ (by simp only [putAll, Act.put, List.setIfInBounds_toArray, List.set_cons_zero, List.set_cons_succ] <;> rfl) (hJ3_7 () _ ⟨hHeld, (by exact B0_.1), (by exact B1_.1), (by exact B2_.1), (by repeat (first | (with_reducible first | exact HB.1 | apply bA | apply pD | apply b1 | apply bS E0_.1 | apply bS E1_.1 | apply bS E2_.1) | exact HB.1))⟩)
               ·skip
                refine box_step ?hg (N := 14) ?hd (cs := #[.int .i64 0, .int .i64 0]) (t := 25) ?hr ?_; (case hd => rfl); (case hg => rfl); (case hr => first | (go_simp; done) | (go_simp; rfl))
                intro g3_ hg w68 hbox hb
                have n0_ := bb hb B0_.1
                have n1_ := bb hb B1_.1
                have n2_ := bb hb B2_.1
                have n3_ := mk (below_step (by repeat first | exact HB.1 | apply pD) hb)
                have B3_ := mk (hbox)
                have W3_ := gl hg (by repeat first | exact HB.1 | apply pD)
                have E3_ := gl hg (by repeat first | exact HB.1 | apply pD)
                have N03_ := nl hg B0_.1
                have N30_ := ng hg B0_.1
                have N13_ := nl hg B1_.1
                have N31_ := ng hg B1_.1
                have N23_ := nl hg B2_.1
                have N32_ := ng hg B2_.1
                clear B0_ B1_ B2_ HB
                have B0_ := n0_
                have B1_ := n1_
                have B2_ := n2_
                have HB := n3_
                clear n0_ n1_ n2_ n3_ hb hbox hg
                refine hK.out _ _ (c12t B0_.1 ⟨bt B1_.1 0, bt B1_.1 1, bt B2_.1 0, bt B2_.1 1⟩) (fun hHeld => ?_)
                clear hK K
                refine norm_ (a' := ?_) ?_ ?_
                rotate_left
                ·show Act.put _ (some 14) _ = _
                 simp only [Act.put, List.setIfInBounds_toArray, List.set_cons_zero, List.set_cons_succ, i64_w, i32_w]
                 rfl
                exact norm_ (by simp only [putAll, Act.put, List.setIfInBounds_toArray, List.set_cons_zero, List.set_cons_succ] <;> rfl) (hJ3_8 (g3_) _ ⟨hHeld, (by exact B0_.1), (by exact B1_.1), (by exact B2_.1), (by exact B3_.1), W3_.1, E3_.1, N03_.1, N30_.1, N13_.1, N31_.1, N23_.1, N32_.1, (by repeat (first | (with_reducible first | exact HB.1 | apply bA | apply pD | apply b1 | apply bS E0_.1 | apply bS E1_.1 | apply bS E2_.1 | apply bS E3_.1) | exact HB.1))⟩)
               skip
               refine box_step ?hg (N := 15) ?hd (cs := #[.int .i64 0, .int .i64 0]) (t := 25) ?hr ?_; (case hd => rfl); (case hg => rfl); (case hr => first | (go_simp; done) | (go_simp; rfl))
               intro g4_ hg w68 hbox hb
               have n0_ := bb hb B0_.1
               have n1_ := bb hb B1_.1
               have n2_ := bb hb B2_.1
               have n3_ := mk (below_step (by repeat first | exact HB.1 | apply pD) hb)
               have B4_ := mk (hbox)
               have W4_ := gl hg (by repeat first | exact HB.1 | apply pD)
               have E4_ := gl hg (by repeat first | exact HB.1 | apply pD)
               have N04_ := nl hg B0_.1
               have N40_ := ng hg B0_.1
               have N14_ := nl hg B1_.1
               have N41_ := ng hg B1_.1
               have N24_ := nl hg B2_.1
               have N42_ := ng hg B2_.1
               clear B0_ B1_ B2_ HB
               have B0_ := n0_
               have B1_ := n1_
               have B2_ := n2_
               have HB := n3_
               clear n0_ n1_ n2_ n3_ hb hbox hg
               refine hK.out _ _ (c12t B0_.1 ⟨bt B1_.1 0, bt B1_.1 1, bt B2_.1 0, bt B2_.1 1⟩) (fun hHeld => ?_)
               clear hK K
               refine norm_ (a' := ?_) ?_ ?_
               rotate_left
               ·show Act.put _ (some 15) _ = _
                simp only [Act.put, List.setIfInBounds_toArray, List.set_cons_zero, List.set_cons_succ, i64_w, i32_w]
                rfl
               exact norm_ (by simp only [putAll, Act.put, List.setIfInBounds_toArray, List.set_cons_zero, List.set_cons_succ] <;> rfl) (hJ3_9 (g4_) _ ⟨hHeld, (by exact B0_.1), (by exact B1_.1), (by exact B2_.1), (by exact B4_.1), W4_.1, E4_.1, N04_.1, N40_.1, N14_.1, N41_.1, N24_.1, N42_.1, (by repeat (first | (with_reducible first | exact HB.1 | apply bA | apply pD | apply b1 | apply bS E0_.1 | apply bS E1_.1 | apply bS E2_.1 | apply bS E4_.1) | exact HB.1))⟩)
              skip
              rintro ⟨g3_, g4_⟩ w68 ⟨hS_, h0_, h1_, h2_, h3_, h4_, h5_, h6_, h7_, h8_, h9_, h10_, h11_, h12_, h13_, h14_, h15_, h16_, h17_, h18_, h19_, h20_, h21_, h22_, h23_⟩
              have n0_ : Aside0 (w68.heap[g0_]? = some (.cells #[.int .i64 a0_0, .int .i64 a0_1, .int .i64 a0_2, .int .i64 a0_3, .int .i64 a0_4, .int .i64 a0_5, .int .i64 a0_6, .int .i64 a0_7, .int .i64 a0_8, .int .i64 a0_9, .int .i64 a0_10, .int .i64 a0_11] 23 (0, 0))) := ⟨h0_⟩
              have n1_ : Aside0 (w68.heap[g1_]? = some (.cells #[.int .i64 a1_0, .int .i64 a1_1] 25 (0, 0))) := ⟨h1_⟩
              have n2_ : Aside0 (w68.heap[g2_]? = some (.cells #[.int .i64 (wrap64 (a1_0 - a2)), .int .i64 (wrap64 (a1_1 + a3))] 25 (0, 0))) := ⟨h2_⟩
              have B3_ : Aside0 (w68.heap[g3_]? = some (.cells #[.int .i64 0, .int .i64 0] 25 (0, 0))) := ⟨h3_⟩
              have B4_ : Aside0 (w68.heap[g4_]? = some (.cells #[.int .i64 0, .int .i64 0] 25 (0, 0))) := ⟨h4_⟩
              have W3_ : Aside0 (w.heap.size ≤ g3_) := ⟨h5_⟩
              have E3_ : Aside0 (w.heap.size ≤ g3_) := ⟨h6_⟩
              have N03_ : Aside0 (g0_ ≠ g3_) := ⟨h7_⟩
              have N30_ : Aside0 (g3_ ≠ g0_) := ⟨h8_⟩
              have N13_ : Aside0 (g1_ ≠ g3_) := ⟨h9_⟩
              have N31_ : Aside0 (g3_ ≠ g1_) := ⟨h10_⟩
              have N23_ : Aside0 (g2_ ≠ g3_) := ⟨h11_⟩
              have N32_ : Aside0 (g3_ ≠ g2_) := ⟨h12_⟩
              have N43_ : Aside0 (g4_ ≠ g3_) := ⟨h13_⟩
              have N34_ : Aside0 (g3_ ≠ g4_) := ⟨h14_⟩
              have W4_ : Aside0 (w.heap.size ≤ g4_) := ⟨h15_⟩
              have E4_ : Aside0 (w.heap.size ≤ g4_) := ⟨h16_⟩
              have N04_ : Aside0 (g0_ ≠ g4_) := ⟨h17_⟩
              have N40_ : Aside0 (g4_ ≠ g0_) := ⟨h18_⟩
              have N14_ : Aside0 (g1_ ≠ g4_) := ⟨h19_⟩
              have N41_ : Aside0 (g4_ ≠ g1_) := ⟨h20_⟩
              have N24_ : Aside0 (g2_ ≠ g4_) := ⟨h21_⟩
              have N42_ : Aside0 (g4_ ≠ g2_) := ⟨h22_⟩
              have n23_ : Aside0 (Below w.heap.size w w68) := ⟨h23_⟩
              clear B0_ B1_ B2_ HB h0_ h1_ h2_ h3_ h4_ h5_ h6_ h7_ h8_ h9_ h10_ h11_ h12_ h13_ h14_ h15_ h16_ h17_ h18_ h19_ h20_ h21_ h22_ h23_
              have B0_ := n0_
              have B1_ := n1_
              have B2_ := n2_
              have HB := n23_
              clear n0_ n1_ n2_ n23_
              have hHeld := hS_
              try dsimp only at hHeld
              refine norm_ (a' := ?_) ?_ ?_
              rotate_left
              ·simp only [putAll, Act.put, List.setIfInBounds_toArray, List.set_cons_zero, List.set_cons_succ]
               rfl
              refine one_ (i := 3) (N := some 67) #[true, true, true, true, true, true, true, false, true, true, false, false] rfl rfl (one_of HT_.out (by kernel_rfl)) (by decide) (fun K hK => ?_)
              refine goes_ Try.func16 (by kernel_rfl) rfl #[.agg #[.int .i64 a0_0, .int .i64 a0_1, .int .i64 a0_2, .int .i64 a0_3, .int .i64 a0_4, .int .i64 a0_5, .int .i64 a0_6, .int .i64 a0_7, .int .i64 a0_8, .int .i64 a0_9, .int .i64 a0_10, .int .i64 a0_11], .agg #[.int .i64 a1_0, .int .i64 a1_1], .int .i64 a4] (by rfl) rfl rfl (by (try simp only [List.map_toArray, List.map_cons, List.map_nil]); first | done | rfl | (simp only [List.length_drop, List.length_take]; rfl)) ?_
              with_reducible refine (carry_Hold.calls kj7 a0_0 a0_1 a0_2 a0_3 a0_4 a0_5 a0_6 a0_7 a0_8 a0_9 a0_10 a0_11 a1_0 a1_1 a4 t214 t215 _ A51.1).mono ?_
              rintro e w69 ⟨rfl, hb⟩
              refine ⟨_, rfl, ?_⟩
              have n0_ := bb hb B0_.1
              have n1_ := bb hb B1_.1
              have n2_ := bb hb B2_.1
              have n3_ := bb hb B3_.1
              have n4_ := bb hb B4_.1
              have n5_ := mk (below_step (by repeat first | exact HB.1 | apply pD) hb)
              clear B0_ B1_ B2_ B3_ B4_ HB
              have B0_ := n0_
              have B1_ := n1_
              have B2_ := n2_
              have B3_ := n3_
              have B4_ := n4_
              have HB := n5_
              clear n0_ n1_ n2_ n3_ n4_ n5_
              (try clear hb)
              (try clear hb2)
              (try clear hk)
              (try clear hi)
              refine hK.out _ _ (c12t B0_.1 ⟨bt B1_.1 0, bt B1_.1 1, bt B2_.1 0, bt B2_.1 1⟩) (fun hHeld => ?_)
              clear hK K
              refine norm_ (a' := ?_) ?_ ?_
              rotate_left
              ·show Act.put _ (some 67) _ = _
               simp only [Act.put, List.setIfInBounds_toArray, List.set_cons_zero, List.set_cons_succ, i64_w, i32_w]
               rfl
              exact norm_ (by simp only [putAll, Act.put, List.setIfInBounds_toArray, List.set_cons_zero, List.set_cons_succ] <;> rfl) (hJ3_8_9 (g3_, g4_) _ ⟨hHeld, (by exact B0_.1), (by exact B1_.1), (by exact B2_.1), (by exact B3_.1), (by exact B4_.1), W3_.1, E3_.1, N03_.1, N30_.1, N13_.1, N31_.1, N23_.1, N32_.1, N43_.1, N34_.1, W4_.1, E4_.1, N04_.1, N40_.1, N14_.1, N41_.1, N24_.1, N42_.1, (by repeat (first | (with_reducible first | exact HB.1 | apply bA | apply pD | apply b1 | apply bS E0_.1 | apply bS E1_.1 | apply bS E2_.1 | apply bS E3_.1 | apply bS E4_.1) | exact HB.1))⟩)
             skip
             rintro g4_ w68 ⟨hS_, h0_, h1_, h2_, h3_, h4_, h5_, h6_, h7_, h8_, h9_, h10_, h11_, h12_⟩
             have n0_ : Aside0 (w68.heap[g0_]? = some (.cells #[.int .i64 a0_0, .int .i64 a0_1, .int .i64 a0_2, .int .i64 a0_3, .int .i64 a0_4, .int .i64 a0_5, .int .i64 a0_6, .int .i64 a0_7, .int .i64 a0_8, .int .i64 a0_9, .int .i64 a0_10, .int .i64 a0_11] 23 (0, 0))) := ⟨h0_⟩
             have n1_ : Aside0 (w68.heap[g1_]? = some (.cells #[.int .i64 a1_0, .int .i64 a1_1] 25 (0, 0))) := ⟨h1_⟩
             have n2_ : Aside0 (w68.heap[g2_]? = some (.cells #[.int .i64 (wrap64 (a1_0 - a2)), .int .i64 (wrap64 (a1_1 + a3))] 25 (0, 0))) := ⟨h2_⟩
             have B4_ : Aside0 (w68.heap[g4_]? = some (.cells #[.int .i64 0, .int .i64 0] 25 (0, 0))) := ⟨h3_⟩
             have W4_ : Aside0 (w.heap.size ≤ g4_) := ⟨h4_⟩
             have E4_ : Aside0 (w.heap.size ≤ g4_) := ⟨h5_⟩
             have N04_ : Aside0 (g0_ ≠ g4_) := ⟨h6_⟩
             have N40_ : Aside0 (g4_ ≠ g0_) := ⟨h7_⟩
             have N14_ : Aside0 (g1_ ≠ g4_) := ⟨h8_⟩
             have N41_ : Aside0 (g4_ ≠ g1_) := ⟨h9_⟩
             have N24_ : Aside0 (g2_ ≠ g4_) := ⟨h10_⟩
             have N42_ : Aside0 (g4_ ≠ g2_) := ⟨h11_⟩
             have n12_ : Aside0 (Below w.heap.size w w68) := ⟨h12_⟩
             clear B0_ B1_ B2_ HB h0_ h1_ h2_ h3_ h4_ h5_ h6_ h7_ h8_ h9_ h10_ h11_ h12_
             have B0_ := n0_
             have B1_ := n1_
             have B2_ := n2_
             have HB := n12_
             clear n0_ n1_ n2_ n12_
             have hHeld := hS_
             try dsimp only at hHeld
             refine norm_ (a' := ?_) ?_ ?_
             rotate_left
             ·simp only [putAll, Act.put, List.setIfInBounds_toArray, List.set_cons_zero, List.set_cons_succ]
              rfl
             refine two_ (i := 7) (j := 8) (Ni := some 71) (Nj := some 14) #[true, true, true, true, true, true, true, true, false, true, false, false] #[true, true, true, true, true, true, true, false, true, true, false, false] rfl rfl rfl rfl (two_of HT_.out (by kernel_rfl)) (by decide) (by decide) (fun K hK => ?_) (fun K hK => ?_)
             ·skip
              refine goes_ Try.func16 (by kernel_rfl) rfl #[.agg #[.int .i64 a0_0, .int .i64 a0_1, .int .i64 a0_2, .int .i64 a0_3, .int .i64 a0_4, .int .i64 a0_5, .int .i64 a0_6, .int .i64 a0_7, .int .i64 a0_8, .int .i64 a0_9, .int .i64 a0_10, .int .i64 a0_11], .agg #[.int .i64 (wrap64 (a1_0 - a2)), .int .i64 (wrap64 (a1_1 + a3))], .int .i64 a4] (by rfl) rfl rfl (by (try simp only [List.map_toArray, List.map_cons, List.map_nil]); first | done | rfl | (simp only [List.length_drop, List.length_take]; rfl)) ?_
              with_reducible refine (carry_Hold.calls kj7 a0_0 a0_1 a0_2 a0_3 a0_4 a0_5 a0_6 a0_7 a0_8 a0_9 a0_10 a0_11 (wrap64 (a1_0 - a2)) (wrap64 (a1_1 + a3)) a4 t216 t217 _ A52.1).mono ?_
              rintro e w69 ⟨rfl, hb⟩
              refine ⟨_, rfl, ?_⟩
              have n0_ := bb hb B0_.1
              have n1_ := bb hb B1_.1
              have n2_ := bb hb B2_.1
              have n3_ := bb hb B4_.1
              have n4_ := mk (below_step (by repeat first | exact HB.1 | apply pD) hb)
              clear B0_ B1_ B2_ B4_ HB
              have B0_ := n0_
              have B1_ := n1_
              have B2_ := n2_
              have B4_ := n3_
              have HB := n4_
              clear n0_ n1_ n2_ n3_ n4_
              (try clear hb)
              (try clear hb2)
              (try clear hk)
              (try clear hi)
              refine hK.out _ _ (c12t B0_.1 ⟨bt B1_.1 0, bt B1_.1 1, bt B2_.1 0, bt B2_.1 1⟩) (fun hHeld => ?_)
              clear hK K
              refine norm_ (a' := ?_) ?_ ?_
              rotate_left
              ·show Act.put _ (some 71) _ = _
               simp only [Act.put, List.setIfInBounds_toArray, List.set_cons_zero, List.set_cons_succ, i64_w, i32_w]
               rfl
              exact norm_ (by simp only [putAll, Act.put, List.setIfInBounds_toArray, List.set_cons_zero, List.set_cons_succ] <;> rfl) (hJ3_7_9 (g4_) _ ⟨hHeld, (by exact B0_.1), (by exact B1_.1), (by exact B2_.1), (by exact B4_.1), W4_.1, E4_.1, N04_.1, N40_.1, N14_.1, N41_.1, N24_.1, N42_.1, (by repeat (first | (with_reducible first | exact HB.1 | apply bA | apply pD | apply b1 | apply bS E0_.1 | apply bS E1_.1 | apply bS E2_.1 | apply bS E4_.1) | exact HB.1))⟩)
             skip
             refine box_step ?hg (N := 14) ?hd (cs := #[.int .i64 0, .int .i64 0]) (t := 25) ?hr ?_; (case hd => rfl); (case hg => rfl); (case hr => first | (go_simp; done) | (go_simp; rfl))
             intro g3_ hg w69 hbox hb
             have n0_ := bb hb B0_.1
             have n1_ := bb hb B1_.1
             have n2_ := bb hb B2_.1
             have n3_ := bb hb B4_.1
             have n4_ := mk (below_step (by repeat first | exact HB.1 | apply pD) hb)
             have B3_ := mk (hbox)
             have W3_ := gl hg (by repeat first | exact HB.1 | apply pD)
             have E3_ := gl hg (by repeat first | exact HB.1 | apply pD)
             have N03_ := nl hg B0_.1
             have N30_ := ng hg B0_.1
             have N13_ := nl hg B1_.1
             have N31_ := ng hg B1_.1
             have N23_ := nl hg B2_.1
             have N32_ := ng hg B2_.1
             have N43_ := nl hg B4_.1
             have N34_ := ng hg B4_.1
             clear B0_ B1_ B2_ B4_ HB
             have B0_ := n0_
             have B1_ := n1_
             have B2_ := n2_
             have B4_ := n3_
             have HB := n4_
             clear n0_ n1_ n2_ n3_ n4_ hb hbox hg
             refine hK.out _ _ (c12t B0_.1 ⟨bt B1_.1 0, bt B1_.1 1, bt B2_.1 0, bt B2_.1 1⟩) (fun hHeld => ?_)
             clear hK K
             refine norm_ (a' := ?_) ?_ ?_
             rotate_left
             ·show Act.put _ (some 14) _ = _
              simp only [Act.put, List.setIfInBounds_toArray, List.set_cons_zero, List.set_cons_succ, i64_w, i32_w]
              rfl
             exact norm_ (by simp only [putAll, Act.put, List.setIfInBounds_toArray, List.set_cons_zero, List.set_cons_succ] <;> rfl) (hJ3_8_9 (g3_, g4_) _ ⟨hHeld, (by exact B0_.1), (by exact B1_.1), (by exact B2_.1), (by exact B3_.1), (by exact B4_.1), W3_.1, E3_.1, N03_.1, N30_.1, N13_.1, N31_.1, N23_.1, N32_.1, N43_.1, N34_.1, W4_.1, E4_.1, N04_.1, N40_.1, N14_.1, N41_.1, N24_.1, N42_.1, (by repeat (first | (with_reducible first | exact HB.1 | apply bA | apply pD | apply b1 | apply bS E0_.1 | apply bS E1_.1 | apply bS E2_.1 | apply bS E4_.1 | apply bS E3_.1) | exact HB.1))⟩)
            skip
            rintro g3_ w68 ⟨hS_, h0_, h1_, h2_, h3_, h4_, h5_, h6_, h7_, h8_, h9_, h10_, h11_, h12_⟩
            have n0_ : Aside0 (w68.heap[g0_]? = some (.cells #[.int .i64 a0_0, .int .i64 a0_1, .int .i64 a0_2, .int .i64 a0_3, .int .i64 a0_4, .int .i64 a0_5, .int .i64 a0_6, .int .i64 a0_7, .int .i64 a0_8, .int .i64 a0_9, .int .i64 a0_10, .int .i64 a0_11] 23 (0, 0))) := ⟨h0_⟩
            have n1_ : Aside0 (w68.heap[g1_]? = some (.cells #[.int .i64 a1_0, .int .i64 a1_1] 25 (0, 0))) := ⟨h1_⟩
            have n2_ : Aside0 (w68.heap[g2_]? = some (.cells #[.int .i64 (wrap64 (a1_0 - a2)), .int .i64 (wrap64 (a1_1 + a3))] 25 (0, 0))) := ⟨h2_⟩
            have B3_ : Aside0 (w68.heap[g3_]? = some (.cells #[.int .i64 0, .int .i64 0] 25 (0, 0))) := ⟨h3_⟩
            have W3_ : Aside0 (w.heap.size ≤ g3_) := ⟨h4_⟩
            have E3_ : Aside0 (w.heap.size ≤ g3_) := ⟨h5_⟩
            have N03_ : Aside0 (g0_ ≠ g3_) := ⟨h6_⟩
            have N30_ : Aside0 (g3_ ≠ g0_) := ⟨h7_⟩
            have N13_ : Aside0 (g1_ ≠ g3_) := ⟨h8_⟩
            have N31_ : Aside0 (g3_ ≠ g1_) := ⟨h9_⟩
            have N23_ : Aside0 (g2_ ≠ g3_) := ⟨h10_⟩
            have N32_ : Aside0 (g3_ ≠ g2_) := ⟨h11_⟩
            have n12_ : Aside0 (Below w.heap.size w w68) := ⟨h12_⟩
            clear B0_ B1_ B2_ HB h0_ h1_ h2_ h3_ h4_ h5_ h6_ h7_ h8_ h9_ h10_ h11_ h12_
            have B0_ := n0_
            have B1_ := n1_
            have B2_ := n2_
            have HB := n12_
            clear n0_ n1_ n2_ n12_
            have hHeld := hS_
            try dsimp only at hHeld
            refine norm_ (a' := ?_) ?_ ?_
            rotate_left
            ·simp only [putAll, Act.put, List.setIfInBounds_toArray, List.set_cons_zero, List.set_cons_succ]
             rfl
            refine two_ (i := 7) (j := 9) (Ni := some 71) (Nj := some 15) #[true, true, true, true, true, true, true, true, true, false, false, false] #[true, true, true, true, true, true, true, false, true, true, false, false] rfl rfl rfl rfl (two_of HT_.out (by kernel_rfl)) (by decide) (by decide) (fun K hK => ?_) (fun K hK => ?_)
            ·skip
             refine goes_ Try.func16 (by kernel_rfl) rfl #[.agg #[.int .i64 a0_0, .int .i64 a0_1, .int .i64 a0_2, .int .i64 a0_3, .int .i64 a0_4, .int .i64 a0_5, .int .i64 a0_6, .int .i64 a0_7, .int .i64 a0_8, .int .i64 a0_9, .int .i64 a0_10, .int .i64 a0_11], .agg #[.int .i64 (wrap64 (a1_0 - a2)), .int .i64 (wrap64 (a1_1 + a3))], .int .i64 a4] (by rfl) rfl rfl (by (try simp only [List.map_toArray, List.map_cons, List.map_nil]); first | done | rfl | (simp only [List.length_drop, List.length_take]; rfl)) ?_
             with_reducible refine (carry_Hold.calls kj7 a0_0 a0_1 a0_2 a0_3 a0_4 a0_5 a0_6 a0_7 a0_8 a0_9 a0_10 a0_11 (wrap64 (a1_0 - a2)) (wrap64 (a1_1 + a3)) a4 t216 t217 _ A52.1).mono ?_
             rintro e w69 ⟨rfl, hb⟩
             refine ⟨_, rfl, ?_⟩
             have n0_ := bb hb B0_.1
             have n1_ := bb hb B1_.1
             have n2_ := bb hb B2_.1
             have n3_ := bb hb B3_.1
             have n4_ := mk (below_step (by repeat first | exact HB.1 | apply pD) hb)
             clear B0_ B1_ B2_ B3_ HB
             have B0_ := n0_
             have B1_ := n1_
             have B2_ := n2_
             have B3_ := n3_
             have HB := n4_
             clear n0_ n1_ n2_ n3_ n4_
             (try clear hb)
             (try clear hb2)
             (try clear hk)
             (try clear hi)
             refine hK.out _ _ (c12t B0_.1 ⟨bt B1_.1 0, bt B1_.1 1, bt B2_.1 0, bt B2_.1 1⟩) (fun hHeld => ?_)
             clear hK K
             refine norm_ (a' := ?_) ?_ ?_
             rotate_left
             ·show Act.put _ (some 71) _ = _
              simp only [Act.put, List.setIfInBounds_toArray, List.set_cons_zero, List.set_cons_succ, i64_w, i32_w]
              rfl
             exact norm_ (by simp only [putAll, Act.put, List.setIfInBounds_toArray, List.set_cons_zero, List.set_cons_succ] <;> rfl) (hJ3_7_8 (g3_) _ ⟨hHeld, (by exact B0_.1), (by exact B1_.1), (by exact B2_.1), (by exact B3_.1), W3_.1, E3_.1, N03_.1, N30_.1, N13_.1, N31_.1, N23_.1, N32_.1, (by repeat (first | (with_reducible first | exact HB.1 | apply bA | apply pD | apply b1 | apply bS E0_.1 | apply bS E1_.1 | apply bS E2_.1 | apply bS E3_.1) | exact HB.1))⟩)
            skip
            refine box_step ?hg (N := 15) ?hd (cs := #[.int .i64 0, .int .i64 0]) (t := 25) ?hr ?_; (case hd => rfl); (case hg => rfl); (case hr => first | (go_simp; done) | (go_simp; rfl))
            intro g4_ hg w69 hbox hb
            have n0_ := bb hb B0_.1
            have n1_ := bb hb B1_.1
            have n2_ := bb hb B2_.1
            have n3_ := bb hb B3_.1
            have n4_ := mk (below_step (by repeat first | exact HB.1 | apply pD) hb)
            have B4_ := mk (hbox)
            have W4_ := gl hg (by repeat first | exact HB.1 | apply pD)
            have E4_ := gl hg (by repeat first | exact HB.1 | apply pD)
            have N04_ := nl hg B0_.1
            have N40_ := ng hg B0_.1
            have N14_ := nl hg B1_.1
            have N41_ := ng hg B1_.1
            have N24_ := nl hg B2_.1
            have N42_ := ng hg B2_.1
            have N34_ := nl hg B3_.1
            have N43_ := ng hg B3_.1
            clear B0_ B1_ B2_ B3_ HB
            have B0_ := n0_
            have B1_ := n1_
            have B2_ := n2_
            have B3_ := n3_
            have HB := n4_
            clear n0_ n1_ n2_ n3_ n4_ hb hbox hg
            refine hK.out _ _ (c12t B0_.1 ⟨bt B1_.1 0, bt B1_.1 1, bt B2_.1 0, bt B2_.1 1⟩) (fun hHeld => ?_)
            clear hK K
            refine norm_ (a' := ?_) ?_ ?_
            rotate_left
            ·show Act.put _ (some 15) _ = _
             simp only [Act.put, List.setIfInBounds_toArray, List.set_cons_zero, List.set_cons_succ, i64_w, i32_w]
             rfl
            exact norm_ (by simp only [putAll, Act.put, List.setIfInBounds_toArray, List.set_cons_zero, List.set_cons_succ] <;> rfl) (hJ3_8_9 (g3_, g4_) _ ⟨hHeld, (by exact B0_.1), (by exact B1_.1), (by exact B2_.1), (by exact B3_.1), (by exact B4_.1), W3_.1, E3_.1, N03_.1, N30_.1, N13_.1, N31_.1, N23_.1, N32_.1, N43_.1, N34_.1, W4_.1, E4_.1, N04_.1, N40_.1, N14_.1, N41_.1, N24_.1, N42_.1, (by repeat (first | (with_reducible first | exact HB.1 | apply bA | apply pD | apply b1 | apply bS E0_.1 | apply bS E1_.1 | apply bS E2_.1 | apply bS E3_.1 | apply bS E4_.1) | exact HB.1))⟩)
           skip
           rintro _ w68 ⟨hS_, h0_, h1_, h2_, h3_⟩
           have n0_ : Aside0 (w68.heap[g0_]? = some (.cells #[.int .i64 a0_0, .int .i64 a0_1, .int .i64 a0_2, .int .i64 a0_3, .int .i64 a0_4, .int .i64 a0_5, .int .i64 a0_6, .int .i64 a0_7, .int .i64 a0_8, .int .i64 a0_9, .int .i64 a0_10, .int .i64 a0_11] 23 (0, 0))) := ⟨h0_⟩
           have n1_ : Aside0 (w68.heap[g1_]? = some (.cells #[.int .i64 a1_0, .int .i64 a1_1] 25 (0, 0))) := ⟨h1_⟩
           have n2_ : Aside0 (w68.heap[g2_]? = some (.cells #[.int .i64 (wrap64 (a1_0 - a2)), .int .i64 (wrap64 (a1_1 + a3))] 25 (0, 0))) := ⟨h2_⟩
           have n3_ : Aside0 (Below w.heap.size w w68) := ⟨h3_⟩
           clear B0_ B1_ B2_ HB h0_ h1_ h2_ h3_
           have B0_ := n0_
           have B1_ := n1_
           have B2_ := n2_
           have HB := n3_
           clear n0_ n1_ n2_ n3_
           have hHeld := hS_
           try dsimp only at hHeld
           refine norm_ (a' := ?_) ?_ ?_
           rotate_left
           ·simp only [putAll, Act.put, List.setIfInBounds_toArray, List.set_cons_zero, List.set_cons_succ]
            rfl
           refine two_ (i := 8) (j := 9) (Ni := some 14) (Nj := some 15) #[true, true, true, true, true, true, true, true, true, false, false, false] #[true, true, true, true, true, true, true, true, false, true, false, false] rfl rfl rfl rfl (two_of HT_.out (by kernel_rfl)) (by decide) (by decide) (fun K hK => ?_) (fun K hK => ?_)
           ·skip
            refine box_step ?hg (N := 14) ?hd (cs := #[.int .i64 0, .int .i64 0]) (t := 25) ?hr ?_; (case hd => rfl); (case hg => rfl); (case hr => first | (go_simp; done) | (go_simp; rfl))
            intro g3_ hg w69 hbox hb
            have n0_ := bb hb B0_.1
            have n1_ := bb hb B1_.1
            have n2_ := bb hb B2_.1
            have n3_ := mk (below_step (by repeat first | exact HB.1 | apply pD) hb)
            have B3_ := mk (hbox)
            have W3_ := gl hg (by repeat first | exact HB.1 | apply pD)
            have E3_ := gl hg (by repeat first | exact HB.1 | apply pD)
            have N03_ := nl hg B0_.1
            have N30_ := ng hg B0_.1
            have N13_ := nl hg B1_.1
            have N31_ := ng hg B1_.1
            have N23_ := nl hg B2_.1
            have N32_ := ng hg B2_.1
            clear B0_ B1_ B2_ HB
            have B0_ := n0_
            have B1_ := n1_
            have B2_ := n2_
            have HB := n3_
            clear n0_ n1_ n2_ n3_ hb hbox hg
            refine hK.out _ _ (c12t B0_.1 ⟨bt B1_.1 0, bt B1_.1 1, bt B2_.1 0, bt B2_.1 1⟩) (fun hHeld => ?_)
            clear hK K
            refine norm_ (a' := ?_) ?_ ?_
            rotate_left
            ·show Act.put _ (some 14) _ = _
             simp only [Act.put, List.setIfInBounds_toArray, List.set_cons_zero, List.set_cons_succ, i64_w, i32_w]
             rfl
            exact norm_ (by simp only [putAll, Act.put, List.setIfInBounds_toArray, List.set_cons_zero, List.set_cons_succ] <;> rfl) (hJ3_7_8 (g3_) _ ⟨hHeld, (by exact B0_.1), (by exact B1_.1), (by exact B2_.1), (by exact B3_.1), W3_.1, E3_.1, N03_.1, N30_.1, N13_.1, N31_.1, N23_.1, N32_.1, (by repeat (first | (with_reducible first | exact HB.1 | apply bA | apply pD | apply b1 | apply bS E0_.1 | apply bS E1_.1 | apply bS E2_.1 | apply bS E3_.1) | exact HB.1))⟩)
           skip
           refine box_step ?hg (N := 15) ?hd (cs := #[.int .i64 0, .int .i64 0]) (t := 25) ?hr ?_; (case hd => rfl); (case hg => rfl); (case hr => first | (go_simp; done) | (go_simp; rfl))
           intro g4_ hg w69 hbox hb
           have n0_ := bb hb B0_.1
           have n1_ := bb hb B1_.1
           have n2_ := bb hb B2_.1
           have n3_ := mk (below_step (by repeat first | exact HB.1 | apply pD) hb)
           have B4_ := mk (hbox)
           have W4_ := gl hg (by repeat first | exact HB.1 | apply pD)
           have E4_ := gl hg (by repeat first | exact HB.1 | apply pD)
           have N04_ := nl hg B0_.1
           have N40_ := ng hg B0_.1
           have N14_ := nl hg B1_.1
           have N41_ := ng hg B1_.1
           have N24_ := nl hg B2_.1
           have N42_ := ng hg B2_.1
           clear B0_ B1_ B2_ HB
           have B0_ := n0_
           have B1_ := n1_
           have B2_ := n2_
           have HB := n3_
           clear n0_ n1_ n2_ n3_ hb hbox hg
           refine hK.out _ _ (c12t B0_.1 ⟨bt B1_.1 0, bt B1_.1 1, bt B2_.1 0, bt B2_.1 1⟩) (fun hHeld => ?_)
           clear hK K
           refine norm_ (a' := ?_) ?_ ?_
           rotate_left
           ·show Act.put _ (some 15) _ = _
            simp only [Act.put, List.setIfInBounds_toArray, List.set_cons_zero, List.set_cons_succ, i64_w, i32_w]
            rfl
           exact norm_ (by simp only [putAll, Act.put, List.setIfInBounds_toArray, List.set_cons_zero, List.set_cons_succ] <;> rfl) (hJ3_7_9 (g4_) _ ⟨hHeld, (by exact B0_.1), (by exact B1_.1), (by exact B2_.1), (by exact B4_.1), W4_.1, E4_.1, N04_.1, N40_.1, N14_.1, N41_.1, N24_.1, N42_.1, (by repeat (first | (with_reducible first | exact HB.1 | apply bA | apply pD | apply b1 | apply bS E0_.1 | apply bS E1_.1 | apply bS E2_.1 | apply bS E4_.1) | exact HB.1))⟩)
          skip
          rintro ⟨g3_, g4_⟩ w69 ⟨hS_, h0_, h1_, h2_, h3_, h4_, h5_, h6_, h7_, h8_, h9_, h10_, h11_, h12_, h13_, h14_, h15_, h16_, h17_, h18_, h19_, h20_, h21_, h22_, h23_⟩
          have n0_ : Aside0 (w69.heap[g0_]? = some (.cells #[.int .i64 a0_0, .int .i64 a0_1, .int .i64 a0_2, .int .i64 a0_3, .int .i64 a0_4, .int .i64 a0_5, .int .i64 a0_6, .int .i64 a0_7, .int .i64 a0_8, .int .i64 a0_9, .int .i64 a0_10, .int .i64 a0_11] 23 (0, 0))) := ⟨h0_⟩
          have n1_ : Aside0 (w69.heap[g1_]? = some (.cells #[.int .i64 a1_0, .int .i64 a1_1] 25 (0, 0))) := ⟨h1_⟩
          have n2_ : Aside0 (w69.heap[g2_]? = some (.cells #[.int .i64 (wrap64 (a1_0 - a2)), .int .i64 (wrap64 (a1_1 + a3))] 25 (0, 0))) := ⟨h2_⟩
          have B3_ : Aside0 (w69.heap[g3_]? = some (.cells #[.int .i64 0, .int .i64 0] 25 (0, 0))) := ⟨h3_⟩
          have B4_ : Aside0 (w69.heap[g4_]? = some (.cells #[.int .i64 0, .int .i64 0] 25 (0, 0))) := ⟨h4_⟩
          have W3_ : Aside0 (w.heap.size ≤ g3_) := ⟨h5_⟩
          have E3_ : Aside0 (w.heap.size ≤ g3_) := ⟨h6_⟩
          have N03_ : Aside0 (g0_ ≠ g3_) := ⟨h7_⟩
          have N30_ : Aside0 (g3_ ≠ g0_) := ⟨h8_⟩
          have N13_ : Aside0 (g1_ ≠ g3_) := ⟨h9_⟩
          have N31_ : Aside0 (g3_ ≠ g1_) := ⟨h10_⟩
          have N23_ : Aside0 (g2_ ≠ g3_) := ⟨h11_⟩
          have N32_ : Aside0 (g3_ ≠ g2_) := ⟨h12_⟩
          have N43_ : Aside0 (g4_ ≠ g3_) := ⟨h13_⟩
          have N34_ : Aside0 (g3_ ≠ g4_) := ⟨h14_⟩
          have W4_ : Aside0 (w.heap.size ≤ g4_) := ⟨h15_⟩
          have E4_ : Aside0 (w.heap.size ≤ g4_) := ⟨h16_⟩
          have N04_ : Aside0 (g0_ ≠ g4_) := ⟨h17_⟩
          have N40_ : Aside0 (g4_ ≠ g0_) := ⟨h18_⟩
          have N14_ : Aside0 (g1_ ≠ g4_) := ⟨h19_⟩
          have N41_ : Aside0 (g4_ ≠ g1_) := ⟨h20_⟩
          have N24_ : Aside0 (g2_ ≠ g4_) := ⟨h21_⟩
          have N42_ : Aside0 (g4_ ≠ g2_) := ⟨h22_⟩
          have n23_ : Aside0 (Below w.heap.size w w69) := ⟨h23_⟩
          clear B0_ B1_ B2_ HB h0_ h1_ h2_ h3_ h4_ h5_ h6_ h7_ h8_ h9_ h10_ h11_ h12_ h13_ h14_ h15_ h16_ h17_ h18_ h19_ h20_ h21_ h22_ h23_
          have B0_ := n0_
          have B1_ := n1_
          have B2_ := n2_
          have HB := n23_
          clear n0_ n1_ n2_ n23_
          have hHeld := hS_
          try dsimp only at hHeld
          refine norm_ (a' := ?_) ?_ ?_
          rotate_left
          ·simp only [putAll, Act.put, List.setIfInBounds_toArray, List.set_cons_zero, List.set_cons_succ]
           rfl
          refine one_ (i := 7) (N := some 71) #[true, true, true, true, true, true, true, true, true, true, false, false] rfl rfl (one_of HT_.out (by kernel_rfl)) (by decide) (fun K hK => ?_)
          refine goes_ Try.func16 (by kernel_rfl) rfl #[.agg #[.int .i64 a0_0, .int .i64 a0_1, .int .i64 a0_2, .int .i64 a0_3, .int .i64 a0_4, .int .i64 a0_5, .int .i64 a0_6, .int .i64 a0_7, .int .i64 a0_8, .int .i64 a0_9, .int .i64 a0_10, .int .i64 a0_11], .agg #[.int .i64 (wrap64 (a1_0 - a2)), .int .i64 (wrap64 (a1_1 + a3))], .int .i64 a4] (by rfl) rfl rfl (by (try simp only [List.map_toArray, List.map_cons, List.map_nil]); first | done | rfl | (simp only [List.length_drop, List.length_take]; rfl)) ?_
          with_reducible refine (carry_Hold.calls kj7 a0_0 a0_1 a0_2 a0_3 a0_4 a0_5 a0_6 a0_7 a0_8 a0_9 a0_10 a0_11 (wrap64 (a1_0 - a2)) (wrap64 (a1_1 + a3)) a4 t216 t217 _ A52.1).mono ?_
          rintro e w70 ⟨rfl, hb⟩
          refine ⟨_, rfl, ?_⟩
          have n0_ := bb hb B0_.1
          have n1_ := bb hb B1_.1
          have n2_ := bb hb B2_.1
          have n3_ := bb hb B3_.1
          have n4_ := bb hb B4_.1
          have n5_ := mk (below_step (by repeat first | exact HB.1 | apply pD) hb)
          clear B0_ B1_ B2_ B3_ B4_ HB
          have B0_ := n0_
          have B1_ := n1_
          have B2_ := n2_
          have B3_ := n3_
          have B4_ := n4_
          have HB := n5_
          clear n0_ n1_ n2_ n3_ n4_ n5_
          (try clear hb)
          (try clear hb2)
          (try clear hk)
          (try clear hi)
          refine hK.out _ _ (c12t B0_.1 ⟨bt B1_.1 0, bt B1_.1 1, bt B2_.1 0, bt B2_.1 1⟩) (fun hHeld => ?_)
          clear hK K
          refine norm_ (a' := ?_) ?_ ?_
          rotate_left
          ·show Act.put _ (some 71) _ = _
           simp only [Act.put, List.setIfInBounds_toArray, List.set_cons_zero, List.set_cons_succ, i64_w, i32_w]
           rfl
          exact norm_ (by simp only [putAll, Act.put, List.setIfInBounds_toArray, List.set_cons_zero, List.set_cons_succ] <;> rfl) (hJ3_7_8_9 (g3_, g4_) _ ⟨hHeld, (by exact B0_.1), (by exact B1_.1), (by exact B2_.1), (by exact B3_.1), (by exact B4_.1), W3_.1, E3_.1, N03_.1, N30_.1, N13_.1, N31_.1, N23_.1, N32_.1, N43_.1, N34_.1, W4_.1, E4_.1, N04_.1, N40_.1, N14_.1, N41_.1, N24_.1, N42_.1, (by repeat (first | (with_reducible first | exact HB.1 | apply bA | apply pD | apply b1 | apply bS E0_.1 | apply bS E1_.1 | apply bS E2_.1 | apply bS E3_.1 | apply bS E4_.1) | exact HB.1))⟩)
         skip
         rintro g4_ w69 ⟨hS_, h0_, h1_, h2_, h3_, h4_, h5_, h6_, h7_, h8_, h9_, h10_, h11_, h12_⟩
         have n0_ : Aside0 (w69.heap[g0_]? = some (.cells #[.int .i64 a0_0, .int .i64 a0_1, .int .i64 a0_2, .int .i64 a0_3, .int .i64 a0_4, .int .i64 a0_5, .int .i64 a0_6, .int .i64 a0_7, .int .i64 a0_8, .int .i64 a0_9, .int .i64 a0_10, .int .i64 a0_11] 23 (0, 0))) := ⟨h0_⟩
         have n1_ : Aside0 (w69.heap[g1_]? = some (.cells #[.int .i64 a1_0, .int .i64 a1_1] 25 (0, 0))) := ⟨h1_⟩
         have n2_ : Aside0 (w69.heap[g2_]? = some (.cells #[.int .i64 (wrap64 (a1_0 - a2)), .int .i64 (wrap64 (a1_1 + a3))] 25 (0, 0))) := ⟨h2_⟩
         have B4_ : Aside0 (w69.heap[g4_]? = some (.cells #[.int .i64 0, .int .i64 0] 25 (0, 0))) := ⟨h3_⟩
         have W4_ : Aside0 (w.heap.size ≤ g4_) := ⟨h4_⟩
         have E4_ : Aside0 (w.heap.size ≤ g4_) := ⟨h5_⟩
         have N04_ : Aside0 (g0_ ≠ g4_) := ⟨h6_⟩
         have N40_ : Aside0 (g4_ ≠ g0_) := ⟨h7_⟩
         have N14_ : Aside0 (g1_ ≠ g4_) := ⟨h8_⟩
         have N41_ : Aside0 (g4_ ≠ g1_) := ⟨h9_⟩
         have N24_ : Aside0 (g2_ ≠ g4_) := ⟨h10_⟩
         have N42_ : Aside0 (g4_ ≠ g2_) := ⟨h11_⟩
         have n12_ : Aside0 (Below w.heap.size w w69) := ⟨h12_⟩
         clear B0_ B1_ B2_ HB h0_ h1_ h2_ h3_ h4_ h5_ h6_ h7_ h8_ h9_ h10_ h11_ h12_
         have B0_ := n0_
         have B1_ := n1_
         have B2_ := n2_
         have HB := n12_
         clear n0_ n1_ n2_ n12_
         have hHeld := hS_
         try dsimp only at hHeld
         refine norm_ (a' := ?_) ?_ ?_
         rotate_left
         ·simp only [putAll, Act.put, List.setIfInBounds_toArray, List.set_cons_zero, List.set_cons_succ]
          rfl
         refine one_ (i := 8) (N := some 14) #[true, true, true, true, true, true, true, true, true, true, false, false] rfl rfl (one_of HT_.out (by kernel_rfl)) (by decide) (fun K hK => ?_)
         refine box_step ?hg (N := 14) ?hd (cs := #[.int .i64 0, .int .i64 0]) (t := 25) ?hr ?_; (case hd => rfl); (case hg => rfl); (case hr => first | (go_simp; done) | (go_simp; rfl))
         intro g3_ hg w70 hbox hb
         have n0_ := bb hb B0_.1
         have n1_ := bb hb B1_.1
         have n2_ := bb hb B2_.1
         have n3_ := bb hb B4_.1
         have n4_ := mk (below_step (by repeat first | exact HB.1 | apply pD) hb)
         have B3_ := mk (hbox)
         have W3_ := gl hg (by repeat first | exact HB.1 | apply pD)
         have E3_ := gl hg (by repeat first | exact HB.1 | apply pD)
         have N03_ := nl hg B0_.1
         have N30_ := ng hg B0_.1
         have N13_ := nl hg B1_.1
         have N31_ := ng hg B1_.1
         have N23_ := nl hg B2_.1
         have N32_ := ng hg B2_.1
         have N43_ := nl hg B4_.1
         have N34_ := ng hg B4_.1
         clear B0_ B1_ B2_ B4_ HB
         have B0_ := n0_
         have B1_ := n1_
         have B2_ := n2_
         have B4_ := n3_
         have HB := n4_
         clear n0_ n1_ n2_ n3_ n4_ hb hbox hg
         refine hK.out _ _ (c12t B0_.1 ⟨bt B1_.1 0, bt B1_.1 1, bt B2_.1 0, bt B2_.1 1⟩) (fun hHeld => ?_)
         clear hK K
         refine norm_ (a' := ?_) ?_ ?_
         rotate_left
         ·show Act.put _ (some 14) _ = _
          simp only [Act.put, List.setIfInBounds_toArray, List.set_cons_zero, List.set_cons_succ, i64_w, i32_w]
          rfl
         exact norm_ (by simp only [putAll, Act.put, List.setIfInBounds_toArray, List.set_cons_zero, List.set_cons_succ] <;> rfl) (hJ3_7_8_9 (g3_, g4_) _ ⟨hHeld, (by exact B0_.1), (by exact B1_.1), (by exact B2_.1), (by exact B3_.1), (by exact B4_.1), W3_.1, E3_.1, N03_.1, N30_.1, N13_.1, N31_.1, N23_.1, N32_.1, N43_.1, N34_.1, W4_.1, E4_.1, N04_.1, N40_.1, N14_.1, N41_.1, N24_.1, N42_.1, (by repeat (first | (with_reducible first | exact HB.1 | apply bA | apply pD | apply b1 | apply bS E0_.1 | apply bS E1_.1 | apply bS E2_.1 | apply bS E4_.1 | apply bS E3_.1) | exact HB.1))⟩)
        skip
        rintro g3_ w69 ⟨hS_, h0_, h1_, h2_, h3_, h4_, h5_, h6_, h7_, h8_, h9_, h10_, h11_, h12_⟩
        have n0_ : Aside0 (w69.heap[g0_]? = some (.cells #[.int .i64 a0_0, .int .i64 a0_1, .int .i64 a0_2, .int .i64 a0_3, .int .i64 a0_4, .int .i64 a0_5, .int .i64 a0_6, .int .i64 a0_7, .int .i64 a0_8, .int .i64 a0_9, .int .i64 a0_10, .int .i64 a0_11] 23 (0, 0))) := ⟨h0_⟩
        have n1_ : Aside0 (w69.heap[g1_]? = some (.cells #[.int .i64 a1_0, .int .i64 a1_1] 25 (0, 0))) := ⟨h1_⟩
        have n2_ : Aside0 (w69.heap[g2_]? = some (.cells #[.int .i64 (wrap64 (a1_0 - a2)), .int .i64 (wrap64 (a1_1 + a3))] 25 (0, 0))) := ⟨h2_⟩
        have B3_ : Aside0 (w69.heap[g3_]? = some (.cells #[.int .i64 0, .int .i64 0] 25 (0, 0))) := ⟨h3_⟩
        have W3_ : Aside0 (w.heap.size ≤ g3_) := ⟨h4_⟩
        have E3_ : Aside0 (w.heap.size ≤ g3_) := ⟨h5_⟩
        have N03_ : Aside0 (g0_ ≠ g3_) := ⟨h6_⟩
        have N30_ : Aside0 (g3_ ≠ g0_) := ⟨h7_⟩
        have N13_ : Aside0 (g1_ ≠ g3_) := ⟨h8_⟩
        have N31_ : Aside0 (g3_ ≠ g1_) := ⟨h9_⟩
        have N23_ : Aside0 (g2_ ≠ g3_) := ⟨h10_⟩
        have N32_ : Aside0 (g3_ ≠ g2_) := ⟨h11_⟩
        have n12_ : Aside0 (Below w.heap.size w w69) := ⟨h12_⟩
        clear B0_ B1_ B2_ HB h0_ h1_ h2_ h3_ h4_ h5_ h6_ h7_ h8_ h9_ h10_ h11_ h12_
        have B0_ := n0_
        have B1_ := n1_
        have B2_ := n2_
        have HB := n12_
        clear n0_ n1_ n2_ n12_
        have hHeld := hS_
        try dsimp only at hHeld
        refine norm_ (a' := ?_) ?_ ?_
        rotate_left
        ·simp only [putAll, Act.put, List.setIfInBounds_toArray, List.set_cons_zero, List.set_cons_succ]
         rfl
        refine one_ (i := 9) (N := some 15) #[true, true, true, true, true, true, true, true, true, true, false, false] rfl rfl (one_of HT_.out (by kernel_rfl)) (by decide) (fun K hK => ?_)
        refine box_step ?hg (N := 15) ?hd (cs := #[.int .i64 0, .int .i64 0]) (t := 25) ?hr ?_; (case hd => rfl); (case hg => rfl); (case hr => first | (go_simp; done) | (go_simp; rfl))
        intro g4_ hg w70 hbox hb
        have n0_ := bb hb B0_.1
        have n1_ := bb hb B1_.1
        have n2_ := bb hb B2_.1
        have n3_ := bb hb B3_.1
        have n4_ := mk (below_step (by repeat first | exact HB.1 | apply pD) hb)
        have B4_ := mk (hbox)
        have W4_ := gl hg (by repeat first | exact HB.1 | apply pD)
        have E4_ := gl hg (by repeat first | exact HB.1 | apply pD)
        have N04_ := nl hg B0_.1
        have N40_ := ng hg B0_.1
        have N14_ := nl hg B1_.1
        have N41_ := ng hg B1_.1
        have N24_ := nl hg B2_.1
        have N42_ := ng hg B2_.1
        have N34_ := nl hg B3_.1
        have N43_ := ng hg B3_.1
        clear B0_ B1_ B2_ B3_ HB
        have B0_ := n0_
        have B1_ := n1_
        have B2_ := n2_
        have B3_ := n3_
        have HB := n4_
        clear n0_ n1_ n2_ n3_ n4_ hb hbox hg
        refine hK.out _ _ (c12t B0_.1 ⟨bt B1_.1 0, bt B1_.1 1, bt B2_.1 0, bt B2_.1 1⟩) (fun hHeld => ?_)
        clear hK K
        refine norm_ (a' := ?_) ?_ ?_
        rotate_left
        ·show Act.put _ (some 15) _ = _
         simp only [Act.put, List.setIfInBounds_toArray, List.set_cons_zero, List.set_cons_succ, i64_w, i32_w]
         rfl
        exact norm_ (by simp only [putAll, Act.put, List.setIfInBounds_toArray, List.set_cons_zero, List.set_cons_succ] <;> rfl) (hJ3_7_8_9 (g3_, g4_) _ ⟨hHeld, (by exact B0_.1), (by exact B1_.1), (by exact B2_.1), (by exact B3_.1), (by exact B4_.1), W3_.1, E3_.1, N03_.1, N30_.1, N13_.1, N31_.1, N23_.1, N32_.1, N43_.1, N34_.1, W4_.1, E4_.1, N04_.1, N40_.1, N14_.1, N41_.1, N24_.1, N42_.1, (by repeat (first | (with_reducible first | exact HB.1 | apply bA | apply pD | apply b1 | apply bS E0_.1 | apply bS E1_.1 | apply bS E2_.1 | apply bS E3_.1 | apply bS E4_.1) | exact HB.1))⟩)
       rintro ⟨g3_, g4_⟩ w70 ⟨hS_, h0_, h1_, h2_, h3_, h4_, h5_, h6_, h7_, h8_, h9_, h10_, h11_, h12_, h13_, h14_, h15_, h16_, h17_, h18_, h19_, h20_, h21_, h22_, h23_⟩
       have n0_ : Aside0 (w70.heap[g0_]? = some (.cells #[.int .i64 a0_0, .int .i64 a0_1, .int .i64 a0_2, .int .i64 a0_3, .int .i64 a0_4, .int .i64 a0_5, .int .i64 a0_6, .int .i64 a0_7, .int .i64 a0_8, .int .i64 a0_9, .int .i64 a0_10, .int .i64 a0_11] 23 (0, 0))) := ⟨h0_⟩
       have n1_ : Aside0 (w70.heap[g1_]? = some (.cells #[.int .i64 a1_0, .int .i64 a1_1] 25 (0, 0))) := ⟨h1_⟩
       have n2_ : Aside0 (w70.heap[g2_]? = some (.cells #[.int .i64 (wrap64 (a1_0 - a2)), .int .i64 (wrap64 (a1_1 + a3))] 25 (0, 0))) := ⟨h2_⟩
       have B3_ : Aside0 (w70.heap[g3_]? = some (.cells #[.int .i64 0, .int .i64 0] 25 (0, 0))) := ⟨h3_⟩
       have B4_ : Aside0 (w70.heap[g4_]? = some (.cells #[.int .i64 0, .int .i64 0] 25 (0, 0))) := ⟨h4_⟩
       have W3_ : Aside0 (w.heap.size ≤ g3_) := ⟨h5_⟩
       have E3_ : Aside0 (w.heap.size ≤ g3_) := ⟨h6_⟩
       have N03_ : Aside0 (g0_ ≠ g3_) := ⟨h7_⟩
       have N30_ : Aside0 (g3_ ≠ g0_) := ⟨h8_⟩
       have N13_ : Aside0 (g1_ ≠ g3_) := ⟨h9_⟩
       have N31_ : Aside0 (g3_ ≠ g1_) := ⟨h10_⟩
       have N23_ : Aside0 (g2_ ≠ g3_) := ⟨h11_⟩
       have N32_ : Aside0 (g3_ ≠ g2_) := ⟨h12_⟩
       have N43_ : Aside0 (g4_ ≠ g3_) := ⟨h13_⟩
       have N34_ : Aside0 (g3_ ≠ g4_) := ⟨h14_⟩
       have W4_ : Aside0 (w.heap.size ≤ g4_) := ⟨h15_⟩
       have E4_ : Aside0 (w.heap.size ≤ g4_) := ⟨h16_⟩
       have N04_ : Aside0 (g0_ ≠ g4_) := ⟨h17_⟩
       have N40_ : Aside0 (g4_ ≠ g0_) := ⟨h18_⟩
       have N14_ : Aside0 (g1_ ≠ g4_) := ⟨h19_⟩
       have N41_ : Aside0 (g4_ ≠ g1_) := ⟨h20_⟩
       have N24_ : Aside0 (g2_ ≠ g4_) := ⟨h21_⟩
       have N42_ : Aside0 (g4_ ≠ g2_) := ⟨h22_⟩
       have n23_ : Aside0 (Below w.heap.size w w70) := ⟨h23_⟩
       clear B0_ B1_ B2_ HB h0_ h1_ h2_ h3_ h4_ h5_ h6_ h7_ h8_ h9_ h10_ h11_ h12_ h13_ h14_ h15_ h16_ h17_ h18_ h19_ h20_ h21_ h22_ h23_
       have B0_ := n0_
       have B1_ := n1_
       have B2_ := n2_
       have HB := n23_
       clear n0_ n1_ n2_ n23_
       have hHeld := hS_
       try dsimp only at hHeld
       refine norm_ (a' := ?_) ?_ ?_
       rotate_left
       ·simp only [putAll, Act.put, List.setIfInBounds_toArray, List.set_cons_zero, List.set_cons_succ]
        rfl
       refine one_ (i := 10) (N := none) #[true, true, true, true, true, true, true, true, true, true, true, false] rfl rfl (one_of HT_.out (by kernel_rfl)) (by decide) (fun K hK => ?_)
       have hs71 : w70.cell? ⟨g3_, 0, none⟩ = some (.int .i64 0) := bt B3_.1 0
       have hfs71 := blk_frozen B3_.1 0
       have hns71_0 := N03_.1
       have hns71_1 := N13_.1
       have hns71_2 := N23_.1
       have hns71_4 := N43_.1
       have hms71_0 := N30_.1
       have hms71_1 := N31_.1
       have hms71_2 := N32_.1
       have hms71_4 := N34_.1
       have hs72 : w70.cell? ⟨g3_, 1, none⟩ = some (.int .i64 0) := bt B3_.1 1
       have hfs72 := blk_frozen B3_.1 1
       have hns72_0 := N03_.1
       have hns72_1 := N13_.1
       have hns72_2 := N23_.1
       have hns72_4 := N43_.1
       have hms72_0 := N30_.1
       have hms72_1 := N31_.1
       have hms72_2 := N32_.1
       have hms72_4 := N34_.1
       refine skip_ (w1 := ?_) (by rfl) rfl ?_ ?_
       rotate_left
       ·go_simp
        rfl
       refine hK.out _ _ ⟨((cell_far (p := ⟨g3_, _, none⟩) N03_.1 _).trans (((cell_far (p := ⟨g3_, _, none⟩) N03_.1 _).trans (hHeld.1)))), ((cell_far (p := ⟨g3_, _, none⟩) N03_.1 _).trans (((cell_far (p := ⟨g3_, _, none⟩) N03_.1 _).trans (hHeld.2.1)))), ((cell_far (p := ⟨g3_, _, none⟩) N03_.1 _).trans (((cell_far (p := ⟨g3_, _, none⟩) N03_.1 _).trans (hHeld.2.2.1)))), ((cell_far (p := ⟨g3_, _, none⟩) N03_.1 _).trans (((cell_far (p := ⟨g3_, _, none⟩) N03_.1 _).trans (hHeld.2.2.2.1)))), ((cell_far (p := ⟨g3_, _, none⟩) N03_.1 _).trans (((cell_far (p := ⟨g3_, _, none⟩) N03_.1 _).trans (hHeld.2.2.2.2.1)))), ((cell_far (p := ⟨g3_, _, none⟩) N03_.1 _).trans (((cell_far (p := ⟨g3_, _, none⟩) N03_.1 _).trans (hHeld.2.2.2.2.2.1)))), ((cell_far (p := ⟨g3_, _, none⟩) N03_.1 _).trans (((cell_far (p := ⟨g3_, _, none⟩) N03_.1 _).trans (hHeld.2.2.2.2.2.2.1)))), ((cell_far (p := ⟨g3_, _, none⟩) N03_.1 _).trans (((cell_far (p := ⟨g3_, _, none⟩) N03_.1 _).trans (hHeld.2.2.2.2.2.2.2.1)))), ((cell_far (p := ⟨g3_, _, none⟩) N03_.1 _).trans (((cell_far (p := ⟨g3_, _, none⟩) N03_.1 _).trans (hHeld.2.2.2.2.2.2.2.2.1)))), ((cell_far (p := ⟨g3_, _, none⟩) N03_.1 _).trans (((cell_far (p := ⟨g3_, _, none⟩) N03_.1 _).trans (hHeld.2.2.2.2.2.2.2.2.2.1)))), ((cell_far (p := ⟨g3_, _, none⟩) N03_.1 _).trans (((cell_far (p := ⟨g3_, _, none⟩) N03_.1 _).trans (hHeld.2.2.2.2.2.2.2.2.2.2.1)))), ((cell_far (p := ⟨g3_, _, none⟩) N03_.1 _).trans (((cell_far (p := ⟨g3_, _, none⟩) N03_.1 _).trans (hHeld.2.2.2.2.2.2.2.2.2.2.2.1)))), ((cell_far (p := ⟨g3_, _, none⟩) N13_.1 _).trans (((cell_far (p := ⟨g3_, _, none⟩) N13_.1 _).trans (hHeld.2.2.2.2.2.2.2.2.2.2.2.2.1)))), ((cell_far (p := ⟨g3_, _, none⟩) N13_.1 _).trans (((cell_far (p := ⟨g3_, _, none⟩) N13_.1 _).trans (hHeld.2.2.2.2.2.2.2.2.2.2.2.2.2.1)))), ((cell_far (p := ⟨g3_, _, none⟩) N23_.1 _).trans (((cell_far (p := ⟨g3_, _, none⟩) N23_.1 _).trans (hHeld.2.2.2.2.2.2.2.2.2.2.2.2.2.2.1)))), ((cell_far (p := ⟨g3_, _, none⟩) N23_.1 _).trans (((cell_far (p := ⟨g3_, _, none⟩) N23_.1 _).trans (hHeld.2.2.2.2.2.2.2.2.2.2.2.2.2.2.2))))⟩ (fun hHeld => ?_)
       clear hK K
       refine one_ (i := 11) (N := none) #[true, true, true, true, true, true, true, true, true, true, true, true] rfl rfl (one_of HT_.out (by kernel_rfl)) (by decide) (fun K hK => ?_)
       have hs73 : w70.cell? ⟨g4_, 0, none⟩ = some (.int .i64 0) := bt B4_.1 0
       have hfs73 := blk_frozen B4_.1 0
       have hns73_0 := N04_.1
       have hns73_1 := N14_.1
       have hns73_2 := N24_.1
       have hns73_3 := N34_.1
       have hms73_0 := N40_.1
       have hms73_1 := N41_.1
       have hms73_2 := N42_.1
       have hms73_3 := N43_.1
       have hs74 : w70.cell? ⟨g4_, 1, none⟩ = some (.int .i64 0) := bt B4_.1 1
       have hfs74 := blk_frozen B4_.1 1
       have hns74_0 := N04_.1
       have hns74_1 := N14_.1
       have hns74_2 := N24_.1
       have hns74_3 := N34_.1
       have hms74_0 := N40_.1
       have hms74_1 := N41_.1
       have hms74_2 := N42_.1
       have hms74_3 := N43_.1
       refine skip_ (w1 := ?_) (by rfl) rfl ?_ ?_
       rotate_left
       ·go_simp
        rfl
       refine hK.out _ _ ⟨((cell_far (p := ⟨g4_, _, none⟩) N04_.1 _).trans (((cell_far (p := ⟨g4_, _, none⟩) N04_.1 _).trans (hHeld.1)))), ((cell_far (p := ⟨g4_, _, none⟩) N04_.1 _).trans (((cell_far (p := ⟨g4_, _, none⟩) N04_.1 _).trans (hHeld.2.1)))), ((cell_far (p := ⟨g4_, _, none⟩) N04_.1 _).trans (((cell_far (p := ⟨g4_, _, none⟩) N04_.1 _).trans (hHeld.2.2.1)))), ((cell_far (p := ⟨g4_, _, none⟩) N04_.1 _).trans (((cell_far (p := ⟨g4_, _, none⟩) N04_.1 _).trans (hHeld.2.2.2.1)))), ((cell_far (p := ⟨g4_, _, none⟩) N04_.1 _).trans (((cell_far (p := ⟨g4_, _, none⟩) N04_.1 _).trans (hHeld.2.2.2.2.1)))), ((cell_far (p := ⟨g4_, _, none⟩) N04_.1 _).trans (((cell_far (p := ⟨g4_, _, none⟩) N04_.1 _).trans (hHeld.2.2.2.2.2.1)))), ((cell_far (p := ⟨g4_, _, none⟩) N04_.1 _).trans (((cell_far (p := ⟨g4_, _, none⟩) N04_.1 _).trans (hHeld.2.2.2.2.2.2.1)))), ((cell_far (p := ⟨g4_, _, none⟩) N04_.1 _).trans (((cell_far (p := ⟨g4_, _, none⟩) N04_.1 _).trans (hHeld.2.2.2.2.2.2.2.1)))), ((cell_far (p := ⟨g4_, _, none⟩) N04_.1 _).trans (((cell_far (p := ⟨g4_, _, none⟩) N04_.1 _).trans (hHeld.2.2.2.2.2.2.2.2.1)))), ((cell_far (p := ⟨g4_, _, none⟩) N04_.1 _).trans (((cell_far (p := ⟨g4_, _, none⟩) N04_.1 _).trans (hHeld.2.2.2.2.2.2.2.2.2.1)))), ((cell_far (p := ⟨g4_, _, none⟩) N04_.1 _).trans (((cell_far (p := ⟨g4_, _, none⟩) N04_.1 _).trans (hHeld.2.2.2.2.2.2.2.2.2.2.1)))), ((cell_far (p := ⟨g4_, _, none⟩) N04_.1 _).trans (((cell_far (p := ⟨g4_, _, none⟩) N04_.1 _).trans (hHeld.2.2.2.2.2.2.2.2.2.2.2.1)))), ((cell_far (p := ⟨g4_, _, none⟩) N14_.1 _).trans (((cell_far (p := ⟨g4_, _, none⟩) N14_.1 _).trans (hHeld.2.2.2.2.2.2.2.2.2.2.2.2.1)))), ((cell_far (p := ⟨g4_, _, none⟩) N14_.1 _).trans (((cell_far (p := ⟨g4_, _, none⟩) N14_.1 _).trans (hHeld.2.2.2.2.2.2.2.2.2.2.2.2.2.1)))), ((cell_far (p := ⟨g4_, _, none⟩) N24_.1 _).trans (((cell_far (p := ⟨g4_, _, none⟩) N24_.1 _).trans (hHeld.2.2.2.2.2.2.2.2.2.2.2.2.2.2.1)))), ((cell_far (p := ⟨g4_, _, none⟩) N24_.1 _).trans (((cell_far (p := ⟨g4_, _, none⟩) N24_.1 _).trans (hHeld.2.2.2.2.2.2.2.2.2.2.2.2.2.2.2))))⟩ (fun hHeld => ?_)
       clear hK K
       refine done_ (done_of HT_.out (by kernel_rfl)) ?_
       try go_wp2
       have n0_ : Aside0 (((((w70.setCell ⟨g3_, 0, none⟩ (.int .i64 t214)).setCell ⟨g3_, 1, none⟩ (.int .i64 t215)).setCell ⟨g4_, 0, none⟩ (.int .i64 t216)).setCell ⟨g4_, 1, none⟩ (.int .i64 t217)).heap[g0_]? = some (.cells #[.int .i64 a0_0, .int .i64 a0_1, .int .i64 a0_2, .int .i64 a0_3, .int .i64 a0_4, .int .i64 a0_5, .int .i64 a0_6, .int .i64 a0_7, .int .i64 a0_8, .int .i64 a0_9, .int .i64 a0_10, .int .i64 a0_11] 23 (0, 0))) := ⟨by (with_reducible repeat (first | refine blk_drewN ?_ _ | refine blk_drew ?_ | refine blk_alloc ?_ _)); refine blk_far ?_ N04_.1 _; (with_reducible repeat (first | refine blk_drewN ?_ _ | refine blk_drew ?_ | refine blk_alloc ?_ _)); refine blk_far ?_ N04_.1 _; (with_reducible repeat (first | refine blk_drewN ?_ _ | refine blk_drew ?_ | refine blk_alloc ?_ _)); refine blk_far ?_ N03_.1 _; (with_reducible repeat (first | refine blk_drewN ?_ _ | refine blk_drew ?_ | refine blk_alloc ?_ _)); refine blk_far ?_ N03_.1 _; (with_reducible repeat (first | refine blk_drewN ?_ _ | refine blk_drew ?_ | refine blk_alloc ?_ _)); exact B0_.1⟩
       have n1_ : Aside0 (((((w70.setCell ⟨g3_, 0, none⟩ (.int .i64 t214)).setCell ⟨g3_, 1, none⟩ (.int .i64 t215)).setCell ⟨g4_, 0, none⟩ (.int .i64 t216)).setCell ⟨g4_, 1, none⟩ (.int .i64 t217)).heap[g1_]? = some (.cells #[.int .i64 a1_0, .int .i64 a1_1] 25 (0, 0))) := ⟨by (with_reducible repeat (first | refine blk_drewN ?_ _ | refine blk_drew ?_ | refine blk_alloc ?_ _)); refine blk_far ?_ N14_.1 _; (with_reducible repeat (first | refine blk_drewN ?_ _ | refine blk_drew ?_ | refine blk_alloc ?_ _)); refine blk_far ?_ N14_.1 _; (with_reducible repeat (first | refine blk_drewN ?_ _ | refine blk_drew ?_ | refine blk_alloc ?_ _)); refine blk_far ?_ N13_.1 _; (with_reducible repeat (first | refine blk_drewN ?_ _ | refine blk_drew ?_ | refine blk_alloc ?_ _)); refine blk_far ?_ N13_.1 _; (with_reducible repeat (first | refine blk_drewN ?_ _ | refine blk_drew ?_ | refine blk_alloc ?_ _)); exact B1_.1⟩
       have n2_ : Aside0 (((((w70.setCell ⟨g3_, 0, none⟩ (.int .i64 t214)).setCell ⟨g3_, 1, none⟩ (.int .i64 t215)).setCell ⟨g4_, 0, none⟩ (.int .i64 t216)).setCell ⟨g4_, 1, none⟩ (.int .i64 t217)).heap[g2_]? = some (.cells #[.int .i64 (wrap64 (a1_0 - a2)), .int .i64 (wrap64 (a1_1 + a3))] 25 (0, 0))) := ⟨by (with_reducible repeat (first | refine blk_drewN ?_ _ | refine blk_drew ?_ | refine blk_alloc ?_ _)); refine blk_far ?_ N24_.1 _; (with_reducible repeat (first | refine blk_drewN ?_ _ | refine blk_drew ?_ | refine blk_alloc ?_ _)); refine blk_far ?_ N24_.1 _; (with_reducible repeat (first | refine blk_drewN ?_ _ | refine blk_drew ?_ | refine blk_alloc ?_ _)); refine blk_far ?_ N23_.1 _; (with_reducible repeat (first | refine blk_drewN ?_ _ | refine blk_drew ?_ | refine blk_alloc ?_ _)); refine blk_far ?_ N23_.1 _; (with_reducible repeat (first | refine blk_drewN ?_ _ | refine blk_drew ?_ | refine blk_alloc ?_ _)); exact B2_.1⟩
       have n3_ : Aside0 (((((w70.setCell ⟨g3_, 0, none⟩ (.int .i64 t214)).setCell ⟨g3_, 1, none⟩ (.int .i64 t215)).setCell ⟨g4_, 0, none⟩ (.int .i64 t216)).setCell ⟨g4_, 1, none⟩ (.int .i64 t217)).heap[g3_]? = some (.cells #[.int .i64 t214, .int .i64 t215] 25 (0, 0))) := ⟨by (with_reducible repeat (first | refine blk_drewN ?_ _ | refine blk_drew ?_ | refine blk_alloc ?_ _)); refine blk_far ?_ N34_.1 _; (with_reducible repeat (first | refine blk_drewN ?_ _ | refine blk_drew ?_ | refine blk_alloc ?_ _)); refine blk_far ?_ N34_.1 _; (with_reducible repeat (first | refine blk_drewN ?_ _ | refine blk_drew ?_ | refine blk_alloc ?_ _)); refine blk_put (cs := #[.int .i64 t214, .int .i64 0]) ?_ 1 _ rfl; (with_reducible repeat (first | refine blk_drewN ?_ _ | refine blk_drew ?_ | refine blk_alloc ?_ _)); refine blk_put (cs := #[.int .i64 0, .int .i64 0]) ?_ 0 _ rfl; (with_reducible repeat (first | refine blk_drewN ?_ _ | refine blk_drew ?_ | refine blk_alloc ?_ _)); exact B3_.1⟩
       have n4_ : Aside0 (((((w70.setCell ⟨g3_, 0, none⟩ (.int .i64 t214)).setCell ⟨g3_, 1, none⟩ (.int .i64 t215)).setCell ⟨g4_, 0, none⟩ (.int .i64 t216)).setCell ⟨g4_, 1, none⟩ (.int .i64 t217)).heap[g4_]? = some (.cells #[.int .i64 t216, .int .i64 t217] 25 (0, 0))) := ⟨by (with_reducible repeat (first | refine blk_drewN ?_ _ | refine blk_drew ?_ | refine blk_alloc ?_ _)); refine blk_put (cs := #[.int .i64 t216, .int .i64 0]) ?_ 1 _ rfl; (with_reducible repeat (first | refine blk_drewN ?_ _ | refine blk_drew ?_ | refine blk_alloc ?_ _)); refine blk_put (cs := #[.int .i64 0, .int .i64 0]) ?_ 0 _ rfl; (with_reducible repeat (first | refine blk_drewN ?_ _ | refine blk_drew ?_ | refine blk_alloc ?_ _)); refine blk_far ?_ N43_.1 _; (with_reducible repeat (first | refine blk_drewN ?_ _ | refine blk_drew ?_ | refine blk_alloc ?_ _)); refine blk_far ?_ N43_.1 _; (with_reducible repeat (first | refine blk_drewN ?_ _ | refine blk_drew ?_ | refine blk_alloc ?_ _)); exact B4_.1⟩
       have n5_ : Aside0 (Below w.heap.size w ((((w70.setCell ⟨g3_, 0, none⟩ (.int .i64 t214)).setCell ⟨g3_, 1, none⟩ (.int .i64 t215)).setCell ⟨g4_, 0, none⟩ (.int .i64 t216)).setCell ⟨g4_, 1, none⟩ (.int .i64 t217))) := ⟨by repeat (first | (with_reducible first | exact HB.1 | apply bA | apply pD | apply b1 | apply bS E0_.1 | apply bS E1_.1 | apply bS E2_.1 | apply bS E3_.1 | apply bS E4_.1) | exact HB.1)⟩
       (try clear B0_)
       (try clear B1_)
       (try clear B2_)
       (try clear B3_)
       (try clear B4_)
       (try clear HB)
       generalize ((((w70.setCell ⟨g3_, 0, none⟩ (.int .i64 t214)).setCell ⟨g3_, 1, none⟩ (.int .i64 t215)).setCell ⟨g4_, 0, none⟩ (.int .i64 t216)).setCell ⟨g4_, 1, none⟩ (.int .i64 t217)) = w75 at n0_ n1_ n2_ n3_ n4_ n5_ ⊢
       have B0_ := n0_
       have B1_ := n1_
       have B2_ := n2_
       have B3_ := n3_
       have B4_ := n4_
       have HB := n5_
       clear n0_ n1_ n2_ n3_ n4_ n5_
       have n0_ := mk (blk_drew B0_.1)
       have n1_ := mk (blk_drew B1_.1)
       have n2_ := mk (blk_drew B2_.1)
       have n3_ := mk (blk_drew B3_.1)
       have n4_ := mk (blk_drew B4_.1)
       have n5_ := mk (below_drew1 HB.1)
       clear B0_ B1_ B2_ B3_ B4_ HB
       have B0_ := n0_
       have B1_ := n1_
       have B2_ := n2_
       have B3_ := n3_
       have B4_ := n4_
       have HB := n5_
       clear n0_ n1_ n2_ n3_ n4_ n5_
       refine start_ (n := 12) (S := fun w' => w'.cell? ⟨g0_, 0, none⟩ = some (.int .i64 a0_0) ∧ w'.cell? ⟨g0_, 1, none⟩ = some (.int .i64 a0_1) ∧ w'.cell? ⟨g0_, 2, none⟩ = some (.int .i64 a0_2) ∧ w'.cell? ⟨g0_, 3, none⟩ = some (.int .i64 a0_3) ∧ w'.cell? ⟨g0_, 4, none⟩ = some (.int .i64 a0_4) ∧ w'.cell? ⟨g0_, 5, none⟩ = some (.int .i64 a0_5) ∧ w'.cell? ⟨g0_, 6, none⟩ = some (.int .i64 a0_6) ∧ w'.cell? ⟨g0_, 7, none⟩ = some (.int .i64 a0_7) ∧ w'.cell? ⟨g0_, 8, none⟩ = some (.int .i64 a0_8) ∧ w'.cell? ⟨g0_, 9, none⟩ = some (.int .i64 a0_9) ∧ w'.cell? ⟨g0_, 10, none⟩ = some (.int .i64 a0_10) ∧ w'.cell? ⟨g0_, 11, none⟩ = some (.int .i64 a0_11) ∧ w'.cell? ⟨g1_, 0, none⟩ = some (.int .i64 a1_0) ∧ w'.cell? ⟨g1_, 1, none⟩ = some (.int .i64 a1_1) ∧ w'.cell? ⟨g2_, 0, none⟩ = some (.int .i64 (wrap64 (a1_0 - a2))) ∧ w'.cell? ⟨g2_, 1, none⟩ = some (.int .i64 (wrap64 (a1_1 + a3)))) (ds := []) #[false, false, false, false, false, false, false, false, false, false, false, false] (by kernel_rfl) rfl rfl (c12t B0_.1 ⟨bt B1_.1 0, bt B1_.1 1, bt B2_.1 0, bt B2_.1 1⟩) (fun hHeld => ?_); refine with_tabW clepsydralaw11_CarryWithin.tab13 clepsydralaw11_CarryWithin.bits13 (fun HT_ HW_ => ?_)
       generalize w75.drew = w76 at B0_ B1_ B2_ B3_ B4_ HB hHeld ⊢
       refine pure_ (i := 2) (N := some 74) (v := ?_) (a' := ?_) #[false, false, true, false, false, false, false, false, false, false, false, false] rfl rfl (any_of HT_.out (by kernel_rfl)) (fun _ _ _ h => h) (Or.inl ⟨by rfl, ?_⟩) ?_ ?_
       rotate_left
       ·intro w'
        go_simp
        with_reducible rfl
       rotate_left
       ·simp only [Act.put, List.setIfInBounds_toArray, List.set_cons_zero, List.set_cons_succ, i64_w, i32_w]
        rfl
       refine pure_ (i := 6) (N := some 78) (v := ?_) (a' := ?_) #[false, false, true, false, false, false, true, false, false, false, false, false] rfl rfl (any_of HT_.out (by kernel_rfl)) (fun _ _ _ h => h) (Or.inl ⟨by rfl, ?_⟩) ?_ ?_
       rotate_left
       ·intro w'
        go_simp
        with_reducible rfl
       rotate_left
       ·simp only [Act.put, List.setIfInBounds_toArray, List.set_cons_zero, List.set_cons_succ, i64_w, i32_w]
        rfl
       refine take_ (i := 0) (N := some 72) (v := ?_) (a' := ?_) #[true, false, true, false, false, false, true, false, false, false, false, false] rfl rfl (take_ofW HT_.out HW_.out (by kernel_rfl)) (fun _ _ _ h => h) (Or.inl ⟨by rfl, ?_⟩) hHeld ?_ ?_
       rotate_left
       ·rintro w' ⟨s0, s1, s2, s3, s4, s5, s6, s7, s8, s9, s10, s11, s12, s13, s14, s15⟩
        go_simp
        with_reducible rfl
       rotate_left
       ·simp only [Act.put, List.setIfInBounds_toArray, List.set_cons_zero, List.set_cons_succ, i64_w, i32_w]
        rfl
       refine take_ (i := 1) (N := some 73) (v := ?_) (a' := ?_) #[true, true, true, false, false, false, true, false, false, false, false, false] rfl rfl (take_ofW HT_.out HW_.out (by kernel_rfl)) (fun _ _ _ h => h) (Or.inl ⟨by rfl, ?_⟩) hHeld ?_ ?_
       rotate_left
       ·rintro w' ⟨s0, s1, s2, s3, s4, s5, s6, s7, s8, s9, s10, s11, s12, s13, s14, s15⟩
        go_simp
        with_reducible rfl
       rotate_left
       ·simp only [Act.put, List.setIfInBounds_toArray, List.set_cons_zero, List.set_cons_succ, i64_w, i32_w]
        rfl
       refine take_ (i := 4) (N := some 76) (v := ?_) (a' := ?_) #[true, true, true, false, true, false, true, false, false, false, false, false] rfl rfl (take_ofW HT_.out HW_.out (by kernel_rfl)) (fun _ _ _ h => h) (Or.inl ⟨by rfl, ?_⟩) hHeld ?_ ?_
       rotate_left
       ·rintro w' ⟨s0, s1, s2, s3, s4, s5, s6, s7, s8, s9, s10, s11, s12, s13, s14, s15⟩
        go_simp
        with_reducible rfl
       rotate_left
       ·simp only [Act.put, List.setIfInBounds_toArray, List.set_cons_zero, List.set_cons_succ, i64_w, i32_w]
        rfl
       refine take_ (i := 5) (N := some 77) (v := ?_) (a' := ?_) #[true, true, true, false, true, true, true, false, false, false, false, false] rfl rfl (take_ofW HT_.out HW_.out (by kernel_rfl)) (fun _ _ _ h => h) (Or.inl ⟨by rfl, ?_⟩) hHeld ?_ ?_
       rotate_left
       ·rintro w' ⟨s0, s1, s2, s3, s4, s5, s6, s7, s8, s9, s10, s11, s12, s13, s14, s15⟩
        go_simp
        with_reducible rfl
       rotate_left
       ·simp only [Act.put, List.setIfInBounds_toArray, List.set_cons_zero, List.set_cons_succ, i64_w, i32_w]
        rfl
       refine join_ (σ := Nat × Nat) 2 #[true, true, true, true, true, true, true, true, true, true, false, false] (fun s_ => [(75, .agg #[.int .i64 t220, .int .i64 t221]), (79, .agg #[.int .i64 t222, .int .i64 t223]), (16, .pointer (some ⟨s_.1, 0, none⟩)), (17, .pointer (some ⟨s_.2, 0, none⟩))]) (fun s_ w' => (w'.cell? ⟨g0_, 0, none⟩ = some (.int .i64 a0_0) ∧ w'.cell? ⟨g0_, 1, none⟩ = some (.int .i64 a0_1) ∧ w'.cell? ⟨g0_, 2, none⟩ = some (.int .i64 a0_2) ∧ w'.cell? ⟨g0_, 3, none⟩ = some (.int .i64 a0_3) ∧ w'.cell? ⟨g0_, 4, none⟩ = some (.int .i64 a0_4) ∧ w'.cell? ⟨g0_, 5, none⟩ = some (.int .i64 a0_5) ∧ w'.cell? ⟨g0_, 6, none⟩ = some (.int .i64 a0_6) ∧ w'.cell? ⟨g0_, 7, none⟩ = some (.int .i64 a0_7) ∧ w'.cell? ⟨g0_, 8, none⟩ = some (.int .i64 a0_8) ∧ w'.cell? ⟨g0_, 9, none⟩ = some (.int .i64 a0_9) ∧ w'.cell? ⟨g0_, 10, none⟩ = some (.int .i64 a0_10) ∧ w'.cell? ⟨g0_, 11, none⟩ = some (.int .i64 a0_11) ∧ w'.cell? ⟨g1_, 0, none⟩ = some (.int .i64 a1_0) ∧ w'.cell? ⟨g1_, 1, none⟩ = some (.int .i64 a1_1) ∧ w'.cell? ⟨g2_, 0, none⟩ = some (.int .i64 (wrap64 (a1_0 - a2))) ∧ w'.cell? ⟨g2_, 1, none⟩ = some (.int .i64 (wrap64 (a1_1 + a3)))) ∧ (w'.heap[g0_]? = some (.cells #[.int .i64 a0_0, .int .i64 a0_1, .int .i64 a0_2, .int .i64 a0_3, .int .i64 a0_4, .int .i64 a0_5, .int .i64 a0_6, .int .i64 a0_7, .int .i64 a0_8, .int .i64 a0_9, .int .i64 a0_10, .int .i64 a0_11] 23 (0, 0))) ∧ (w'.heap[g1_]? = some (.cells #[.int .i64 a1_0, .int .i64 a1_1] 25 (0, 0))) ∧ (w'.heap[g2_]? = some (.cells #[.int .i64 (wrap64 (a1_0 - a2)), .int .i64 (wrap64 (a1_1 + a3))] 25 (0, 0))) ∧ (w'.heap[g3_]? = some (.cells #[.int .i64 t214, .int .i64 t215] 25 (0, 0))) ∧ (w'.heap[g4_]? = some (.cells #[.int .i64 t216, .int .i64 t217] 25 (0, 0))) ∧ (w'.heap[s_.1]? = some (.cells #[.int .i64 0, .int .i64 0] 25 (0, 0))) ∧ (w'.heap[s_.2]? = some (.cells #[.int .i64 0, .int .i64 0] 25 (0, 0))) ∧ (w.heap.size ≤ s_.1) ∧ (w.heap.size ≤ s_.1) ∧ (g0_ ≠ s_.1) ∧ (s_.1 ≠ g0_) ∧ (g1_ ≠ s_.1) ∧ (s_.1 ≠ g1_) ∧ (g2_ ≠ s_.1) ∧ (s_.1 ≠ g2_) ∧ (g3_ ≠ s_.1) ∧ (s_.1 ≠ g3_) ∧ (g4_ ≠ s_.1) ∧ (s_.1 ≠ g4_) ∧ (s_.2 ≠ s_.1) ∧ (s_.1 ≠ s_.2) ∧ (w.heap.size ≤ s_.2) ∧ (w.heap.size ≤ s_.2) ∧ (g0_ ≠ s_.2) ∧ (s_.2 ≠ g0_) ∧ (g1_ ≠ s_.2) ∧ (s_.2 ≠ g1_) ∧ (g2_ ≠ s_.2) ∧ (s_.2 ≠ g2_) ∧ (g3_ ≠ s_.2) ∧ (s_.2 ≠ g3_) ∧ (g4_ ≠ s_.2) ∧ (s_.2 ≠ g4_) ∧ (Below w.heap.size w w')) ?_ ?_
       rotate_left
       ·intro hJ3_7_8_9
        refine join_ (σ := Nat) 3 #[true, true, true, true, true, true, true, true, true, false, false, false] (fun s_ => [(75, .agg #[.int .i64 t220, .int .i64 t221]), (79, .agg #[.int .i64 t222, .int .i64 t223]), (16, .pointer (some ⟨s_, 0, none⟩))]) (fun s_ w' => (w'.cell? ⟨g0_, 0, none⟩ = some (.int .i64 a0_0) ∧ w'.cell? ⟨g0_, 1, none⟩ = some (.int .i64 a0_1) ∧ w'.cell? ⟨g0_, 2, none⟩ = some (.int .i64 a0_2) ∧ w'.cell? ⟨g0_, 3, none⟩ = some (.int .i64 a0_3) ∧ w'.cell? ⟨g0_, 4, none⟩ = some (.int .i64 a0_4) ∧ w'.cell? ⟨g0_, 5, none⟩ = some (.int .i64 a0_5) ∧ w'.cell? ⟨g0_, 6, none⟩ = some (.int .i64 a0_6) ∧ w'.cell? ⟨g0_, 7, none⟩ = some (.int .i64 a0_7) ∧ w'.cell? ⟨g0_, 8, none⟩ = some (.int .i64 a0_8) ∧ w'.cell? ⟨g0_, 9, none⟩ = some (.int .i64 a0_9) ∧ w'.cell? ⟨g0_, 10, none⟩ = some (.int .i64 a0_10) ∧ w'.cell? ⟨g0_, 11, none⟩ = some (.int .i64 a0_11) ∧ w'.cell? ⟨g1_, 0, none⟩ = some (.int .i64 a1_0) ∧ w'.cell? ⟨g1_, 1, none⟩ = some (.int .i64 a1_1) ∧ w'.cell? ⟨g2_, 0, none⟩ = some (.int .i64 (wrap64 (a1_0 - a2))) ∧ w'.cell? ⟨g2_, 1, none⟩ = some (.int .i64 (wrap64 (a1_1 + a3)))) ∧ (w'.heap[g0_]? = some (.cells #[.int .i64 a0_0, .int .i64 a0_1, .int .i64 a0_2, .int .i64 a0_3, .int .i64 a0_4, .int .i64 a0_5, .int .i64 a0_6, .int .i64 a0_7, .int .i64 a0_8, .int .i64 a0_9, .int .i64 a0_10, .int .i64 a0_11] 23 (0, 0))) ∧ (w'.heap[g1_]? = some (.cells #[.int .i64 a1_0, .int .i64 a1_1] 25 (0, 0))) ∧ (w'.heap[g2_]? = some (.cells #[.int .i64 (wrap64 (a1_0 - a2)), .int .i64 (wrap64 (a1_1 + a3))] 25 (0, 0))) ∧ (w'.heap[g3_]? = some (.cells #[.int .i64 t214, .int .i64 t215] 25 (0, 0))) ∧ (w'.heap[g4_]? = some (.cells #[.int .i64 t216, .int .i64 t217] 25 (0, 0))) ∧ (w'.heap[s_]? = some (.cells #[.int .i64 0, .int .i64 0] 25 (0, 0))) ∧ (w.heap.size ≤ s_) ∧ (w.heap.size ≤ s_) ∧ (g0_ ≠ s_) ∧ (s_ ≠ g0_) ∧ (g1_ ≠ s_) ∧ (s_ ≠ g1_) ∧ (g2_ ≠ s_) ∧ (s_ ≠ g2_) ∧ (g3_ ≠ s_) ∧ (s_ ≠ g3_) ∧ (g4_ ≠ s_) ∧ (s_ ≠ g4_) ∧ (Below w.heap.size w w')) ?_ ?_
        rotate_left
        ·intro hJ3_7_8
         refine join_ (σ := Nat) 3 #[true, true, true, true, true, true, true, true, false, true, false, false] (fun s_ => [(75, .agg #[.int .i64 t220, .int .i64 t221]), (79, .agg #[.int .i64 t222, .int .i64 t223]), (17, .pointer (some ⟨s_, 0, none⟩))]) (fun s_ w' => (w'.cell? ⟨g0_, 0, none⟩ = some (.int .i64 a0_0) ∧ w'.cell? ⟨g0_, 1, none⟩ = some (.int .i64 a0_1) ∧ w'.cell? ⟨g0_, 2, none⟩ = some (.int .i64 a0_2) ∧ w'.cell? ⟨g0_, 3, none⟩ = some (.int .i64 a0_3) ∧ w'.cell? ⟨g0_, 4, none⟩ = some (.int .i64 a0_4) ∧ w'.cell? ⟨g0_, 5, none⟩ = some (.int .i64 a0_5) ∧ w'.cell? ⟨g0_, 6, none⟩ = some (.int .i64 a0_6) ∧ w'.cell? ⟨g0_, 7, none⟩ = some (.int .i64 a0_7) ∧ w'.cell? ⟨g0_, 8, none⟩ = some (.int .i64 a0_8) ∧ w'.cell? ⟨g0_, 9, none⟩ = some (.int .i64 a0_9) ∧ w'.cell? ⟨g0_, 10, none⟩ = some (.int .i64 a0_10) ∧ w'.cell? ⟨g0_, 11, none⟩ = some (.int .i64 a0_11) ∧ w'.cell? ⟨g1_, 0, none⟩ = some (.int .i64 a1_0) ∧ w'.cell? ⟨g1_, 1, none⟩ = some (.int .i64 a1_1) ∧ w'.cell? ⟨g2_, 0, none⟩ = some (.int .i64 (wrap64 (a1_0 - a2))) ∧ w'.cell? ⟨g2_, 1, none⟩ = some (.int .i64 (wrap64 (a1_1 + a3)))) ∧ (w'.heap[g0_]? = some (.cells #[.int .i64 a0_0, .int .i64 a0_1, .int .i64 a0_2, .int .i64 a0_3, .int .i64 a0_4, .int .i64 a0_5, .int .i64 a0_6, .int .i64 a0_7, .int .i64 a0_8, .int .i64 a0_9, .int .i64 a0_10, .int .i64 a0_11] 23 (0, 0))) ∧ (w'.heap[g1_]? = some (.cells #[.int .i64 a1_0, .int .i64 a1_1] 25 (0, 0))) ∧ (w'.heap[g2_]? = some (.cells #[.int .i64 (wrap64 (a1_0 - a2)), .int .i64 (wrap64 (a1_1 + a3))] 25 (0, 0))) ∧ (w'.heap[g3_]? = some (.cells #[.int .i64 t214, .int .i64 t215] 25 (0, 0))) ∧ (w'.heap[g4_]? = some (.cells #[.int .i64 t216, .int .i64 t217] 25 (0, 0))) ∧ (w'.heap[s_]? = some (.cells #[.int .i64 0, .int .i64 0] 25 (0, 0))) ∧ (w.heap.size ≤ s_) ∧ (w.heap.size ≤ s_) ∧ (g0_ ≠ s_) ∧ (s_ ≠ g0_) ∧ (g1_ ≠ s_) ∧ (s_ ≠ g1_) ∧ (g2_ ≠ s_) ∧ (s_ ≠ g2_) ∧ (g3_ ≠ s_) ∧ (s_ ≠ g3_) ∧ (g4_ ≠ s_) ∧ (s_ ≠ g4_) ∧ (Below w.heap.size w w')) ?_ ?_
         rotate_left
         ·intro hJ3_7_9
          refine join_ (σ := Nat × Nat) 3 #[true, true, true, true, true, true, true, false, true, true, false, false] (fun s_ => [(75, .agg #[.int .i64 t220, .int .i64 t221]), (16, .pointer (some ⟨s_.1, 0, none⟩)), (17, .pointer (some ⟨s_.2, 0, none⟩))]) (fun s_ w' => (w'.cell? ⟨g0_, 0, none⟩ = some (.int .i64 a0_0) ∧ w'.cell? ⟨g0_, 1, none⟩ = some (.int .i64 a0_1) ∧ w'.cell? ⟨g0_, 2, none⟩ = some (.int .i64 a0_2) ∧ w'.cell? ⟨g0_, 3, none⟩ = some (.int .i64 a0_3) ∧ w'.cell? ⟨g0_, 4, none⟩ = some (.int .i64 a0_4) ∧ w'.cell? ⟨g0_, 5, none⟩ = some (.int .i64 a0_5) ∧ w'.cell? ⟨g0_, 6, none⟩ = some (.int .i64 a0_6) ∧ w'.cell? ⟨g0_, 7, none⟩ = some (.int .i64 a0_7) ∧ w'.cell? ⟨g0_, 8, none⟩ = some (.int .i64 a0_8) ∧ w'.cell? ⟨g0_, 9, none⟩ = some (.int .i64 a0_9) ∧ w'.cell? ⟨g0_, 10, none⟩ = some (.int .i64 a0_10) ∧ w'.cell? ⟨g0_, 11, none⟩ = some (.int .i64 a0_11) ∧ w'.cell? ⟨g1_, 0, none⟩ = some (.int .i64 a1_0) ∧ w'.cell? ⟨g1_, 1, none⟩ = some (.int .i64 a1_1) ∧ w'.cell? ⟨g2_, 0, none⟩ = some (.int .i64 (wrap64 (a1_0 - a2))) ∧ w'.cell? ⟨g2_, 1, none⟩ = some (.int .i64 (wrap64 (a1_1 + a3)))) ∧ (w'.heap[g0_]? = some (.cells #[.int .i64 a0_0, .int .i64 a0_1, .int .i64 a0_2, .int .i64 a0_3, .int .i64 a0_4, .int .i64 a0_5, .int .i64 a0_6, .int .i64 a0_7, .int .i64 a0_8, .int .i64 a0_9, .int .i64 a0_10, .int .i64 a0_11] 23 (0, 0))) ∧ (w'.heap[g1_]? = some (.cells #[.int .i64 a1_0, .int .i64 a1_1] 25 (0, 0))) ∧ (w'.heap[g2_]? = some (.cells #[.int .i64 (wrap64 (a1_0 - a2)), .int .i64 (wrap64 (a1_1 + a3))] 25 (0, 0))) ∧ (w'.heap[g3_]? = some (.cells #[.int .i64 t214, .int .i64 t215] 25 (0, 0))) ∧ (w'.heap[g4_]? = some (.cells #[.int .i64 t216, .int .i64 t217] 25 (0, 0))) ∧ (w'.heap[s_.1]? = some (.cells #[.int .i64 0, .int .i64 0] 25 (0, 0))) ∧ (w'.heap[s_.2]? = some (.cells #[.int .i64 0, .int .i64 0] 25 (0, 0))) ∧ (w.heap.size ≤ s_.1) ∧ (w.heap.size ≤ s_.1) ∧ (g0_ ≠ s_.1) ∧ (s_.1 ≠ g0_) ∧ (g1_ ≠ s_.1) ∧ (s_.1 ≠ g1_) ∧ (g2_ ≠ s_.1) ∧ (s_.1 ≠ g2_) ∧ (g3_ ≠ s_.1) ∧ (s_.1 ≠ g3_) ∧ (g4_ ≠ s_.1) ∧ (s_.1 ≠ g4_) ∧ (s_.2 ≠ s_.1) ∧ (s_.1 ≠ s_.2) ∧ (w.heap.size ≤ s_.2) ∧ (w.heap.size ≤ s_.2) ∧ (g0_ ≠ s_.2) ∧ (s_.2 ≠ g0_) ∧ (g1_ ≠ s_.2) ∧ (s_.2 ≠ g1_) ∧ (g2_ ≠ s_.2) ∧ (s_.2 ≠ g2_) ∧ (g3_ ≠ s_.2) ∧ (s_.2 ≠ g3_) ∧ (g4_ ≠ s_.2) ∧ (s_.2 ≠ g4_) ∧ (Below w.heap.size w w')) ?_ ?_
          rotate_left
          ·intro hJ3_8_9
           refine join_ (σ := Unit) 4 #[true, true, true, true, true, true, true, true, false, false, false, false] (fun s_ => [(75, .agg #[.int .i64 t220, .int .i64 t221]), (79, .agg #[.int .i64 t222, .int .i64 t223])]) (fun s_ w' => (w'.cell? ⟨g0_, 0, none⟩ = some (.int .i64 a0_0) ∧ w'.cell? ⟨g0_, 1, none⟩ = some (.int .i64 a0_1) ∧ w'.cell? ⟨g0_, 2, none⟩ = some (.int .i64 a0_2) ∧ w'.cell? ⟨g0_, 3, none⟩ = some (.int .i64 a0_3) ∧ w'.cell? ⟨g0_, 4, none⟩ = some (.int .i64 a0_4) ∧ w'.cell? ⟨g0_, 5, none⟩ = some (.int .i64 a0_5) ∧ w'.cell? ⟨g0_, 6, none⟩ = some (.int .i64 a0_6) ∧ w'.cell? ⟨g0_, 7, none⟩ = some (.int .i64 a0_7) ∧ w'.cell? ⟨g0_, 8, none⟩ = some (.int .i64 a0_8) ∧ w'.cell? ⟨g0_, 9, none⟩ = some (.int .i64 a0_9) ∧ w'.cell? ⟨g0_, 10, none⟩ = some (.int .i64 a0_10) ∧ w'.cell? ⟨g0_, 11, none⟩ = some (.int .i64 a0_11) ∧ w'.cell? ⟨g1_, 0, none⟩ = some (.int .i64 a1_0) ∧ w'.cell? ⟨g1_, 1, none⟩ = some (.int .i64 a1_1) ∧ w'.cell? ⟨g2_, 0, none⟩ = some (.int .i64 (wrap64 (a1_0 - a2))) ∧ w'.cell? ⟨g2_, 1, none⟩ = some (.int .i64 (wrap64 (a1_1 + a3)))) ∧ (w'.heap[g0_]? = some (.cells #[.int .i64 a0_0, .int .i64 a0_1, .int .i64 a0_2, .int .i64 a0_3, .int .i64 a0_4, .int .i64 a0_5, .int .i64 a0_6, .int .i64 a0_7, .int .i64 a0_8, .int .i64 a0_9, .int .i64 a0_10, .int .i64 a0_11] 23 (0, 0))) ∧ (w'.heap[g1_]? = some (.cells #[.int .i64 a1_0, .int .i64 a1_1] 25 (0, 0))) ∧ (w'.heap[g2_]? = some (.cells #[.int .i64 (wrap64 (a1_0 - a2)), .int .i64 (wrap64 (a1_1 + a3))] 25 (0, 0))) ∧ (w'.heap[g3_]? = some (.cells #[.int .i64 t214, .int .i64 t215] 25 (0, 0))) ∧ (w'.heap[g4_]? = some (.cells #[.int .i64 t216, .int .i64 t217] 25 (0, 0))) ∧ (Below w.heap.size w w')) ?_ ?_
           rotate_left
           ·intro hJ3_7
            refine join_ (σ := Nat) 4 #[true, true, true, true, true, true, true, false, true, false, false, false] (fun s_ => [(75, .agg #[.int .i64 t220, .int .i64 t221]), (16, .pointer (some ⟨s_, 0, none⟩))]) (fun s_ w' => (w'.cell? ⟨g0_, 0, none⟩ = some (.int .i64 a0_0) ∧ w'.cell? ⟨g0_, 1, none⟩ = some (.int .i64 a0_1) ∧ w'.cell? ⟨g0_, 2, none⟩ = some (.int .i64 a0_2) ∧ w'.cell? ⟨g0_, 3, none⟩ = some (.int .i64 a0_3) ∧ w'.cell? ⟨g0_, 4, none⟩ = some (.int .i64 a0_4) ∧ w'.cell? ⟨g0_, 5, none⟩ = some (.int .i64 a0_5) ∧ w'.cell? ⟨g0_, 6, none⟩ = some (.int .i64 a0_6) ∧ w'.cell? ⟨g0_, 7, none⟩ = some (.int .i64 a0_7) ∧ w'.cell? ⟨g0_, 8, none⟩ = some (.int .i64 a0_8) ∧ w'.cell? ⟨g0_, 9, none⟩ = some (.int .i64 a0_9) ∧ w'.cell? ⟨g0_, 10, none⟩ = some (.int .i64 a0_10) ∧ w'.cell? ⟨g0_, 11, none⟩ = some (.int .i64 a0_11) ∧ w'.cell? ⟨g1_, 0, none⟩ = some (.int .i64 a1_0) ∧ w'.cell? ⟨g1_, 1, none⟩ = some (.int .i64 a1_1) ∧ w'.cell? ⟨g2_, 0, none⟩ = some (.int .i64 (wrap64 (a1_0 - a2))) ∧ w'.cell? ⟨g2_, 1, none⟩ = some (.int .i64 (wrap64 (a1_1 + a3)))) ∧ (w'.heap[g0_]? = some (.cells #[.int .i64 a0_0, .int .i64 a0_1, .int .i64 a0_2, .int .i64 a0_3, .int .i64 a0_4, .int .i64 a0_5, .int .i64 a0_6, .int .i64 a0_7, .int .i64 a0_8, .int .i64 a0_9, .int .i64 a0_10, .int .i64 a0_11] 23 (0, 0))) ∧ (w'.heap[g1_]? = some (.cells #[.int .i64 a1_0, .int .i64 a1_1] 25 (0, 0))) ∧ (w'.heap[g2_]? = some (.cells #[.int .i64 (wrap64 (a1_0 - a2)), .int .i64 (wrap64 (a1_1 + a3))] 25 (0, 0))) ∧ (w'.heap[g3_]? = some (.cells #[.int .i64 t214, .int .i64 t215] 25 (0, 0))) ∧ (w'.heap[g4_]? = some (.cells #[.int .i64 t216, .int .i64 t217] 25 (0, 0))) ∧ (w'.heap[s_]? = some (.cells #[.int .i64 0, .int .i64 0] 25 (0, 0))) ∧ (w.heap.size ≤ s_) ∧ (w.heap.size ≤ s_) ∧ (g0_ ≠ s_) ∧ (s_ ≠ g0_) ∧ (g1_ ≠ s_) ∧ (s_ ≠ g1_) ∧ (g2_ ≠ s_) ∧ (s_ ≠ g2_) ∧ (g3_ ≠ s_) ∧ (s_ ≠ g3_) ∧ (g4_ ≠ s_) ∧ (s_ ≠ g4_) ∧ (Below w.heap.size w w')) ?_ ?_
            rotate_left
            ·intro hJ3_8
             refine join_ (σ := Nat) 4 #[true, true, true, true, true, true, true, false, false, true, false, false] (fun s_ => [(75, .agg #[.int .i64 t220, .int .i64 t221]), (17, .pointer (some ⟨s_, 0, none⟩))]) (fun s_ w' => (w'.cell? ⟨g0_, 0, none⟩ = some (.int .i64 a0_0) ∧ w'.cell? ⟨g0_, 1, none⟩ = some (.int .i64 a0_1) ∧ w'.cell? ⟨g0_, 2, none⟩ = some (.int .i64 a0_2) ∧ w'.cell? ⟨g0_, 3, none⟩ = some (.int .i64 a0_3) ∧ w'.cell? ⟨g0_, 4, none⟩ = some (.int .i64 a0_4) ∧ w'.cell? ⟨g0_, 5, none⟩ = some (.int .i64 a0_5) ∧ w'.cell? ⟨g0_, 6, none⟩ = some (.int .i64 a0_6) ∧ w'.cell? ⟨g0_, 7, none⟩ = some (.int .i64 a0_7) ∧ w'.cell? ⟨g0_, 8, none⟩ = some (.int .i64 a0_8) ∧ w'.cell? ⟨g0_, 9, none⟩ = some (.int .i64 a0_9) ∧ w'.cell? ⟨g0_, 10, none⟩ = some (.int .i64 a0_10) ∧ w'.cell? ⟨g0_, 11, none⟩ = some (.int .i64 a0_11) ∧ w'.cell? ⟨g1_, 0, none⟩ = some (.int .i64 a1_0) ∧ w'.cell? ⟨g1_, 1, none⟩ = some (.int .i64 a1_1) ∧ w'.cell? ⟨g2_, 0, none⟩ = some (.int .i64 (wrap64 (a1_0 - a2))) ∧ w'.cell? ⟨g2_, 1, none⟩ = some (.int .i64 (wrap64 (a1_1 + a3)))) ∧ (w'.heap[g0_]? = some (.cells #[.int .i64 a0_0, .int .i64 a0_1, .int .i64 a0_2, .int .i64 a0_3, .int .i64 a0_4, .int .i64 a0_5, .int .i64 a0_6, .int .i64 a0_7, .int .i64 a0_8, .int .i64 a0_9, .int .i64 a0_10, .int .i64 a0_11] 23 (0, 0))) ∧ (w'.heap[g1_]? = some (.cells #[.int .i64 a1_0, .int .i64 a1_1] 25 (0, 0))) ∧ (w'.heap[g2_]? = some (.cells #[.int .i64 (wrap64 (a1_0 - a2)), .int .i64 (wrap64 (a1_1 + a3))] 25 (0, 0))) ∧ (w'.heap[g3_]? = some (.cells #[.int .i64 t214, .int .i64 t215] 25 (0, 0))) ∧ (w'.heap[g4_]? = some (.cells #[.int .i64 t216, .int .i64 t217] 25 (0, 0))) ∧ (w'.heap[s_]? = some (.cells #[.int .i64 0, .int .i64 0] 25 (0, 0))) ∧ (w.heap.size ≤ s_) ∧ (w.heap.size ≤ s_) ∧ (g0_ ≠ s_) ∧ (s_ ≠ g0_) ∧ (g1_ ≠ s_) ∧ (s_ ≠ g1_) ∧ (g2_ ≠ s_) ∧ (s_ ≠ g2_) ∧ (g3_ ≠ s_) ∧ (s_ ≠ g3_) ∧ (g4_ ≠ s_) ∧ (s_ ≠ g4_) ∧ (Below w.heap.size w w')) ?_ ?_
             rotate_left
             ·intro hJ3_9
              refine join_ (σ := Nat × Nat) 4 #[true, true, true, false, true, true, true, false, true, true, false, false] (fun s_ => [(16, .pointer (some ⟨s_.1, 0, none⟩)), (17, .pointer (some ⟨s_.2, 0, none⟩))]) (fun s_ w' => (w'.cell? ⟨g0_, 0, none⟩ = some (.int .i64 a0_0) ∧ w'.cell? ⟨g0_, 1, none⟩ = some (.int .i64 a0_1) ∧ w'.cell? ⟨g0_, 2, none⟩ = some (.int .i64 a0_2) ∧ w'.cell? ⟨g0_, 3, none⟩ = some (.int .i64 a0_3) ∧ w'.cell? ⟨g0_, 4, none⟩ = some (.int .i64 a0_4) ∧ w'.cell? ⟨g0_, 5, none⟩ = some (.int .i64 a0_5) ∧ w'.cell? ⟨g0_, 6, none⟩ = some (.int .i64 a0_6) ∧ w'.cell? ⟨g0_, 7, none⟩ = some (.int .i64 a0_7) ∧ w'.cell? ⟨g0_, 8, none⟩ = some (.int .i64 a0_8) ∧ w'.cell? ⟨g0_, 9, none⟩ = some (.int .i64 a0_9) ∧ w'.cell? ⟨g0_, 10, none⟩ = some (.int .i64 a0_10) ∧ w'.cell? ⟨g0_, 11, none⟩ = some (.int .i64 a0_11) ∧ w'.cell? ⟨g1_, 0, none⟩ = some (.int .i64 a1_0) ∧ w'.cell? ⟨g1_, 1, none⟩ = some (.int .i64 a1_1) ∧ w'.cell? ⟨g2_, 0, none⟩ = some (.int .i64 (wrap64 (a1_0 - a2))) ∧ w'.cell? ⟨g2_, 1, none⟩ = some (.int .i64 (wrap64 (a1_1 + a3)))) ∧ (w'.heap[g0_]? = some (.cells #[.int .i64 a0_0, .int .i64 a0_1, .int .i64 a0_2, .int .i64 a0_3, .int .i64 a0_4, .int .i64 a0_5, .int .i64 a0_6, .int .i64 a0_7, .int .i64 a0_8, .int .i64 a0_9, .int .i64 a0_10, .int .i64 a0_11] 23 (0, 0))) ∧ (w'.heap[g1_]? = some (.cells #[.int .i64 a1_0, .int .i64 a1_1] 25 (0, 0))) ∧ (w'.heap[g2_]? = some (.cells #[.int .i64 (wrap64 (a1_0 - a2)), .int .i64 (wrap64 (a1_1 + a3))] 25 (0, 0))) ∧ (w'.heap[g3_]? = some (.cells #[.int .i64 t214, .int .i64 t215] 25 (0, 0))) ∧ (w'.heap[g4_]? = some (.cells #[.int .i64 t216, .int .i64 t217] 25 (0, 0))) ∧ (w'.heap[s_.1]? = some (.cells #[.int .i64 0, .int .i64 0] 25 (0, 0))) ∧ (w'.heap[s_.2]? = some (.cells #[.int .i64 0, .int .i64 0] 25 (0, 0))) ∧ (w.heap.size ≤ s_.1) ∧ (w.heap.size ≤ s_.1) ∧ (g0_ ≠ s_.1) ∧ (s_.1 ≠ g0_) ∧ (g1_ ≠ s_.1) ∧ (s_.1 ≠ g1_) ∧ (g2_ ≠ s_.1) ∧ (s_.1 ≠ g2_) ∧ (g3_ ≠ s_.1) ∧ (s_.1 ≠ g3_) ∧ (g4_ ≠ s_.1) ∧ (s_.1 ≠ g4_) ∧ (s_.2 ≠ s_.1) ∧ (s_.1 ≠ s_.2) ∧ (w.heap.size ≤ s_.2) ∧ (w.heap.size ≤ s_.2) ∧ (g0_ ≠ s_.2) ∧ (s_.2 ≠ g0_) ∧ (g1_ ≠ s_.2) ∧ (s_.2 ≠ g1_) ∧ (g2_ ≠ s_.2) ∧ (s_.2 ≠ g2_) ∧ (g3_ ≠ s_.2) ∧ (s_.2 ≠ g3_) ∧ (g4_ ≠ s_.2) ∧ (s_.2 ≠ g4_) ∧ (Below w.heap.size w w')) ?_ ?_
              rotate_left
              ·intro hJ8_9
               refine join_ (σ := Unit) 5 #[true, true, true, true, true, true, true, false, false, false, false, false] (fun s_ => [(75, .agg #[.int .i64 t220, .int .i64 t221])]) (fun s_ w' => (w'.cell? ⟨g0_, 0, none⟩ = some (.int .i64 a0_0) ∧ w'.cell? ⟨g0_, 1, none⟩ = some (.int .i64 a0_1) ∧ w'.cell? ⟨g0_, 2, none⟩ = some (.int .i64 a0_2) ∧ w'.cell? ⟨g0_, 3, none⟩ = some (.int .i64 a0_3) ∧ w'.cell? ⟨g0_, 4, none⟩ = some (.int .i64 a0_4) ∧ w'.cell? ⟨g0_, 5, none⟩ = some (.int .i64 a0_5) ∧ w'.cell? ⟨g0_, 6, none⟩ = some (.int .i64 a0_6) ∧ w'.cell? ⟨g0_, 7, none⟩ = some (.int .i64 a0_7) ∧ w'.cell? ⟨g0_, 8, none⟩ = some (.int .i64 a0_8) ∧ w'.cell? ⟨g0_, 9, none⟩ = some (.int .i64 a0_9) ∧ w'.cell? ⟨g0_, 10, none⟩ = some (.int .i64 a0_10) ∧ w'.cell? ⟨g0_, 11, none⟩ = some (.int .i64 a0_11) ∧ w'.cell? ⟨g1_, 0, none⟩ = some (.int .i64 a1_0) ∧ w'.cell? ⟨g1_, 1, none⟩ = some (.int .i64 a1_1) ∧ w'.cell? ⟨g2_, 0, none⟩ = some (.int .i64 (wrap64 (a1_0 - a2))) ∧ w'.cell? ⟨g2_, 1, none⟩ = some (.int .i64 (wrap64 (a1_1 + a3)))) ∧ (w'.heap[g0_]? = some (.cells #[.int .i64 a0_0, .int .i64 a0_1, .int .i64 a0_2, .int .i64 a0_3, .int .i64 a0_4, .int .i64 a0_5, .int .i64 a0_6, .int .i64 a0_7, .int .i64 a0_8, .int .i64 a0_9, .int .i64 a0_10, .int .i64 a0_11] 23 (0, 0))) ∧ (w'.heap[g1_]? = some (.cells #[.int .i64 a1_0, .int .i64 a1_1] 25 (0, 0))) ∧ (w'.heap[g2_]? = some (.cells #[.int .i64 (wrap64 (a1_0 - a2)), .int .i64 (wrap64 (a1_1 + a3))] 25 (0, 0))) ∧ (w'.heap[g3_]? = some (.cells #[.int .i64 t214, .int .i64 t215] 25 (0, 0))) ∧ (w'.heap[g4_]? = some (.cells #[.int .i64 t216, .int .i64 t217] 25 (0, 0))) ∧ (Below w.heap.size w w')) ?_ ?_
               rotate_left
               ·intro hJ3
                refine join_ (σ := Nat) 5 #[true, true, true, false, true, true, true, false, true, false, false, false] (fun s_ => [(16, .pointer (some ⟨s_, 0, none⟩))]) (fun s_ w' => (w'.cell? ⟨g0_, 0, none⟩ = some (.int .i64 a0_0) ∧ w'.cell? ⟨g0_, 1, none⟩ = some (.int .i64 a0_1) ∧ w'.cell? ⟨g0_, 2, none⟩ = some (.int .i64 a0_2) ∧ w'.cell? ⟨g0_, 3, none⟩ = some (.int .i64 a0_3) ∧ w'.cell? ⟨g0_, 4, none⟩ = some (.int .i64 a0_4) ∧ w'.cell? ⟨g0_, 5, none⟩ = some (.int .i64 a0_5) ∧ w'.cell? ⟨g0_, 6, none⟩ = some (.int .i64 a0_6) ∧ w'.cell? ⟨g0_, 7, none⟩ = some (.int .i64 a0_7) ∧ w'.cell? ⟨g0_, 8, none⟩ = some (.int .i64 a0_8) ∧ w'.cell? ⟨g0_, 9, none⟩ = some (.int .i64 a0_9) ∧ w'.cell? ⟨g0_, 10, none⟩ = some (.int .i64 a0_10) ∧ w'.cell? ⟨g0_, 11, none⟩ = some (.int .i64 a0_11) ∧ w'.cell? ⟨g1_, 0, none⟩ = some (.int .i64 a1_0) ∧ w'.cell? ⟨g1_, 1, none⟩ = some (.int .i64 a1_1) ∧ w'.cell? ⟨g2_, 0, none⟩ = some (.int .i64 (wrap64 (a1_0 - a2))) ∧ w'.cell? ⟨g2_, 1, none⟩ = some (.int .i64 (wrap64 (a1_1 + a3)))) ∧ (w'.heap[g0_]? = some (.cells #[.int .i64 a0_0, .int .i64 a0_1, .int .i64 a0_2, .int .i64 a0_3, .int .i64 a0_4, .int .i64 a0_5, .int .i64 a0_6, .int .i64 a0_7, .int .i64 a0_8, .int .i64 a0_9, .int .i64 a0_10, .int .i64 a0_11] 23 (0, 0))) ∧ (w'.heap[g1_]? = some (.cells #[.int .i64 a1_0, .int .i64 a1_1] 25 (0, 0))) ∧ (w'.heap[g2_]? = some (.cells #[.int .i64 (wrap64 (a1_0 - a2)), .int .i64 (wrap64 (a1_1 + a3))] 25 (0, 0))) ∧ (w'.heap[g3_]? = some (.cells #[.int .i64 t214, .int .i64 t215] 25 (0, 0))) ∧ (w'.heap[g4_]? = some (.cells #[.int .i64 t216, .int .i64 t217] 25 (0, 0))) ∧ (w'.heap[s_]? = some (.cells #[.int .i64 0, .int .i64 0] 25 (0, 0))) ∧ (w.heap.size ≤ s_) ∧ (w.heap.size ≤ s_) ∧ (g0_ ≠ s_) ∧ (s_ ≠ g0_) ∧ (g1_ ≠ s_) ∧ (s_ ≠ g1_) ∧ (g2_ ≠ s_) ∧ (s_ ≠ g2_) ∧ (g3_ ≠ s_) ∧ (s_ ≠ g3_) ∧ (g4_ ≠ s_) ∧ (s_ ≠ g4_) ∧ (Below w.heap.size w w')) ?_ ?_
                rotate_left
                ·intro hJ8
                 refine join_ (σ := Nat) 5 #[true, true, true, false, true, true, true, false, false, true, false, false] (fun s_ => [(17, .pointer (some ⟨s_, 0, none⟩))]) (fun s_ w' => (w'.cell? ⟨g0_, 0, none⟩ = some (.int .i64 a0_0) ∧ w'.cell? ⟨g0_, 1, none⟩ = some (.int .i64 a0_1) ∧ w'.cell? ⟨g0_, 2, none⟩ = some (.int .i64 a0_2) ∧ w'.cell? ⟨g0_, 3, none⟩ = some (.int .i64 a0_3) ∧ w'.cell? ⟨g0_, 4, none⟩ = some (.int .i64 a0_4) ∧ w'.cell? ⟨g0_, 5, none⟩ = some (.int .i64 a0_5) ∧ w'.cell? ⟨g0_, 6, none⟩ = some (.int .i64 a0_6) ∧ w'.cell? ⟨g0_, 7, none⟩ = some (.int .i64 a0_7) ∧ w'.cell? ⟨g0_, 8, none⟩ = some (.int .i64 a0_8) ∧ w'.cell? ⟨g0_, 9, none⟩ = some (.int .i64 a0_9) ∧ w'.cell? ⟨g0_, 10, none⟩ = some (.int .i64 a0_10) ∧ w'.cell? ⟨g0_, 11, none⟩ = some (.int .i64 a0_11) ∧ w'.cell? ⟨g1_, 0, none⟩ = some (.int .i64 a1_0) ∧ w'.cell? ⟨g1_, 1, none⟩ = some (.int .i64 a1_1) ∧ w'.cell? ⟨g2_, 0, none⟩ = some (.int .i64 (wrap64 (a1_0 - a2))) ∧ w'.cell? ⟨g2_, 1, none⟩ = some (.int .i64 (wrap64 (a1_1 + a3)))) ∧ (w'.heap[g0_]? = some (.cells #[.int .i64 a0_0, .int .i64 a0_1, .int .i64 a0_2, .int .i64 a0_3, .int .i64 a0_4, .int .i64 a0_5, .int .i64 a0_6, .int .i64 a0_7, .int .i64 a0_8, .int .i64 a0_9, .int .i64 a0_10, .int .i64 a0_11] 23 (0, 0))) ∧ (w'.heap[g1_]? = some (.cells #[.int .i64 a1_0, .int .i64 a1_1] 25 (0, 0))) ∧ (w'.heap[g2_]? = some (.cells #[.int .i64 (wrap64 (a1_0 - a2)), .int .i64 (wrap64 (a1_1 + a3))] 25 (0, 0))) ∧ (w'.heap[g3_]? = some (.cells #[.int .i64 t214, .int .i64 t215] 25 (0, 0))) ∧ (w'.heap[g4_]? = some (.cells #[.int .i64 t216, .int .i64 t217] 25 (0, 0))) ∧ (w'.heap[s_]? = some (.cells #[.int .i64 0, .int .i64 0] 25 (0, 0))) ∧ (w.heap.size ≤ s_) ∧ (w.heap.size ≤ s_) ∧ (g0_ ≠ s_) ∧ (s_ ≠ g0_) ∧ (g1_ ≠ s_) ∧ (s_ ≠ g1_) ∧ (g2_ ≠ s_) ∧ (s_ ≠ g2_) ∧ (g3_ ≠ s_) ∧ (s_ ≠ g3_) ∧ (g4_ ≠ s_) ∧ (s_ ≠ g4_) ∧ (Below w.heap.size w w')) ?_ ?_
                 rotate_left
                 ·intro hJ9
                  refine three_ (i := 3) (j := 8) (k := 9) (Ni := some 75) (Nj := some 16) (Nk := some 17) #[true, true, true, true, true, true, true, false, false, false, false, false] #[true, true, true, false, true, true, true, false, true, false, false, false] #[true, true, true, false, true, true, true, false, false, true, false, false] rfl rfl rfl rfl rfl rfl (three_of HT_.out (by kernel_rfl)) (by decide) (by decide) (by decide) (fun K hK => ?_) (fun K hK => ?_) (fun K hK => ?_)
                  ·skip
                   refine goes_ Try.func18 (by kernel_rfl) rfl #[.agg #[.int .i64 a0_0, .int .i64 a0_1, .int .i64 a0_2, .int .i64 a0_3, .int .i64 a0_4, .int .i64 a0_5, .int .i64 a0_6, .int .i64 a0_7, .int .i64 a0_8, .int .i64 a0_9, .int .i64 a0_10, .int .i64 a0_11], .agg #[.int .i64 a1_0, .int .i64 a1_1], .int .i64 a4] (by rfl) rfl rfl (by (try simp only [List.map_toArray, List.map_cons, List.map_nil]); first | done | rfl | (simp only [List.length_drop, List.length_take]; rfl)) ?_
                   with_reducible refine (carry_Way.calls kj7 a0_0 a0_1 a0_2 a0_3 a0_4 a0_5 a0_6 a0_7 a0_8 a0_9 a0_10 a0_11 a1_0 a1_1 a4 t220 t221 _ A53.1).mono ?_
                   rintro e w77 ⟨rfl, hb⟩
                   refine ⟨_, rfl, ?_⟩
                   have n0_ := bb hb B0_.1
                   have n1_ := bb hb B1_.1
                   have n2_ := bb hb B2_.1
                   have n3_ := bb hb B3_.1
                   have n4_ := bb hb B4_.1
                   have n5_ := mk (below_step (by repeat first | exact HB.1 | apply pD) hb)
                   clear B0_ B1_ B2_ B3_ B4_ HB
                   have B0_ := n0_
                   have B1_ := n1_
                   have B2_ := n2_
                   have B3_ := n3_
                   have B4_ := n4_
                   have HB := n5_
                   clear n0_ n1_ n2_ n3_ n4_ n5_
                   (try clear hb)
                   (try clear hb2)
                   (try clear hk)
                   (try clear hi)
                   refine hK.out _ _ (c12t B0_.1 ⟨bt B1_.1 0, bt B1_.1 1, bt B2_.1 0, bt B2_.1 1⟩) (fun hHeld => ?_)
                   clear hK K
                   refine norm_ (a' := ?_) ?_ ?_
                   rotate_left
                   ·show Act.put _ (some 75) _ = _
                    simp only [Act.put, List.setIfInBounds_toArray, List.set_cons_zero, List.set_cons_succ, i64_w, i32_w]
                    rfl
                   exact norm_ (by simp only [putAll, Act.put, List.setIfInBounds_toArray, List.set_cons_zero, List.set_cons_succ] <;> rfl) (hJ3 () _ ⟨hHeld, (by exact B0_.1), (by exact B1_.1), (by exact B2_.1), (by exact B3_.1), (by exact B4_.1), (by repeat (first | (with_reducible first | exact HB.1 | apply bA | apply pD | apply b1 | apply bS E0_.1 | apply bS E1_.1 | apply bS E2_.1 | apply bS E3_.1 | apply bS E4_.1) | exact HB.1))⟩)
                  ·skip
                   refine box_step ?hg (N := 16) ?hd (cs := #[.int .i64 0, .int .i64 0]) (t := 25) ?hr ?_; (case hd => rfl); (case hg => rfl); (case hr => first | (go_simp; done) | (go_simp; rfl))
                   intro g5_ hg w77 hbox hb
                   have n0_ := bb hb B0_.1
                   have n1_ := bb hb B1_.1
                   have n2_ := bb hb B2_.1
                   have n3_ := bb hb B3_.1
                   have n4_ := bb hb B4_.1
                   have n5_ := mk (below_step (by repeat first | exact HB.1 | apply pD) hb)
                   have B5_ := mk (hbox)
                   have W5_ := gl hg (by repeat first | exact HB.1 | apply pD)
                   have E5_ := gl hg (by repeat first | exact HB.1 | apply pD)
                   have N05_ := nl hg B0_.1
                   have N50_ := ng hg B0_.1
                   have N15_ := nl hg B1_.1
                   have N51_ := ng hg B1_.1
                   have N25_ := nl hg B2_.1
                   have N52_ := ng hg B2_.1
                   have N35_ := nl hg B3_.1
                   have N53_ := ng hg B3_.1
                   have N45_ := nl hg B4_.1
                   have N54_ := ng hg B4_.1
                   clear B0_ B1_ B2_ B3_ B4_ HB
                   have B0_ := n0_
                   have B1_ := n1_
                   have B2_ := n2_
                   have B3_ := n3_
                   have B4_ := n4_
                   have HB := n5_
                   clear n0_ n1_ n2_ n3_ n4_ n5_ hb hbox hg
                   refine hK.out _ _ (c12t B0_.1 ⟨bt B1_.1 0, bt B1_.1 1, bt B2_.1 0, bt B2_.1 1⟩) (fun hHeld => ?_)
                   clear hK K
                   refine norm_ (a' := ?_) ?_ ?_
                   rotate_left
                   ·show Act.put _ (some 16) _ = _
                    simp only [Act.put, List.setIfInBounds_toArray, List.set_cons_zero, List.set_cons_succ, i64_w, i32_w]
                    rfl
                   exact norm_ (by simp only [putAll, Act.put, List.setIfInBounds_toArray, List.set_cons_zero, List.set_cons_succ] <;> rfl) (hJ8 (g5_) _ ⟨hHeld, (by exact B0_.1), (by exact B1_.1), (by exact B2_.1), (by exact B3_.1), (by exact B4_.1), (by exact B5_.1), W5_.1, E5_.1, N05_.1, N50_.1, N15_.1, N51_.1, N25_.1, N52_.1, N35_.1, N53_.1, N45_.1, N54_.1, (by repeat (first | (with_reducible first | exact HB.1 | apply bA | apply pD | apply b1 | apply bS E0_.1 | apply bS E1_.1 | apply bS E2_.1 | apply bS E3_.1 | apply bS E4_.1 | apply bS E5_.1) | exact HB.1))⟩)
                  skip
                  refine box_step ?hg (N := 17) ?hd (cs := #[.int .i64 0, .int .i64 0]) (t := 25) ?hr ?_; (case hd => rfl); (case hg => rfl); (case hr => first | (go_simp; done) | (go_simp; rfl))
                  intro g6_ hg w77 hbox hb
                  have n0_ := bb hb B0_.1
                  have n1_ := bb hb B1_.1
                  have n2_ := bb hb B2_.1
                  have n3_ := bb hb B3_.1
                  have n4_ := bb hb B4_.1
                  have n5_ := mk (below_step (by repeat first | exact HB.1 | apply pD) hb)
                  have B6_ := mk (hbox)
                  have W6_ := gl hg (by repeat first | exact HB.1 | apply pD)
                  have E6_ := gl hg (by repeat first | exact HB.1 | apply pD)
                  have N06_ := nl hg B0_.1
                  have N60_ := ng hg B0_.1
                  have N16_ := nl hg B1_.1
                  have N61_ := ng hg B1_.1
                  have N26_ := nl hg B2_.1
                  have N62_ := ng hg B2_.1
                  have N36_ := nl hg B3_.1
                  have N63_ := ng hg B3_.1
                  have N46_ := nl hg B4_.1
                  have N64_ := ng hg B4_.1
                  clear B0_ B1_ B2_ B3_ B4_ HB
                  have B0_ := n0_
                  have B1_ := n1_
                  have B2_ := n2_
                  have B3_ := n3_
                  have B4_ := n4_
                  have HB := n5_
                  clear n0_ n1_ n2_ n3_ n4_ n5_ hb hbox hg
                  refine hK.out _ _ (c12t B0_.1 ⟨bt B1_.1 0, bt B1_.1 1, bt B2_.1 0, bt B2_.1 1⟩) (fun hHeld => ?_)
                  clear hK K
                  refine norm_ (a' := ?_) ?_ ?_
                  rotate_left
                  ·show Act.put _ (some 17) _ = _
                   simp only [Act.put, List.setIfInBounds_toArray, List.set_cons_zero, List.set_cons_succ, i64_w, i32_w]
                   rfl
                  exact norm_ (by simp only [putAll, Act.put, List.setIfInBounds_toArray, List.set_cons_zero, List.set_cons_succ] <;> rfl) (hJ9 (g6_) _ ⟨hHeld, (by exact B0_.1), (by exact B1_.1), (by exact B2_.1), (by exact B3_.1), (by exact B4_.1), (by exact B6_.1), W6_.1, E6_.1, N06_.1, N60_.1, N16_.1, N61_.1, N26_.1, N62_.1, N36_.1, N63_.1, N46_.1, N64_.1, (by repeat (first | (with_reducible first | exact HB.1 | apply bA | apply pD | apply b1 | apply bS E0_.1 | apply bS E1_.1 | apply bS E2_.1 | apply bS E3_.1 | apply bS E4_.1 | apply bS E6_.1) | exact HB.1))⟩)
                 skip
                 rintro g6_ w78 ⟨hS_, h0_, h1_, h2_, h3_, h4_, h5_, h6_, h7_, h8_, h9_, h10_, h11_, h12_, h13_, h14_, h15_, h16_, h17_, h18_⟩
                 have n0_ : Aside0 (w78.heap[g0_]? = some (.cells #[.int .i64 a0_0, .int .i64 a0_1, .int .i64 a0_2, .int .i64 a0_3, .int .i64 a0_4, .int .i64 a0_5, .int .i64 a0_6, .int .i64 a0_7, .int .i64 a0_8, .int .i64 a0_9, .int .i64 a0_10, .int .i64 a0_11] 23 (0, 0))) := ⟨h0_⟩
                 have n1_ : Aside0 (w78.heap[g1_]? = some (.cells #[.int .i64 a1_0, .int .i64 a1_1] 25 (0, 0))) := ⟨h1_⟩
                 have n2_ : Aside0 (w78.heap[g2_]? = some (.cells #[.int .i64 (wrap64 (a1_0 - a2)), .int .i64 (wrap64 (a1_1 + a3))] 25 (0, 0))) := ⟨h2_⟩
                 have n3_ : Aside0 (w78.heap[g3_]? = some (.cells #[.int .i64 t214, .int .i64 t215] 25 (0, 0))) := ⟨h3_⟩
                 have n4_ : Aside0 (w78.heap[g4_]? = some (.cells #[.int .i64 t216, .int .i64 t217] 25 (0, 0))) := ⟨h4_⟩
                 have B6_ : Aside0 (w78.heap[g6_]? = some (.cells #[.int .i64 0, .int .i64 0] 25 (0, 0))) := ⟨h5_⟩
                 have W6_ : Aside0 (w.heap.size ≤ g6_) := ⟨h6_⟩
                 have E6_ : Aside0 (w.heap.size ≤ g6_) := ⟨h7_⟩
                 have N06_ : Aside0 (g0_ ≠ g6_) := ⟨h8_⟩
                 have N60_ : Aside0 (g6_ ≠ g0_) := ⟨h9_⟩
                 have N16_ : Aside0 (g1_ ≠ g6_) := ⟨h10_⟩
                 have N61_ : Aside0 (g6_ ≠ g1_) := ⟨h11_⟩
                 have N26_ : Aside0 (g2_ ≠ g6_) := ⟨h12_⟩
                 have N62_ : Aside0 (g6_ ≠ g2_) := ⟨h13_⟩
                 have N36_ : Aside0 (g3_ ≠ g6_) := ⟨h14_⟩
                 have N63_ : Aside0 (g6_ ≠ g3_) := ⟨h15_⟩
                 have N46_ : Aside0 (g4_ ≠ g6_) := ⟨h16_⟩
                 have N64_ : Aside0 (g6_ ≠ g4_) := ⟨h17_⟩
                 have n18_ : Aside0 (Below w.heap.size w w78) := ⟨h18_⟩
                 clear B0_ B1_ B2_ B3_ B4_ HB h0_ h1_ h2_ h3_ h4_ h5_ h6_ h7_ h8_ h9_ h10_ h11_ h12_ h13_ h14_ h15_ h16_ h17_ h18_
                 have B0_ := n0_
                 have B1_ := n1_
                 have B2_ := n2_
                 have B3_ := n3_
                 have B4_ := n4_
                 have HB := n18_
                 clear n0_ n1_ n2_ n3_ n4_ n18_
                 have hHeld := hS_
                 try dsimp only at hHeld
                 refine norm_ (a' := ?_) ?_ ?_
                 rotate_left
                 ·simp only [putAll, Act.put, List.setIfInBounds_toArray, List.set_cons_zero, List.set_cons_succ]
                  rfl
                 refine two_ (i := 3) (j := 8) (Ni := some 75) (Nj := some 16) #[true, true, true, true, true, true, true, false, false, true, false, false] #[true, true, true, false, true, true, true, false, true, true, false, false] rfl rfl rfl rfl (two_of HT_.out (by kernel_rfl)) (by decide) (by decide) (fun K hK => ?_) (fun K hK => ?_)
                 ·skip
                  refine goes_ Try.func18 (by kernel_rfl) rfl #[.agg #[.int .i64 a0_0, .int .i64 a0_1, .int .i64 a0_2, .int .i64 a0_3, .int .i64 a0_4, .int .i64 a0_5, .int .i64 a0_6, .int .i64 a0_7, .int .i64 a0_8, .int .i64 a0_9, .int .i64 a0_10, .int .i64 a0_11], .agg #[.int .i64 a1_0, .int .i64 a1_1], .int .i64 a4] (by rfl) rfl rfl (by (try simp only [List.map_toArray, List.map_cons, List.map_nil]); first | done | rfl | (simp only [List.length_drop, List.length_take]; rfl)) ?_
                  with_reducible refine (carry_Way.calls kj7 a0_0 a0_1 a0_2 a0_3 a0_4 a0_5 a0_6 a0_7 a0_8 a0_9 a0_10 a0_11 a1_0 a1_1 a4 t220 t221 _ A53.1).mono ?_
                  rintro e w79 ⟨rfl, hb⟩
                  refine ⟨_, rfl, ?_⟩
                  have n0_ := bb hb B0_.1
                  have n1_ := bb hb B1_.1
                  have n2_ := bb hb B2_.1
                  have n3_ := bb hb B3_.1
                  have n4_ := bb hb B4_.1
                  have n5_ := bb hb B6_.1
                  have n6_ := mk (below_step (by repeat first | exact HB.1 | apply pD) hb)
                  clear B0_ B1_ B2_ B3_ B4_ B6_ HB
                  have B0_ := n0_
                  have B1_ := n1_
                  have B2_ := n2_
                  have B3_ := n3_
                  have B4_ := n4_
                  have B6_ := n5_
                  have HB := n6_
                  clear n0_ n1_ n2_ n3_ n4_ n5_ n6_
                  (try clear hb)
                  (try clear hb2)
                  (try clear hk)
                  (try clear hi)
                  refine hK.out _ _ (c12t B0_.1 ⟨bt B1_.1 0, bt B1_.1 1, bt B2_.1 0, bt B2_.1 1⟩) (fun hHeld => ?_)
                  clear hK K
                  refine norm_ (a' := ?_) ?_ ?_
                  rotate_left
                  ·show Act.put _ (some 75) _ = _
                   simp only [Act.put, List.setIfInBounds_toArray, List.set_cons_zero, List.set_cons_succ, i64_w, i32_w]
                   rfl
                  exact norm_ (by simp only [putAll, Act.put, List.setIfInBounds_toArray, List.set_cons_zero, List.set_cons_succ] <;> rfl) (hJ3_9 (g6_) _ ⟨hHeld, (by exact B0_.1), (by exact B1_.1), (by exact B2_.1), (by exact B3_.1), (by exact B4_.1), (by exact B6_.1), W6_.1, E6_.1, N06_.1, N60_.1, N16_.1, N61_.1, N26_.1, N62_.1, N36_.1, N63_.1, N46_.1, N64_.1, (by repeat (first | (with_reducible first | exact HB.1 | apply bA | apply pD | apply b1 | apply bS E0_.1 | apply bS E1_.1 | apply bS E2_.1 | apply bS E3_.1 | apply bS E4_.1 | apply bS E6_.1) | exact HB.1))⟩)
                 skip
                 refine box_step ?hg (N := 16) ?hd (cs := #[.int .i64 0, .int .i64 0]) (t := 25) ?hr ?_; (case hd => rfl); (case hg => rfl); (case hr => first | (go_simp; done) | (go_simp; rfl))
                 intro g5_ hg w79 hbox hb
                 have n0_ := bb hb B0_.1
                 have n1_ := bb hb B1_.1
                 have n2_ := bb hb B2_.1
                 have n3_ := bb hb B3_.1
                 have n4_ := bb hb B4_.1
                 have n5_ := bb hb B6_.1
                 have n6_ := mk (below_step (by repeat first | exact HB.1 | apply pD) hb)
                 have B5_ := mk (hbox)
                 have W5_ := gl hg (by repeat first | exact HB.1 | apply pD)
                 have E5_ := gl hg (by repeat first | exact HB.1 | apply pD)
                 have N05_ := nl hg B0_.1
                 have N50_ := ng hg B0_.1
                 have N15_ := nl hg B1_.1
                 have N51_ := ng hg B1_.1
                 have N25_ := nl hg B2_.1
                 have N52_ := ng hg B2_.1
                 have N35_ := nl hg B3_.1
                 have N53_ := ng hg B3_.1
                 have N45_ := nl hg B4_.1
                 have N54_ := ng hg B4_.1
                 have N65_ := nl hg B6_.1
                 have N56_ := ng hg B6_.1
                 clear B0_ B1_ B2_ B3_ B4_ B6_ HB
                 have B0_ := n0_
                 have B1_ := n1_
                 have B2_ := n2_
                 have B3_ := n3_
                 have B4_ := n4_
                 have B6_ := n5_
                 have HB := n6_
                 clear n0_ n1_ n2_ n3_ n4_ n5_ n6_ hb hbox hg
                 refine hK.out _ _ (c12t B0_.1 ⟨bt B1_.1 0, bt B1_.1 1, bt B2_.1 0, bt B2_.1 1⟩) (fun hHeld => ?_)
                 clear hK K
                 refine norm_ (a' := ?_) ?_ ?_
                 rotate_left
                 ·show Act.put _ (some 16) _ = _
                  simp only [Act.put, List.setIfInBounds_toArray, List.set_cons_zero, List.set_cons_succ, i64_w, i32_w]
                  rfl
                 exact norm_ (by simp only [putAll, Act.put, List.setIfInBounds_toArray, List.set_cons_zero, List.set_cons_succ] <;> rfl) (hJ8_9 (g5_, g6_) _ ⟨hHeld, (by exact B0_.1), (by exact B1_.1), (by exact B2_.1), (by exact B3_.1), (by exact B4_.1), (by exact B5_.1), (by exact B6_.1), W5_.1, E5_.1, N05_.1, N50_.1, N15_.1, N51_.1, N25_.1, N52_.1, N35_.1, N53_.1, N45_.1, N54_.1, N65_.1, N56_.1, W6_.1, E6_.1, N06_.1, N60_.1, N16_.1, N61_.1, N26_.1, N62_.1, N36_.1, N63_.1, N46_.1, N64_.1, (by repeat (first | (with_reducible first | exact HB.1 | apply bA | apply pD | apply b1 | apply bS E0_.1 | apply bS E1_.1 | apply bS E2_.1 | apply bS E3_.1 | apply bS E4_.1 | apply bS E6_.1 | apply bS E5_.1) | exact HB.1))⟩)
                skip
                rintro g5_ w78 ⟨hS_, h0_, h1_, h2_, h3_, h4_, h5_, h6_, h7_, h8_, h9_, h10_, h11_, h12_, h13_, h14_, h15_, h16_, h17_, h18_⟩
                have n0_ : Aside0 (w78.heap[g0_]? = some (.cells #[.int .i64 a0_0, .int .i64 a0_1, .int .i64 a0_2, .int .i64 a0_3, .int .i64 a0_4, .int .i64 a0_5, .int .i64 a0_6, .int .i64 a0_7, .int .i64 a0_8, .int .i64 a0_9, .int .i64 a0_10, .int .i64 a0_11] 23 (0, 0))) := ⟨h0_⟩
                have n1_ : Aside0 (w78.heap[g1_]? = some (.cells #[.int .i64 a1_0, .int .i64 a1_1] 25 (0, 0))) := ⟨h1_⟩
                have n2_ : Aside0 (w78.heap[g2_]? = some (.cells #[.int .i64 (wrap64 (a1_0 - a2)), .int .i64 (wrap64 (a1_1 + a3))] 25 (0, 0))) := ⟨h2_⟩
                have n3_ : Aside0 (w78.heap[g3_]? = some (.cells #[.int .i64 t214, .int .i64 t215] 25 (0, 0))) := ⟨h3_⟩
                have n4_ : Aside0 (w78.heap[g4_]? = some (.cells #[.int .i64 t216, .int .i64 t217] 25 (0, 0))) := ⟨h4_⟩
                have B5_ : Aside0 (w78.heap[g5_]? = some (.cells #[.int .i64 0, .int .i64 0] 25 (0, 0))) := ⟨h5_⟩
                have W5_ : Aside0 (w.heap.size ≤ g5_) := ⟨h6_⟩
                have E5_ : Aside0 (w.heap.size ≤ g5_) := ⟨h7_⟩
                have N05_ : Aside0 (g0_ ≠ g5_) := ⟨h8_⟩
                have N50_ : Aside0 (g5_ ≠ g0_) := ⟨h9_⟩
                have N15_ : Aside0 (g1_ ≠ g5_) := ⟨h10_⟩
                have N51_ : Aside0 (g5_ ≠ g1_) := ⟨h11_⟩
                have N25_ : Aside0 (g2_ ≠ g5_) := ⟨h12_⟩
                have N52_ : Aside0 (g5_ ≠ g2_) := ⟨h13_⟩
                have N35_ : Aside0 (g3_ ≠ g5_) := ⟨h14_⟩
                have N53_ : Aside0 (g5_ ≠ g3_) := ⟨h15_⟩
                have N45_ : Aside0 (g4_ ≠ g5_) := ⟨h16_⟩
                have N54_ : Aside0 (g5_ ≠ g4_) := ⟨h17_⟩
                have n18_ : Aside0 (Below w.heap.size w w78) := ⟨h18_⟩
                clear B0_ B1_ B2_ B3_ B4_ HB h0_ h1_ h2_ h3_ h4_ h5_ h6_ h7_ h8_ h9_ h10_ h11_ h12_ h13_ h14_ h15_ h16_ h17_ h18_
                have B0_ := n0_
                have B1_ := n1_
                have B2_ := n2_
                have B3_ := n3_
                have B4_ := n4_
                have HB := n18_
                clear n0_ n1_ n2_ n3_ n4_ n18_
                have hHeld := hS_
                try dsimp only at hHeld
                refine norm_ (a' := ?_) ?_ ?_
                rotate_left
                ·simp only [putAll, Act.put, List.setIfInBounds_toArray, List.set_cons_zero, List.set_cons_succ]
                 rfl
                refine two_ (i := 3) (j := 9) (Ni := some 75) (Nj := some 17) #[true, true, true, true, true, true, true, false, true, false, false, false] #[true, true, true, false, true, true, true, false, true, true, false, false] rfl rfl rfl rfl (two_of HT_.out (by kernel_rfl)) (by decide) (by decide) (fun K hK => ?_) (fun K hK => ?_)
                ·skip
                 refine goes_ Try.func18 (by kernel_rfl) rfl #[.agg #[.int .i64 a0_0, .int .i64 a0_1, .int .i64 a0_2, .int .i64 a0_3, .int .i64 a0_4, .int .i64 a0_5, .int .i64 a0_6, .int .i64 a0_7, .int .i64 a0_8, .int .i64 a0_9, .int .i64 a0_10, .int .i64 a0_11], .agg #[.int .i64 a1_0, .int .i64 a1_1], .int .i64 a4] (by rfl) rfl rfl (by (try simp only [List.map_toArray, List.map_cons, List.map_nil]); first | done | rfl | (simp only [List.length_drop, List.length_take]; rfl)) ?_
                 with_reducible refine (carry_Way.calls kj7 a0_0 a0_1 a0_2 a0_3 a0_4 a0_5 a0_6 a0_7 a0_8 a0_9 a0_10 a0_11 a1_0 a1_1 a4 t220 t221 _ A53.1).mono ?_
                 rintro e w79 ⟨rfl, hb⟩
                 refine ⟨_, rfl, ?_⟩
                 have n0_ := bb hb B0_.1
                 have n1_ := bb hb B1_.1
                 have n2_ := bb hb B2_.1
                 have n3_ := bb hb B3_.1
                 have n4_ := bb hb B4_.1
                 have n5_ := bb hb B5_.1
                 have n6_ := mk (below_step (by repeat first | exact HB.1 | apply pD) hb)
                 clear B0_ B1_ B2_ B3_ B4_ B5_ HB
                 have B0_ := n0_
                 have B1_ := n1_
                 have B2_ := n2_
                 have B3_ := n3_
                 have B4_ := n4_
                 have B5_ := n5_
                 have HB := n6_
                 clear n0_ n1_ n2_ n3_ n4_ n5_ n6_
                 (try clear hb)
                 (try clear hb2)
                 (try clear hk)
                 (try clear hi)
                 refine hK.out _ _ (c12t B0_.1 ⟨bt B1_.1 0, bt B1_.1 1, bt B2_.1 0, bt B2_.1 1⟩) (fun hHeld => ?_)
                 clear hK K
                 refine norm_ (a' := ?_) ?_ ?_
                 rotate_left
                 ·show Act.put _ (some 75) _ = _
                  simp only [Act.put, List.setIfInBounds_toArray, List.set_cons_zero, List.set_cons_succ, i64_w, i32_w]
                  rfl
                 exact norm_ (by simp only [putAll, Act.put, List.setIfInBounds_toArray, List.set_cons_zero, List.set_cons_succ] <;> rfl) (hJ3_8 (g5_) _ ⟨hHeld, (by exact B0_.1), (by exact B1_.1), (by exact B2_.1), (by exact B3_.1), (by exact B4_.1), (by exact B5_.1), W5_.1, E5_.1, N05_.1, N50_.1, N15_.1, N51_.1, N25_.1, N52_.1, N35_.1, N53_.1, N45_.1, N54_.1, (by repeat (first | (with_reducible first | exact HB.1 | apply bA | apply pD | apply b1 | apply bS E0_.1 | apply bS E1_.1 | apply bS E2_.1 | apply bS E3_.1 | apply bS E4_.1 | apply bS E5_.1) | exact HB.1))⟩)
                skip
                refine box_step ?hg (N := 17) ?hd (cs := #[.int .i64 0, .int .i64 0]) (t := 25) ?hr ?_; (case hd => rfl); (case hg => rfl); (case hr => first | (go_simp; done) | (go_simp; rfl))
                intro g6_ hg w79 hbox hb
                have n0_ := bb hb B0_.1
                have n1_ := bb hb B1_.1
                have n2_ := bb hb B2_.1
                have n3_ := bb hb B3_.1
                have n4_ := bb hb B4_.1
                have n5_ := bb hb B5_.1
                have n6_ := mk (below_step (by repeat first | exact HB.1 | apply pD) hb)
                have B6_ := mk (hbox)
                have W6_ := gl hg (by repeat first | exact HB.1 | apply pD)
                have E6_ := gl hg (by repeat first | exact HB.1 | apply pD)
                have N06_ := nl hg B0_.1
                have N60_ := ng hg B0_.1
                have N16_ := nl hg B1_.1
                have N61_ := ng hg B1_.1
                have N26_ := nl hg B2_.1
                have N62_ := ng hg B2_.1
                have N36_ := nl hg B3_.1
                have N63_ := ng hg B3_.1
                have N46_ := nl hg B4_.1
                have N64_ := ng hg B4_.1
                have N56_ := nl hg B5_.1
                have N65_ := ng hg B5_.1
                clear B0_ B1_ B2_ B3_ B4_ B5_ HB
                have B0_ := n0_
                have B1_ := n1_
                have B2_ := n2_
                have B3_ := n3_
                have B4_ := n4_
                have B5_ := n5_
                have HB := n6_
                clear n0_ n1_ n2_ n3_ n4_ n5_ n6_ hb hbox hg
                refine hK.out _ _ (c12t B0_.1 ⟨bt B1_.1 0, bt B1_.1 1, bt B2_.1 0, bt B2_.1 1⟩) (fun hHeld => ?_)
                clear hK K
                refine norm_ (a' := ?_) ?_ ?_
                rotate_left
                ·show Act.put _ (some 17) _ = _
                 simp only [Act.put, List.setIfInBounds_toArray, List.set_cons_zero, List.set_cons_succ, i64_w, i32_w]
                 rfl
                exact norm_ (by simp only [putAll, Act.put, List.setIfInBounds_toArray, List.set_cons_zero, List.set_cons_succ] <;> rfl) (hJ8_9 (g5_, g6_) _ ⟨hHeld, (by exact B0_.1), (by exact B1_.1), (by exact B2_.1), (by exact B3_.1), (by exact B4_.1), (by exact B5_.1), (by exact B6_.1), W5_.1, E5_.1, N05_.1, N50_.1, N15_.1, N51_.1, N25_.1, N52_.1, N35_.1, N53_.1, N45_.1, N54_.1, N65_.1, N56_.1, W6_.1, E6_.1, N06_.1, N60_.1, N16_.1, N61_.1, N26_.1, N62_.1, N36_.1, N63_.1, N46_.1, N64_.1, (by repeat (first | (with_reducible first | exact HB.1 | apply bA | apply pD | apply b1 | apply bS E0_.1 | apply bS E1_.1 | apply bS E2_.1 | apply bS E3_.1 | apply bS E4_.1 | apply bS E5_.1 | apply bS E6_.1) | exact HB.1))⟩)
               skip
               rintro _ w78 ⟨hS_, h0_, h1_, h2_, h3_, h4_, h5_⟩
               have n0_ : Aside0 (w78.heap[g0_]? = some (.cells #[.int .i64 a0_0, .int .i64 a0_1, .int .i64 a0_2, .int .i64 a0_3, .int .i64 a0_4, .int .i64 a0_5, .int .i64 a0_6, .int .i64 a0_7, .int .i64 a0_8, .int .i64 a0_9, .int .i64 a0_10, .int .i64 a0_11] 23 (0, 0))) := ⟨h0_⟩
               have n1_ : Aside0 (w78.heap[g1_]? = some (.cells #[.int .i64 a1_0, .int .i64 a1_1] 25 (0, 0))) := ⟨h1_⟩
               have n2_ : Aside0 (w78.heap[g2_]? = some (.cells #[.int .i64 (wrap64 (a1_0 - a2)), .int .i64 (wrap64 (a1_1 + a3))] 25 (0, 0))) := ⟨h2_⟩
               have n3_ : Aside0 (w78.heap[g3_]? = some (.cells #[.int .i64 t214, .int .i64 t215] 25 (0, 0))) := ⟨h3_⟩
               have n4_ : Aside0 (w78.heap[g4_]? = some (.cells #[.int .i64 t216, .int .i64 t217] 25 (0, 0))) := ⟨h4_⟩
               have n5_ : Aside0 (Below w.heap.size w w78) := ⟨h5_⟩
               clear B0_ B1_ B2_ B3_ B4_ HB h0_ h1_ h2_ h3_ h4_ h5_
               have B0_ := n0_
               have B1_ := n1_
               have B2_ := n2_
               have B3_ := n3_
               have B4_ := n4_
               have HB := n5_
               clear n0_ n1_ n2_ n3_ n4_ n5_
               have hHeld := hS_
               try dsimp only at hHeld
               refine norm_ (a' := ?_) ?_ ?_
               rotate_left
               ·simp only [putAll, Act.put, List.setIfInBounds_toArray, List.set_cons_zero, List.set_cons_succ]
                rfl
               refine three_ (i := 7) (j := 8) (k := 9) (Ni := some 79) (Nj := some 16) (Nk := some 17) #[true, true, true, true, true, true, true, true, false, false, false, false] #[true, true, true, true, true, true, true, false, true, false, false, false] #[true, true, true, true, true, true, true, false, false, true, false, false] rfl rfl rfl rfl rfl rfl (three_of HT_.out (by kernel_rfl)) (by decide) (by decide) (by decide) (fun K hK => ?_) (fun K hK => ?_) (fun K hK => ?_)
               ·skip
                refine goes_ Try.func18 (by kernel_rfl) rfl #[.agg #[.int .i64 a0_0, .int .i64 a0_1, .int .i64 a0_2, .int .i64 a0_3, .int .i64 a0_4, .int .i64 a0_5, .int .i64 a0_6, .int .i64 a0_7, .int .i64 a0_8, .int .i64 a0_9, .int .i64 a0_10, .int .i64 a0_11], .agg #[.int .i64 (wrap64 (a1_0 - a2)), .int .i64 (wrap64 (a1_1 + a3))], .int .i64 a4] (by rfl) rfl rfl (by (try simp only [List.map_toArray, List.map_cons, List.map_nil]); first | done | rfl | (simp only [List.length_drop, List.length_take]; rfl)) ?_
                with_reducible refine (carry_Way.calls kj7 a0_0 a0_1 a0_2 a0_3 a0_4 a0_5 a0_6 a0_7 a0_8 a0_9 a0_10 a0_11 (wrap64 (a1_0 - a2)) (wrap64 (a1_1 + a3)) a4 t222 t223 _ A54.1).mono ?_
                rintro e w79 ⟨rfl, hb⟩
                refine ⟨_, rfl, ?_⟩
                have n0_ := bb hb B0_.1
                have n1_ := bb hb B1_.1
                have n2_ := bb hb B2_.1
                have n3_ := bb hb B3_.1
                have n4_ := bb hb B4_.1
                have n5_ := mk (below_step (by repeat first | exact HB.1 | apply pD) hb)
                clear B0_ B1_ B2_ B3_ B4_ HB
                have B0_ := n0_
                have B1_ := n1_
                have B2_ := n2_
                have B3_ := n3_
                have B4_ := n4_
                have HB := n5_
                clear n0_ n1_ n2_ n3_ n4_ n5_
                (try clear hb)
                (try clear hb2)
                (try clear hk)
                (try clear hi)
                refine hK.out _ _ (c12t B0_.1 ⟨bt B1_.1 0, bt B1_.1 1, bt B2_.1 0, bt B2_.1 1⟩) (fun hHeld => ?_)
                clear hK K
                refine norm_ (a' := ?_) ?_ ?_
                rotate_left
                ·show Act.put _ (some 79) _ = _
                 simp only [Act.put, List.setIfInBounds_toArray, List.set_cons_zero, List.set_cons_succ, i64_w, i32_w]
                 rfl
                exact norm_ (by simp only [putAll, Act.put, List.setIfInBounds_toArray, List.set_cons_zero, List.set_cons_succ] <;> rfl) (hJ3_7 () _ ⟨hHeld, (by exact B0_.1), (by exact B1_.1), (by exact B2_.1), (by exact B3_.1), (by exact B4_.1), (by repeat (first | (with_reducible first | exact HB.1 | apply bA | apply pD | apply b1 | apply bS E0_.1 | apply bS E1_.1 | apply bS E2_.1 | apply bS E3_.1 | apply bS E4_.1) | exact HB.1))⟩)
               ·skip
                refine box_step ?hg (N := 16) ?hd (cs := #[.int .i64 0, .int .i64 0]) (t := 25) ?hr ?_; (case hd => rfl); (case hg => rfl); (case hr => first | (go_simp; done) | (go_simp; rfl))
                intro g5_ hg w79 hbox hb
                have n0_ := bb hb B0_.1
                have n1_ := bb hb B1_.1
                have n2_ := bb hb B2_.1
                have n3_ := bb hb B3_.1
                have n4_ := bb hb B4_.1
                have n5_ := mk (below_step (by repeat first | exact HB.1 | apply pD) hb)
                have B5_ := mk (hbox)
                have W5_ := gl hg (by repeat first | exact HB.1 | apply pD)
                have E5_ := gl hg (by repeat first | exact HB.1 | apply pD)
                have N05_ := nl hg B0_.1
                have N50_ := ng hg B0_.1
                have N15_ := nl hg B1_.1
                have N51_ := ng hg B1_.1
                have N25_ := nl hg B2_.1
                have N52_ := ng hg B2_.1
                have N35_ := nl hg B3_.1
                have N53_ := ng hg B3_.1
                have N45_ := nl hg B4_.1
                have N54_ := ng hg B4_.1
                clear B0_ B1_ B2_ B3_ B4_ HB
                have B0_ := n0_
                have B1_ := n1_
                have B2_ := n2_
                have B3_ := n3_
                have B4_ := n4_
                have HB := n5_
                clear n0_ n1_ n2_ n3_ n4_ n5_ hb hbox hg
                refine hK.out _ _ (c12t B0_.1 ⟨bt B1_.1 0, bt B1_.1 1, bt B2_.1 0, bt B2_.1 1⟩) (fun hHeld => ?_)
                clear hK K
                refine norm_ (a' := ?_) ?_ ?_
                rotate_left
                ·show Act.put _ (some 16) _ = _
                 simp only [Act.put, List.setIfInBounds_toArray, List.set_cons_zero, List.set_cons_succ, i64_w, i32_w]
                 rfl
                exact norm_ (by simp only [putAll, Act.put, List.setIfInBounds_toArray, List.set_cons_zero, List.set_cons_succ] <;> rfl) (hJ3_8 (g5_) _ ⟨hHeld, (by exact B0_.1), (by exact B1_.1), (by exact B2_.1), (by exact B3_.1), (by exact B4_.1), (by exact B5_.1), W5_.1, E5_.1, N05_.1, N50_.1, N15_.1, N51_.1, N25_.1, N52_.1, N35_.1, N53_.1, N45_.1, N54_.1, (by repeat (first | (with_reducible first | exact HB.1 | apply bA | apply pD | apply b1 | apply bS E0_.1 | apply bS E1_.1 | apply bS E2_.1 | apply bS E3_.1 | apply bS E4_.1 | apply bS E5_.1) | exact HB.1))⟩)
               skip
               refine box_step ?hg (N := 17) ?hd (cs := #[.int .i64 0, .int .i64 0]) (t := 25) ?hr ?_; (case hd => rfl); (case hg => rfl); (case hr => first | (go_simp; done) | (go_simp; rfl))
               intro g6_ hg w79 hbox hb
               have n0_ := bb hb B0_.1
               have n1_ := bb hb B1_.1
               have n2_ := bb hb B2_.1
               have n3_ := bb hb B3_.1
               have n4_ := bb hb B4_.1
               have n5_ := mk (below_step (by repeat first | exact HB.1 | apply pD) hb)
               have B6_ := mk (hbox)
               have W6_ := gl hg (by repeat first | exact HB.1 | apply pD)
               have E6_ := gl hg (by repeat first | exact HB.1 | apply pD)
               have N06_ := nl hg B0_.1
               have N60_ := ng hg B0_.1
               have N16_ := nl hg B1_.1
               have N61_ := ng hg B1_.1
               have N26_ := nl hg B2_.1
               have N62_ := ng hg B2_.1
               have N36_ := nl hg B3_.1
               have N63_ := ng hg B3_.1
               have N46_ := nl hg B4_.1
               have N64_ := ng hg B4_.1
               clear B0_ B1_ B2_ B3_ B4_ HB
               have B0_ := n0_
               have B1_ := n1_
               have B2_ := n2_
               have B3_ := n3_
               have B4_ := n4_
               have HB := n5_
               clear n0_ n1_ n2_ n3_ n4_ n5_ hb hbox hg
               refine hK.out _ _ (c12t B0_.1 ⟨bt B1_.1 0, bt B1_.1 1, bt B2_.1 0, bt B2_.1 1⟩) (fun hHeld => ?_)
               clear hK K
               refine norm_ (a' := ?_) ?_ ?_
               rotate_left
               ·show Act.put _ (some 17) _ = _
                simp only [Act.put, List.setIfInBounds_toArray, List.set_cons_zero, List.set_cons_succ, i64_w, i32_w]
                rfl
               exact norm_ (by simp only [putAll, Act.put, List.setIfInBounds_toArray, List.set_cons_zero, List.set_cons_succ] <;> rfl) (hJ3_9 (g6_) _ ⟨hHeld, (by exact B0_.1), (by exact B1_.1), (by exact B2_.1), (by exact B3_.1), (by exact B4_.1), (by exact B6_.1), W6_.1, E6_.1, N06_.1, N60_.1, N16_.1, N61_.1, N26_.1, N62_.1, N36_.1, N63_.1, N46_.1, N64_.1, (by repeat (first | (with_reducible first | exact HB.1 | apply bA | apply pD | apply b1 | apply bS E0_.1 | apply bS E1_.1 | apply bS E2_.1 | apply bS E3_.1 | apply bS E4_.1 | apply bS E6_.1) | exact HB.1))⟩)
              skip
              rintro ⟨g5_, g6_⟩ w79 ⟨hS_, h0_, h1_, h2_, h3_, h4_, h5_, h6_, h7_, h8_, h9_, h10_, h11_, h12_, h13_, h14_, h15_, h16_, h17_, h18_, h19_, h20_, h21_, h22_, h23_, h24_, h25_, h26_, h27_, h28_, h29_, h30_, h31_, h32_, h33_⟩
              have n0_ : Aside0 (w79.heap[g0_]? = some (.cells #[.int .i64 a0_0, .int .i64 a0_1, .int .i64 a0_2, .int .i64 a0_3, .int .i64 a0_4, .int .i64 a0_5, .int .i64 a0_6, .int .i64 a0_7, .int .i64 a0_8, .int .i64 a0_9, .int .i64 a0_10, .int .i64 a0_11] 23 (0, 0))) := ⟨h0_⟩
              have n1_ : Aside0 (w79.heap[g1_]? = some (.cells #[.int .i64 a1_0, .int .i64 a1_1] 25 (0, 0))) := ⟨h1_⟩
              have n2_ : Aside0 (w79.heap[g2_]? = some (.cells #[.int .i64 (wrap64 (a1_0 - a2)), .int .i64 (wrap64 (a1_1 + a3))] 25 (0, 0))) := ⟨h2_⟩
              have n3_ : Aside0 (w79.heap[g3_]? = some (.cells #[.int .i64 t214, .int .i64 t215] 25 (0, 0))) := ⟨h3_⟩
              have n4_ : Aside0 (w79.heap[g4_]? = some (.cells #[.int .i64 t216, .int .i64 t217] 25 (0, 0))) := ⟨h4_⟩
              have B5_ : Aside0 (w79.heap[g5_]? = some (.cells #[.int .i64 0, .int .i64 0] 25 (0, 0))) := ⟨h5_⟩
              have B6_ : Aside0 (w79.heap[g6_]? = some (.cells #[.int .i64 0, .int .i64 0] 25 (0, 0))) := ⟨h6_⟩
              have W5_ : Aside0 (w.heap.size ≤ g5_) := ⟨h7_⟩
              have E5_ : Aside0 (w.heap.size ≤ g5_) := ⟨h8_⟩
              have N05_ : Aside0 (g0_ ≠ g5_) := ⟨h9_⟩
              have N50_ : Aside0 (g5_ ≠ g0_) := ⟨h10_⟩
              have N15_ : Aside0 (g1_ ≠ g5_) := ⟨h11_⟩
              have N51_ : Aside0 (g5_ ≠ g1_) := ⟨h12_⟩
              have N25_ : Aside0 (g2_ ≠ g5_) := ⟨h13_⟩
              have N52_ : Aside0 (g5_ ≠ g2_) := ⟨h14_⟩
              have N35_ : Aside0 (g3_ ≠ g5_) := ⟨h15_⟩
              have N53_ : Aside0 (g5_ ≠ g3_) := ⟨h16_⟩
              have N45_ : Aside0 (g4_ ≠ g5_) := ⟨h17_⟩
              have N54_ : Aside0 (g5_ ≠ g4_) := ⟨h18_⟩
              have N65_ : Aside0 (g6_ ≠ g5_) := ⟨h19_⟩
              have N56_ : Aside0 (g5_ ≠ g6_) := ⟨h20_⟩
              have W6_ : Aside0 (w.heap.size ≤ g6_) := ⟨h21_⟩
              have E6_ : Aside0 (w.heap.size ≤ g6_) := ⟨h22_⟩
              have N06_ : Aside0 (g0_ ≠ g6_) := ⟨h23_⟩
              have N60_ : Aside0 (g6_ ≠ g0_) := ⟨h24_⟩
              have N16_ : Aside0 (g1_ ≠ g6_) := ⟨h25_⟩
              have N61_ : Aside0 (g6_ ≠ g1_) := ⟨h26_⟩
              have N26_ : Aside0 (g2_ ≠ g6_) := ⟨h27_⟩
              have N62_ : Aside0 (g6_ ≠ g2_) := ⟨h28_⟩
              have N36_ : Aside0 (g3_ ≠ g6_) := ⟨h29_⟩
              have N63_ : Aside0 (g6_ ≠ g3_) := ⟨h30_⟩
              have N46_ : Aside0 (g4_ ≠ g6_) := ⟨h31_⟩
              have N64_ : Aside0 (g6_ ≠ g4_) := ⟨h32_⟩
              have n33_ : Aside0 (Below w.heap.size w w79) := ⟨h33_⟩
              clear B0_ B1_ B2_ B3_ B4_ HB h0_ h1_ h2_ h3_ h4_ h5_ h6_ h7_ h8_ h9_ h10_ h11_ h12_ h13_ h14_ h15_ h16_ h17_ h18_ h19_ h20_ h21_ h22_ h23_ h24_ h25_ h26_ h27_ h28_ h29_ h30_ h31_ h32_ h33_
              have B0_ := n0_
              have B1_ := n1_
              have B2_ := n2_
              have B3_ := n3_
              have B4_ := n4_
              have HB := n33_
              clear n0_ n1_ n2_ n3_ n4_ n33_
              have hHeld := hS_
              try dsimp only at hHeld
              refine norm_ (a' := ?_) ?_ ?_
              rotate_left
              ·simp only [putAll, Act.put, List.setIfInBounds_toArray, List.set_cons_zero, List.set_cons_succ]
               rfl
              refine one_ (i := 3) (N := some 75) #[true, true, true, true, true, true, true, false, true, true, false, false] rfl rfl (one_of HT_.out (by kernel_rfl)) (by decide) (fun K hK => ?_)
              refine goes_ Try.func18 (by kernel_rfl) rfl #[.agg #[.int .i64 a0_0, .int .i64 a0_1, .int .i64 a0_2, .int .i64 a0_3, .int .i64 a0_4, .int .i64 a0_5, .int .i64 a0_6, .int .i64 a0_7, .int .i64 a0_8, .int .i64 a0_9, .int .i64 a0_10, .int .i64 a0_11], .agg #[.int .i64 a1_0, .int .i64 a1_1], .int .i64 a4] (by rfl) rfl rfl (by (try simp only [List.map_toArray, List.map_cons, List.map_nil]); first | done | rfl | (simp only [List.length_drop, List.length_take]; rfl)) ?_
              with_reducible refine (carry_Way.calls kj7 a0_0 a0_1 a0_2 a0_3 a0_4 a0_5 a0_6 a0_7 a0_8 a0_9 a0_10 a0_11 a1_0 a1_1 a4 t220 t221 _ A53.1).mono ?_
              rintro e w80 ⟨rfl, hb⟩
              refine ⟨_, rfl, ?_⟩
              have n0_ := bb hb B0_.1
              have n1_ := bb hb B1_.1
              have n2_ := bb hb B2_.1
              have n3_ := bb hb B3_.1
              have n4_ := bb hb B4_.1
              have n5_ := bb hb B5_.1
              have n6_ := bb hb B6_.1
              have n7_ := mk (below_step (by repeat first | exact HB.1 | apply pD) hb)
              clear B0_ B1_ B2_ B3_ B4_ B5_ B6_ HB
              have B0_ := n0_
              have B1_ := n1_
              have B2_ := n2_
              have B3_ := n3_
              have B4_ := n4_
              have B5_ := n5_
              have B6_ := n6_
              have HB := n7_
              clear n0_ n1_ n2_ n3_ n4_ n5_ n6_ n7_
              (try clear hb)
              (try clear hb2)
              (try clear hk)
              (try clear hi)
              refine hK.out _ _ (c12t B0_.1 ⟨bt B1_.1 0, bt B1_.1 1, bt B2_.1 0, bt B2_.1 1⟩) (fun hHeld => ?_)
              clear hK K
              refine norm_ (a' := ?_) ?_ ?_
              rotate_left
              ·show Act.put _ (some 75) _ = _
               simp only [Act.put, List.setIfInBounds_toArray, List.set_cons_zero, List.set_cons_succ, i64_w, i32_w]
               rfl
              exact norm_ (by simp only [putAll, Act.put, List.setIfInBounds_toArray, List.set_cons_zero, List.set_cons_succ] <;> rfl) (hJ3_8_9 (g5_, g6_) _ ⟨hHeld, (by exact B0_.1), (by exact B1_.1), (by exact B2_.1), (by exact B3_.1), (by exact B4_.1), (by exact B5_.1), (by exact B6_.1), W5_.1, E5_.1, N05_.1, N50_.1, N15_.1, N51_.1, N25_.1, N52_.1, N35_.1, N53_.1, N45_.1, N54_.1, N65_.1, N56_.1, W6_.1, E6_.1, N06_.1, N60_.1, N16_.1, N61_.1, N26_.1, N62_.1, N36_.1, N63_.1, N46_.1, N64_.1, (by repeat (first | (with_reducible first | exact HB.1 | apply bA | apply pD | apply b1 | apply bS E0_.1 | apply bS E1_.1 | apply bS E2_.1 | apply bS E3_.1 | apply bS E4_.1 | apply bS E5_.1 | apply bS E6_.1) | exact HB.1))⟩)
             skip
             rintro g6_ w79 ⟨hS_, h0_, h1_, h2_, h3_, h4_, h5_, h6_, h7_, h8_, h9_, h10_, h11_, h12_, h13_, h14_, h15_, h16_, h17_, h18_⟩
             have n0_ : Aside0 (w79.heap[g0_]? = some (.cells #[.int .i64 a0_0, .int .i64 a0_1, .int .i64 a0_2, .int .i64 a0_3, .int .i64 a0_4, .int .i64 a0_5, .int .i64 a0_6, .int .i64 a0_7, .int .i64 a0_8, .int .i64 a0_9, .int .i64 a0_10, .int .i64 a0_11] 23 (0, 0))) := ⟨h0_⟩
             have n1_ : Aside0 (w79.heap[g1_]? = some (.cells #[.int .i64 a1_0, .int .i64 a1_1] 25 (0, 0))) := ⟨h1_⟩
             have n2_ : Aside0 (w79.heap[g2_]? = some (.cells #[.int .i64 (wrap64 (a1_0 - a2)), .int .i64 (wrap64 (a1_1 + a3))] 25 (0, 0))) := ⟨h2_⟩
             have n3_ : Aside0 (w79.heap[g3_]? = some (.cells #[.int .i64 t214, .int .i64 t215] 25 (0, 0))) := ⟨h3_⟩
             have n4_ : Aside0 (w79.heap[g4_]? = some (.cells #[.int .i64 t216, .int .i64 t217] 25 (0, 0))) := ⟨h4_⟩
             have B6_ : Aside0 (w79.heap[g6_]? = some (.cells #[.int .i64 0, .int .i64 0] 25 (0, 0))) := ⟨h5_⟩
             have W6_ : Aside0 (w.heap.size ≤ g6_) := ⟨h6_⟩
             have E6_ : Aside0 (w.heap.size ≤ g6_) := ⟨h7_⟩
             have N06_ : Aside0 (g0_ ≠ g6_) := ⟨h8_⟩
             have N60_ : Aside0 (g6_ ≠ g0_) := ⟨h9_⟩
             have N16_ : Aside0 (g1_ ≠ g6_) := ⟨h10_⟩
             have N61_ : Aside0 (g6_ ≠ g1_) := ⟨h11_⟩
             have N26_ : Aside0 (g2_ ≠ g6_) := ⟨h12_⟩
             have N62_ : Aside0 (g6_ ≠ g2_) := ⟨h13_⟩
             have N36_ : Aside0 (g3_ ≠ g6_) := ⟨h14_⟩
             have N63_ : Aside0 (g6_ ≠ g3_) := ⟨h15_⟩
             have N46_ : Aside0 (g4_ ≠ g6_) := ⟨h16_⟩
             have N64_ : Aside0 (g6_ ≠ g4_) := ⟨h17_⟩
             have n18_ : Aside0 (Below w.heap.size w w79) := ⟨h18_⟩
             clear B0_ B1_ B2_ B3_ B4_ HB h0_ h1_ h2_ h3_ h4_ h5_ h6_ h7_ h8_ h9_ h10_ h11_ h12_ h13_ h14_ h15_ h16_ h17_ h18_
             have B0_ := n0_
             have B1_ := n1_
             have B2_ := n2_
             have B3_ := n3_
             have B4_ := n4_
             have HB := n18_
             clear n0_ n1_ n2_ n3_ n4_ n18_
             have hHeld := hS_
             try dsimp only at hHeld
             refine norm_ (a' := ?_) ?_ ?_
             rotate_left
             ·simp only [putAll, Act.put, List.setIfInBounds_toArray, List.set_cons_zero, List.set_cons_succ]
              rfl
             refine two_ (i := 7) (j := 8) (Ni := some 79) (Nj := some 16) #[true, true, true, true, true, true, true, true, false, true, false, false] #[true, true, true, true, true, true, true, false, true, true, false, false] rfl rfl rfl rfl (two_of HT_.out (by kernel_rfl)) (by decide) (by decide) (fun K hK => ?_) (fun K hK => ?_)
             ·skip
              refine goes_ Try.func18 (by kernel_rfl) rfl #[.agg #[.int .i64 a0_0, .int .i64 a0_1, .int .i64 a0_2, .int .i64 a0_3, .int .i64 a0_4, .int .i64 a0_5, .int .i64 a0_6, .int .i64 a0_7, .int .i64 a0_8, .int .i64 a0_9, .int .i64 a0_10, .int .i64 a0_11], .agg #[.int .i64 (wrap64 (a1_0 - a2)), .int .i64 (wrap64 (a1_1 + a3))], .int .i64 a4] (by rfl) rfl rfl (by (try simp only [List.map_toArray, List.map_cons, List.map_nil]); first | done | rfl | (simp only [List.length_drop, List.length_take]; rfl)) ?_
              with_reducible refine (carry_Way.calls kj7 a0_0 a0_1 a0_2 a0_3 a0_4 a0_5 a0_6 a0_7 a0_8 a0_9 a0_10 a0_11 (wrap64 (a1_0 - a2)) (wrap64 (a1_1 + a3)) a4 t222 t223 _ A54.1).mono ?_
              rintro e w80 ⟨rfl, hb⟩
              refine ⟨_, rfl, ?_⟩
              have n0_ := bb hb B0_.1
              have n1_ := bb hb B1_.1
              have n2_ := bb hb B2_.1
              have n3_ := bb hb B3_.1
              have n4_ := bb hb B4_.1
              have n5_ := bb hb B6_.1
              have n6_ := mk (below_step (by repeat first | exact HB.1 | apply pD) hb)
              clear B0_ B1_ B2_ B3_ B4_ B6_ HB
              have B0_ := n0_
              have B1_ := n1_
              have B2_ := n2_
              have B3_ := n3_
              have B4_ := n4_
              have B6_ := n5_
              have HB := n6_
              clear n0_ n1_ n2_ n3_ n4_ n5_ n6_
              (try clear hb)
              (try clear hb2)
              (try clear hk)
              (try clear hi)
              refine hK.out _ _ (c12t B0_.1 ⟨bt B1_.1 0, bt B1_.1 1, bt B2_.1 0, bt B2_.1 1⟩) (fun hHeld => ?_)
              clear hK K
              refine norm_ (a' := ?_) ?_ ?_
              rotate_left
              ·show Act.put _ (some 79) _ = _
               simp only [Act.put, List.setIfInBounds_toArray, List.set_cons_zero, List.set_cons_succ, i64_w, i32_w]
               rfl
              exact norm_ (by simp only [putAll, Act.put, List.setIfInBounds_toArray, List.set_cons_zero, List.set_cons_succ] <;> rfl) (hJ3_7_9 (g6_) _ ⟨hHeld, (by exact B0_.1), (by exact B1_.1), (by exact B2_.1), (by exact B3_.1), (by exact B4_.1), (by exact B6_.1), W6_.1, E6_.1, N06_.1, N60_.1, N16_.1, N61_.1, N26_.1, N62_.1, N36_.1, N63_.1, N46_.1, N64_.1, (by repeat (first | (with_reducible first | exact HB.1 | apply bA | apply pD | apply b1 | apply bS E0_.1 | apply bS E1_.1 | apply bS E2_.1 | apply bS E3_.1 | apply bS E4_.1 | apply bS E6_.1) | exact HB.1))⟩)
             skip
             refine box_step ?hg (N := 16) ?hd (cs := #[.int .i64 0, .int .i64 0]) (t := 25) ?hr ?_; (case hd => rfl); (case hg => rfl); (case hr => first | (go_simp; done) | (go_simp; rfl))
             intro g5_ hg w80 hbox hb
             have n0_ := bb hb B0_.1
             have n1_ := bb hb B1_.1
             have n2_ := bb hb B2_.1
             have n3_ := bb hb B3_.1
             have n4_ := bb hb B4_.1
             have n5_ := bb hb B6_.1
             have n6_ := mk (below_step (by repeat first | exact HB.1 | apply pD) hb)
             have B5_ := mk (hbox)
             have W5_ := gl hg (by repeat first | exact HB.1 | apply pD)
             have E5_ := gl hg (by repeat first | exact HB.1 | apply pD)
             have N05_ := nl hg B0_.1
             have N50_ := ng hg B0_.1
             have N15_ := nl hg B1_.1
             have N51_ := ng hg B1_.1
             have N25_ := nl hg B2_.1
             have N52_ := ng hg B2_.1
             have N35_ := nl hg B3_.1
             have N53_ := ng hg B3_.1
             have N45_ := nl hg B4_.1
             have N54_ := ng hg B4_.1
             have N65_ := nl hg B6_.1
             have N56_ := ng hg B6_.1
             clear B0_ B1_ B2_ B3_ B4_ B6_ HB
             have B0_ := n0_
             have B1_ := n1_
             have B2_ := n2_
             have B3_ := n3_
             have B4_ := n4_
             have B6_ := n5_
             have HB := n6_
             clear n0_ n1_ n2_ n3_ n4_ n5_ n6_ hb hbox hg
             refine hK.out _ _ (c12t B0_.1 ⟨bt B1_.1 0, bt B1_.1 1, bt B2_.1 0, bt B2_.1 1⟩) (fun hHeld => ?_)
             clear hK K
             refine norm_ (a' := ?_) ?_ ?_
             rotate_left
             ·show Act.put _ (some 16) _ = _
              simp only [Act.put, List.setIfInBounds_toArray, List.set_cons_zero, List.set_cons_succ, i64_w, i32_w]
              rfl
             exact norm_ (by simp only [putAll, Act.put, List.setIfInBounds_toArray, List.set_cons_zero, List.set_cons_succ] <;> rfl) (hJ3_8_9 (g5_, g6_) _ ⟨hHeld, (by exact B0_.1), (by exact B1_.1), (by exact B2_.1), (by exact B3_.1), (by exact B4_.1), (by exact B5_.1), (by exact B6_.1), W5_.1, E5_.1, N05_.1, N50_.1, N15_.1, N51_.1, N25_.1, N52_.1, N35_.1, N53_.1, N45_.1, N54_.1, N65_.1, N56_.1, W6_.1, E6_.1, N06_.1, N60_.1, N16_.1, N61_.1, N26_.1, N62_.1, N36_.1, N63_.1, N46_.1, N64_.1, (by repeat (first | (with_reducible first | exact HB.1 | apply bA | apply pD | apply b1 | apply bS E0_.1 | apply bS E1_.1 | apply bS E2_.1 | apply bS E3_.1 | apply bS E4_.1 | apply bS E6_.1 | apply bS E5_.1) | exact HB.1))⟩)
            skip
            rintro g5_ w79 ⟨hS_, h0_, h1_, h2_, h3_, h4_, h5_, h6_, h7_, h8_, h9_, h10_, h11_, h12_, h13_, h14_, h15_, h16_, h17_, h18_⟩
            have n0_ : Aside0 (w79.heap[g0_]? = some (.cells #[.int .i64 a0_0, .int .i64 a0_1, .int .i64 a0_2, .int .i64 a0_3, .int .i64 a0_4, .int .i64 a0_5, .int .i64 a0_6, .int .i64 a0_7, .int .i64 a0_8, .int .i64 a0_9, .int .i64 a0_10, .int .i64 a0_11] 23 (0, 0))) := ⟨h0_⟩
            have n1_ : Aside0 (w79.heap[g1_]? = some (.cells #[.int .i64 a1_0, .int .i64 a1_1] 25 (0, 0))) := ⟨h1_⟩
            have n2_ : Aside0 (w79.heap[g2_]? = some (.cells #[.int .i64 (wrap64 (a1_0 - a2)), .int .i64 (wrap64 (a1_1 + a3))] 25 (0, 0))) := ⟨h2_⟩
            have n3_ : Aside0 (w79.heap[g3_]? = some (.cells #[.int .i64 t214, .int .i64 t215] 25 (0, 0))) := ⟨h3_⟩
            have n4_ : Aside0 (w79.heap[g4_]? = some (.cells #[.int .i64 t216, .int .i64 t217] 25 (0, 0))) := ⟨h4_⟩
            have B5_ : Aside0 (w79.heap[g5_]? = some (.cells #[.int .i64 0, .int .i64 0] 25 (0, 0))) := ⟨h5_⟩
            have W5_ : Aside0 (w.heap.size ≤ g5_) := ⟨h6_⟩
            have E5_ : Aside0 (w.heap.size ≤ g5_) := ⟨h7_⟩
            have N05_ : Aside0 (g0_ ≠ g5_) := ⟨h8_⟩
            have N50_ : Aside0 (g5_ ≠ g0_) := ⟨h9_⟩
            have N15_ : Aside0 (g1_ ≠ g5_) := ⟨h10_⟩
            have N51_ : Aside0 (g5_ ≠ g1_) := ⟨h11_⟩
            have N25_ : Aside0 (g2_ ≠ g5_) := ⟨h12_⟩
            have N52_ : Aside0 (g5_ ≠ g2_) := ⟨h13_⟩
            have N35_ : Aside0 (g3_ ≠ g5_) := ⟨h14_⟩
            have N53_ : Aside0 (g5_ ≠ g3_) := ⟨h15_⟩
            have N45_ : Aside0 (g4_ ≠ g5_) := ⟨h16_⟩
            have N54_ : Aside0 (g5_ ≠ g4_) := ⟨h17_⟩
            have n18_ : Aside0 (Below w.heap.size w w79) := ⟨h18_⟩
            clear B0_ B1_ B2_ B3_ B4_ HB h0_ h1_ h2_ h3_ h4_ h5_ h6_ h7_ h8_ h9_ h10_ h11_ h12_ h13_ h14_ h15_ h16_ h17_ h18_
            have B0_ := n0_
            have B1_ := n1_
            have B2_ := n2_
            have B3_ := n3_
            have B4_ := n4_
            have HB := n18_
            clear n0_ n1_ n2_ n3_ n4_ n18_
            have hHeld := hS_
            try dsimp only at hHeld
            refine norm_ (a' := ?_) ?_ ?_
            rotate_left
            ·simp only [putAll, Act.put, List.setIfInBounds_toArray, List.set_cons_zero, List.set_cons_succ]
             rfl
            refine two_ (i := 7) (j := 9) (Ni := some 79) (Nj := some 17) #[true, true, true, true, true, true, true, true, true, false, false, false] #[true, true, true, true, true, true, true, false, true, true, false, false] rfl rfl rfl rfl (two_of HT_.out (by kernel_rfl)) (by decide) (by decide) (fun K hK => ?_) (fun K hK => ?_)
            ·skip
             refine goes_ Try.func18 (by kernel_rfl) rfl #[.agg #[.int .i64 a0_0, .int .i64 a0_1, .int .i64 a0_2, .int .i64 a0_3, .int .i64 a0_4, .int .i64 a0_5, .int .i64 a0_6, .int .i64 a0_7, .int .i64 a0_8, .int .i64 a0_9, .int .i64 a0_10, .int .i64 a0_11], .agg #[.int .i64 (wrap64 (a1_0 - a2)), .int .i64 (wrap64 (a1_1 + a3))], .int .i64 a4] (by rfl) rfl rfl (by (try simp only [List.map_toArray, List.map_cons, List.map_nil]); first | done | rfl | (simp only [List.length_drop, List.length_take]; rfl)) ?_
             with_reducible refine (carry_Way.calls kj7 a0_0 a0_1 a0_2 a0_3 a0_4 a0_5 a0_6 a0_7 a0_8 a0_9 a0_10 a0_11 (wrap64 (a1_0 - a2)) (wrap64 (a1_1 + a3)) a4 t222 t223 _ A54.1).mono ?_
             rintro e w80 ⟨rfl, hb⟩
             refine ⟨_, rfl, ?_⟩
             have n0_ := bb hb B0_.1
             have n1_ := bb hb B1_.1
             have n2_ := bb hb B2_.1
             have n3_ := bb hb B3_.1
             have n4_ := bb hb B4_.1
             have n5_ := bb hb B5_.1
             have n6_ := mk (below_step (by repeat first | exact HB.1 | apply pD) hb)
             clear B0_ B1_ B2_ B3_ B4_ B5_ HB
             have B0_ := n0_
             have B1_ := n1_
             have B2_ := n2_
             have B3_ := n3_
             have B4_ := n4_
             have B5_ := n5_
             have HB := n6_
             clear n0_ n1_ n2_ n3_ n4_ n5_ n6_
             (try clear hb)
             (try clear hb2)
             (try clear hk)
             (try clear hi)
             refine hK.out _ _ (c12t B0_.1 ⟨bt B1_.1 0, bt B1_.1 1, bt B2_.1 0, bt B2_.1 1⟩) (fun hHeld => ?_)
             clear hK K
             refine norm_ (a' := ?_) ?_ ?_
             rotate_left
             ·show Act.put _ (some 79) _ = _
              simp only [Act.put, List.setIfInBounds_toArray, List.set_cons_zero, List.set_cons_succ, i64_w, i32_w]
              rfl
             exact norm_ (by simp only [putAll, Act.put, List.setIfInBounds_toArray, List.set_cons_zero, List.set_cons_succ] <;> rfl) (hJ3_7_8 (g5_) _ ⟨hHeld, (by exact B0_.1), (by exact B1_.1), (by exact B2_.1), (by exact B3_.1), (by exact B4_.1), (by exact B5_.1), W5_.1, E5_.1, N05_.1, N50_.1, N15_.1, N51_.1, N25_.1, N52_.1, N35_.1, N53_.1, N45_.1, N54_.1, (by repeat (first | (with_reducible first | exact HB.1 | apply bA | apply pD | apply b1 | apply bS E0_.1 | apply bS E1_.1 | apply bS E2_.1 | apply bS E3_.1 | apply bS E4_.1 | apply bS E5_.1) | exact HB.1))⟩)
            skip
            refine box_step ?hg (N := 17) ?hd (cs := #[.int .i64 0, .int .i64 0]) (t := 25) ?hr ?_; (case hd => rfl); (case hg => rfl); (case hr => first | (go_simp; done) | (go_simp; rfl))
            intro g6_ hg w80 hbox hb
            have n0_ := bb hb B0_.1
            have n1_ := bb hb B1_.1
            have n2_ := bb hb B2_.1
            have n3_ := bb hb B3_.1
            have n4_ := bb hb B4_.1
            have n5_ := bb hb B5_.1
            have n6_ := mk (below_step (by repeat first | exact HB.1 | apply pD) hb)
            have B6_ := mk (hbox)
            have W6_ := gl hg (by repeat first | exact HB.1 | apply pD)
            have E6_ := gl hg (by repeat first | exact HB.1 | apply pD)
            have N06_ := nl hg B0_.1
            have N60_ := ng hg B0_.1
            have N16_ := nl hg B1_.1
            have N61_ := ng hg B1_.1
            have N26_ := nl hg B2_.1
            have N62_ := ng hg B2_.1
            have N36_ := nl hg B3_.1
            have N63_ := ng hg B3_.1
            have N46_ := nl hg B4_.1
            have N64_ := ng hg B4_.1
            have N56_ := nl hg B5_.1
            have N65_ := ng hg B5_.1
            clear B0_ B1_ B2_ B3_ B4_ B5_ HB
            have B0_ := n0_
            have B1_ := n1_
            have B2_ := n2_
            have B3_ := n3_
            have B4_ := n4_
            have B5_ := n5_
            have HB := n6_
            clear n0_ n1_ n2_ n3_ n4_ n5_ n6_ hb hbox hg
            refine hK.out _ _ (c12t B0_.1 ⟨bt B1_.1 0, bt B1_.1 1, bt B2_.1 0, bt B2_.1 1⟩) (fun hHeld => ?_)
            clear hK K
            refine norm_ (a' := ?_) ?_ ?_
            rotate_left
            ·show Act.put _ (some 17) _ = _
             simp only [Act.put, List.setIfInBounds_toArray, List.set_cons_zero, List.set_cons_succ, i64_w, i32_w]
             rfl
            exact norm_ (by simp only [putAll, Act.put, List.setIfInBounds_toArray, List.set_cons_zero, List.set_cons_succ] <;> rfl) (hJ3_8_9 (g5_, g6_) _ ⟨hHeld, (by exact B0_.1), (by exact B1_.1), (by exact B2_.1), (by exact B3_.1), (by exact B4_.1), (by exact B5_.1), (by exact B6_.1), W5_.1, E5_.1, N05_.1, N50_.1, N15_.1, N51_.1, N25_.1, N52_.1, N35_.1, N53_.1, N45_.1, N54_.1, N65_.1, N56_.1, W6_.1, E6_.1, N06_.1, N60_.1, N16_.1, N61_.1, N26_.1, N62_.1, N36_.1, N63_.1, N46_.1, N64_.1, (by repeat (first | (with_reducible first | exact HB.1 | apply bA | apply pD | apply b1 | apply bS E0_.1 | apply bS E1_.1 | apply bS E2_.1 | apply bS E3_.1 | apply bS E4_.1 | apply bS E5_.1 | apply bS E6_.1) | exact HB.1))⟩)
           skip
           rintro _ w79 ⟨hS_, h0_, h1_, h2_, h3_, h4_, h5_⟩
           have n0_ : Aside0 (w79.heap[g0_]? = some (.cells #[.int .i64 a0_0, .int .i64 a0_1, .int .i64 a0_2, .int .i64 a0_3, .int .i64 a0_4, .int .i64 a0_5, .int .i64 a0_6, .int .i64 a0_7, .int .i64 a0_8, .int .i64 a0_9, .int .i64 a0_10, .int .i64 a0_11] 23 (0, 0))) := ⟨h0_⟩
           have n1_ : Aside0 (w79.heap[g1_]? = some (.cells #[.int .i64 a1_0, .int .i64 a1_1] 25 (0, 0))) := ⟨h1_⟩
           have n2_ : Aside0 (w79.heap[g2_]? = some (.cells #[.int .i64 (wrap64 (a1_0 - a2)), .int .i64 (wrap64 (a1_1 + a3))] 25 (0, 0))) := ⟨h2_⟩
           have n3_ : Aside0 (w79.heap[g3_]? = some (.cells #[.int .i64 t214, .int .i64 t215] 25 (0, 0))) := ⟨h3_⟩
           have n4_ : Aside0 (w79.heap[g4_]? = some (.cells #[.int .i64 t216, .int .i64 t217] 25 (0, 0))) := ⟨h4_⟩
           have n5_ : Aside0 (Below w.heap.size w w79) := ⟨h5_⟩
           clear B0_ B1_ B2_ B3_ B4_ HB h0_ h1_ h2_ h3_ h4_ h5_
           have B0_ := n0_
           have B1_ := n1_
           have B2_ := n2_
           have B3_ := n3_
           have B4_ := n4_
           have HB := n5_
           clear n0_ n1_ n2_ n3_ n4_ n5_
           have hHeld := hS_
           try dsimp only at hHeld
           refine norm_ (a' := ?_) ?_ ?_
           rotate_left
           ·simp only [putAll, Act.put, List.setIfInBounds_toArray, List.set_cons_zero, List.set_cons_succ]
            rfl
           refine two_ (i := 8) (j := 9) (Ni := some 16) (Nj := some 17) #[true, true, true, true, true, true, true, true, true, false, false, false] #[true, true, true, true, true, true, true, true, false, true, false, false] rfl rfl rfl rfl (two_of HT_.out (by kernel_rfl)) (by decide) (by decide) (fun K hK => ?_) (fun K hK => ?_)
           ·skip
            refine box_step ?hg (N := 16) ?hd (cs := #[.int .i64 0, .int .i64 0]) (t := 25) ?hr ?_; (case hd => rfl); (case hg => rfl); (case hr => first | (go_simp; done) | (go_simp; rfl))
            intro g5_ hg w80 hbox hb
            have n0_ := bb hb B0_.1
            have n1_ := bb hb B1_.1
            have n2_ := bb hb B2_.1
            have n3_ := bb hb B3_.1
            have n4_ := bb hb B4_.1
            have n5_ := mk (below_step (by repeat first | exact HB.1 | apply pD) hb)
            have B5_ := mk (hbox)
            have W5_ := gl hg (by repeat first | exact HB.1 | apply pD)
            have E5_ := gl hg (by repeat first | exact HB.1 | apply pD)
            have N05_ := nl hg B0_.1
            have N50_ := ng hg B0_.1
            have N15_ := nl hg B1_.1
            have N51_ := ng hg B1_.1
            have N25_ := nl hg B2_.1
            have N52_ := ng hg B2_.1
            have N35_ := nl hg B3_.1
            have N53_ := ng hg B3_.1
            have N45_ := nl hg B4_.1
            have N54_ := ng hg B4_.1
            clear B0_ B1_ B2_ B3_ B4_ HB
            have B0_ := n0_
            have B1_ := n1_
            have B2_ := n2_
            have B3_ := n3_
            have B4_ := n4_
            have HB := n5_
            clear n0_ n1_ n2_ n3_ n4_ n5_ hb hbox hg
            refine hK.out _ _ (c12t B0_.1 ⟨bt B1_.1 0, bt B1_.1 1, bt B2_.1 0, bt B2_.1 1⟩) (fun hHeld => ?_)
            clear hK K
            refine norm_ (a' := ?_) ?_ ?_
            rotate_left
            ·show Act.put _ (some 16) _ = _
             simp only [Act.put, List.setIfInBounds_toArray, List.set_cons_zero, List.set_cons_succ, i64_w, i32_w]
             rfl
            exact norm_ (by simp only [putAll, Act.put, List.setIfInBounds_toArray, List.set_cons_zero, List.set_cons_succ] <;> rfl) (hJ3_7_8 (g5_) _ ⟨hHeld, (by exact B0_.1), (by exact B1_.1), (by exact B2_.1), (by exact B3_.1), (by exact B4_.1), (by exact B5_.1), W5_.1, E5_.1, N05_.1, N50_.1, N15_.1, N51_.1, N25_.1, N52_.1, N35_.1, N53_.1, N45_.1, N54_.1, (by repeat (first | (with_reducible first | exact HB.1 | apply bA | apply pD | apply b1 | apply bS E0_.1 | apply bS E1_.1 | apply bS E2_.1 | apply bS E3_.1 | apply bS E4_.1 | apply bS E5_.1) | exact HB.1))⟩)
           skip
           refine box_step ?hg (N := 17) ?hd (cs := #[.int .i64 0, .int .i64 0]) (t := 25) ?hr ?_; (case hd => rfl); (case hg => rfl); (case hr => first | (go_simp; done) | (go_simp; rfl))
           intro g6_ hg w80 hbox hb
           have n0_ := bb hb B0_.1
           have n1_ := bb hb B1_.1
           have n2_ := bb hb B2_.1
           have n3_ := bb hb B3_.1
           have n4_ := bb hb B4_.1
           have n5_ := mk (below_step (by repeat first | exact HB.1 | apply pD) hb)
           have B6_ := mk (hbox)
           have W6_ := gl hg (by repeat first | exact HB.1 | apply pD)
           have E6_ := gl hg (by repeat first | exact HB.1 | apply pD)
           have N06_ := nl hg B0_.1
           have N60_ := ng hg B0_.1
           have N16_ := nl hg B1_.1
           have N61_ := ng hg B1_.1
           have N26_ := nl hg B2_.1
           have N62_ := ng hg B2_.1
           have N36_ := nl hg B3_.1
           have N63_ := ng hg B3_.1
           have N46_ := nl hg B4_.1
           have N64_ := ng hg B4_.1
           clear B0_ B1_ B2_ B3_ B4_ HB
           have B0_ := n0_
           have B1_ := n1_
           have B2_ := n2_
           have B3_ := n3_
           have B4_ := n4_
           have HB := n5_
           clear n0_ n1_ n2_ n3_ n4_ n5_ hb hbox hg
           refine hK.out _ _ (c12t B0_.1 ⟨bt B1_.1 0, bt B1_.1 1, bt B2_.1 0, bt B2_.1 1⟩) (fun hHeld => ?_)
           clear hK K
           refine norm_ (a' := ?_) ?_ ?_
           rotate_left
           ·show Act.put _ (some 17) _ = _
            simp only [Act.put, List.setIfInBounds_toArray, List.set_cons_zero, List.set_cons_succ, i64_w, i32_w]
            rfl
           exact norm_ (by simp only [putAll, Act.put, List.setIfInBounds_toArray, List.set_cons_zero, List.set_cons_succ] <;> rfl) (hJ3_7_9 (g6_) _ ⟨hHeld, (by exact B0_.1), (by exact B1_.1), (by exact B2_.1), (by exact B3_.1), (by exact B4_.1), (by exact B6_.1), W6_.1, E6_.1, N06_.1, N60_.1, N16_.1, N61_.1, N26_.1, N62_.1, N36_.1, N63_.1, N46_.1, N64_.1, (by repeat (first | (with_reducible first | exact HB.1 | apply bA | apply pD | apply b1 | apply bS E0_.1 | apply bS E1_.1 | apply bS E2_.1 | apply bS E3_.1 | apply bS E4_.1 | apply bS E6_.1) | exact HB.1))⟩)
          skip
          rintro ⟨g5_, g6_⟩ w80 ⟨hS_, h0_, h1_, h2_, h3_, h4_, h5_, h6_, h7_, h8_, h9_, h10_, h11_, h12_, h13_, h14_, h15_, h16_, h17_, h18_, h19_, h20_, h21_, h22_, h23_, h24_, h25_, h26_, h27_, h28_, h29_, h30_, h31_, h32_, h33_⟩
          have n0_ : Aside0 (w80.heap[g0_]? = some (.cells #[.int .i64 a0_0, .int .i64 a0_1, .int .i64 a0_2, .int .i64 a0_3, .int .i64 a0_4, .int .i64 a0_5, .int .i64 a0_6, .int .i64 a0_7, .int .i64 a0_8, .int .i64 a0_9, .int .i64 a0_10, .int .i64 a0_11] 23 (0, 0))) := ⟨h0_⟩
          have n1_ : Aside0 (w80.heap[g1_]? = some (.cells #[.int .i64 a1_0, .int .i64 a1_1] 25 (0, 0))) := ⟨h1_⟩
          have n2_ : Aside0 (w80.heap[g2_]? = some (.cells #[.int .i64 (wrap64 (a1_0 - a2)), .int .i64 (wrap64 (a1_1 + a3))] 25 (0, 0))) := ⟨h2_⟩
          have n3_ : Aside0 (w80.heap[g3_]? = some (.cells #[.int .i64 t214, .int .i64 t215] 25 (0, 0))) := ⟨h3_⟩
          have n4_ : Aside0 (w80.heap[g4_]? = some (.cells #[.int .i64 t216, .int .i64 t217] 25 (0, 0))) := ⟨h4_⟩
          have B5_ : Aside0 (w80.heap[g5_]? = some (.cells #[.int .i64 0, .int .i64 0] 25 (0, 0))) := ⟨h5_⟩
          have B6_ : Aside0 (w80.heap[g6_]? = some (.cells #[.int .i64 0, .int .i64 0] 25 (0, 0))) := ⟨h6_⟩
          have W5_ : Aside0 (w.heap.size ≤ g5_) := ⟨h7_⟩
          have E5_ : Aside0 (w.heap.size ≤ g5_) := ⟨h8_⟩
          have N05_ : Aside0 (g0_ ≠ g5_) := ⟨h9_⟩
          have N50_ : Aside0 (g5_ ≠ g0_) := ⟨h10_⟩
          have N15_ : Aside0 (g1_ ≠ g5_) := ⟨h11_⟩
          have N51_ : Aside0 (g5_ ≠ g1_) := ⟨h12_⟩
          have N25_ : Aside0 (g2_ ≠ g5_) := ⟨h13_⟩
          have N52_ : Aside0 (g5_ ≠ g2_) := ⟨h14_⟩
          have N35_ : Aside0 (g3_ ≠ g5_) := ⟨h15_⟩
          have N53_ : Aside0 (g5_ ≠ g3_) := ⟨h16_⟩
          have N45_ : Aside0 (g4_ ≠ g5_) := ⟨h17_⟩
          have N54_ : Aside0 (g5_ ≠ g4_) := ⟨h18_⟩
          have N65_ : Aside0 (g6_ ≠ g5_) := ⟨h19_⟩
          have N56_ : Aside0 (g5_ ≠ g6_) := ⟨h20_⟩
          have W6_ : Aside0 (w.heap.size ≤ g6_) := ⟨h21_⟩
          have E6_ : Aside0 (w.heap.size ≤ g6_) := ⟨h22_⟩
          have N06_ : Aside0 (g0_ ≠ g6_) := ⟨h23_⟩
          have N60_ : Aside0 (g6_ ≠ g0_) := ⟨h24_⟩
          have N16_ : Aside0 (g1_ ≠ g6_) := ⟨h25_⟩
          have N61_ : Aside0 (g6_ ≠ g1_) := ⟨h26_⟩
          have N26_ : Aside0 (g2_ ≠ g6_) := ⟨h27_⟩
          have N62_ : Aside0 (g6_ ≠ g2_) := ⟨h28_⟩
          have N36_ : Aside0 (g3_ ≠ g6_) := ⟨h29_⟩
          have N63_ : Aside0 (g6_ ≠ g3_) := ⟨h30_⟩
          have N46_ : Aside0 (g4_ ≠ g6_) := ⟨h31_⟩
          have N64_ : Aside0 (g6_ ≠ g4_) := ⟨h32_⟩
          have n33_ : Aside0 (Below w.heap.size w w80) := ⟨h33_⟩
          clear B0_ B1_ B2_ B3_ B4_ HB h0_ h1_ h2_ h3_ h4_ h5_ h6_ h7_ h8_ h9_ h10_ h11_ h12_ h13_ h14_ h15_ h16_ h17_ h18_ h19_ h20_ h21_ h22_ h23_ h24_ h25_ h26_ h27_ h28_ h29_ h30_ h31_ h32_ h33_
          have B0_ := n0_
          have B1_ := n1_
          have B2_ := n2_
          have B3_ := n3_
          have B4_ := n4_
          have HB := n33_
          clear n0_ n1_ n2_ n3_ n4_ n33_
          have hHeld := hS_
          try dsimp only at hHeld
          refine norm_ (a' := ?_) ?_ ?_
          rotate_left
          ·simp only [putAll, Act.put, List.setIfInBounds_toArray, List.set_cons_zero, List.set_cons_succ]
           rfl
          refine one_ (i := 7) (N := some 79) #[true, true, true, true, true, true, true, true, true, true, false, false] rfl rfl (one_of HT_.out (by kernel_rfl)) (by decide) (fun K hK => ?_)
          refine goes_ Try.func18 (by kernel_rfl) rfl #[.agg #[.int .i64 a0_0, .int .i64 a0_1, .int .i64 a0_2, .int .i64 a0_3, .int .i64 a0_4, .int .i64 a0_5, .int .i64 a0_6, .int .i64 a0_7, .int .i64 a0_8, .int .i64 a0_9, .int .i64 a0_10, .int .i64 a0_11], .agg #[.int .i64 (wrap64 (a1_0 - a2)), .int .i64 (wrap64 (a1_1 + a3))], .int .i64 a4] (by rfl) rfl rfl (by (try simp only [List.map_toArray, List.map_cons, List.map_nil]); first | done | rfl | (simp only [List.length_drop, List.length_take]; rfl)) ?_
          with_reducible refine (carry_Way.calls kj7 a0_0 a0_1 a0_2 a0_3 a0_4 a0_5 a0_6 a0_7 a0_8 a0_9 a0_10 a0_11 (wrap64 (a1_0 - a2)) (wrap64 (a1_1 + a3)) a4 t222 t223 _ A54.1).mono ?_
          rintro e w81 ⟨rfl, hb⟩
          refine ⟨_, rfl, ?_⟩
          have n0_ := bb hb B0_.1
          have n1_ := bb hb B1_.1
          have n2_ := bb hb B2_.1
          have n3_ := bb hb B3_.1
          have n4_ := bb hb B4_.1
          have n5_ := bb hb B5_.1
          have n6_ := bb hb B6_.1
          have n7_ := mk (below_step (by repeat first | exact HB.1 | apply pD) hb)
          clear B0_ B1_ B2_ B3_ B4_ B5_ B6_ HB
          have B0_ := n0_
          have B1_ := n1_
          have B2_ := n2_
          have B3_ := n3_
          have B4_ := n4_
          have B5_ := n5_
          have B6_ := n6_
          have HB := n7_
          clear n0_ n1_ n2_ n3_ n4_ n5_ n6_ n7_
          (try clear hb)
          (try clear hb2)
          (try clear hk)
          (try clear hi)
          refine hK.out _ _ (c12t B0_.1 ⟨bt B1_.1 0, bt B1_.1 1, bt B2_.1 0, bt B2_.1 1⟩) (fun hHeld => ?_)
          clear hK K
          refine norm_ (a' := ?_) ?_ ?_
          rotate_left
          ·show Act.put _ (some 79) _ = _
           simp only [Act.put, List.setIfInBounds_toArray, List.set_cons_zero, List.set_cons_succ, i64_w, i32_w]
           rfl
          exact norm_ (by simp only [putAll, Act.put, List.setIfInBounds_toArray, List.set_cons_zero, List.set_cons_succ] <;> rfl) (hJ3_7_8_9 (g5_, g6_) _ ⟨hHeld, (by exact B0_.1), (by exact B1_.1), (by exact B2_.1), (by exact B3_.1), (by exact B4_.1), (by exact B5_.1), (by exact B6_.1), W5_.1, E5_.1, N05_.1, N50_.1, N15_.1, N51_.1, N25_.1, N52_.1, N35_.1, N53_.1, N45_.1, N54_.1, N65_.1, N56_.1, W6_.1, E6_.1, N06_.1, N60_.1, N16_.1, N61_.1, N26_.1, N62_.1, N36_.1, N63_.1, N46_.1, N64_.1, (by repeat (first | (with_reducible first | exact HB.1 | apply bA | apply pD | apply b1 | apply bS E0_.1 | apply bS E1_.1 | apply bS E2_.1 | apply bS E3_.1 | apply bS E4_.1 | apply bS E5_.1 | apply bS E6_.1) | exact HB.1))⟩)
         skip
         rintro g6_ w80 ⟨hS_, h0_, h1_, h2_, h3_, h4_, h5_, h6_, h7_, h8_, h9_, h10_, h11_, h12_, h13_, h14_, h15_, h16_, h17_, h18_⟩
         have n0_ : Aside0 (w80.heap[g0_]? = some (.cells #[.int .i64 a0_0, .int .i64 a0_1, .int .i64 a0_2, .int .i64 a0_3, .int .i64 a0_4, .int .i64 a0_5, .int .i64 a0_6, .int .i64 a0_7, .int .i64 a0_8, .int .i64 a0_9, .int .i64 a0_10, .int .i64 a0_11] 23 (0, 0))) := ⟨h0_⟩
         have n1_ : Aside0 (w80.heap[g1_]? = some (.cells #[.int .i64 a1_0, .int .i64 a1_1] 25 (0, 0))) := ⟨h1_⟩
         have n2_ : Aside0 (w80.heap[g2_]? = some (.cells #[.int .i64 (wrap64 (a1_0 - a2)), .int .i64 (wrap64 (a1_1 + a3))] 25 (0, 0))) := ⟨h2_⟩
         have n3_ : Aside0 (w80.heap[g3_]? = some (.cells #[.int .i64 t214, .int .i64 t215] 25 (0, 0))) := ⟨h3_⟩
         have n4_ : Aside0 (w80.heap[g4_]? = some (.cells #[.int .i64 t216, .int .i64 t217] 25 (0, 0))) := ⟨h4_⟩
         have B6_ : Aside0 (w80.heap[g6_]? = some (.cells #[.int .i64 0, .int .i64 0] 25 (0, 0))) := ⟨h5_⟩
         have W6_ : Aside0 (w.heap.size ≤ g6_) := ⟨h6_⟩
         have E6_ : Aside0 (w.heap.size ≤ g6_) := ⟨h7_⟩
         have N06_ : Aside0 (g0_ ≠ g6_) := ⟨h8_⟩
         have N60_ : Aside0 (g6_ ≠ g0_) := ⟨h9_⟩
         have N16_ : Aside0 (g1_ ≠ g6_) := ⟨h10_⟩
         have N61_ : Aside0 (g6_ ≠ g1_) := ⟨h11_⟩
         have N26_ : Aside0 (g2_ ≠ g6_) := ⟨h12_⟩
         have N62_ : Aside0 (g6_ ≠ g2_) := ⟨h13_⟩
         have N36_ : Aside0 (g3_ ≠ g6_) := ⟨h14_⟩
         have N63_ : Aside0 (g6_ ≠ g3_) := ⟨h15_⟩
         have N46_ : Aside0 (g4_ ≠ g6_) := ⟨h16_⟩
         have N64_ : Aside0 (g6_ ≠ g4_) := ⟨h17_⟩
         have n18_ : Aside0 (Below w.heap.size w w80) := ⟨h18_⟩
         clear B0_ B1_ B2_ B3_ B4_ HB h0_ h1_ h2_ h3_ h4_ h5_ h6_ h7_ h8_ h9_ h10_ h11_ h12_ h13_ h14_ h15_ h16_ h17_ h18_
         have B0_ := n0_
         have B1_ := n1_
         have B2_ := n2_
         have B3_ := n3_
         have B4_ := n4_
         have HB := n18_
         clear n0_ n1_ n2_ n3_ n4_ n18_
         have hHeld := hS_
         try dsimp only at hHeld
         refine norm_ (a' := ?_) ?_ ?_
         rotate_left
         ·simp only [putAll, Act.put, List.setIfInBounds_toArray, List.set_cons_zero, List.set_cons_succ]
          rfl
         refine one_ (i := 8) (N := some 16) #[true, true, true, true, true, true, true, true, true, true, false, false] rfl rfl (one_of HT_.out (by kernel_rfl)) (by decide) (fun K hK => ?_)
         refine box_step ?hg (N := 16) ?hd (cs := #[.int .i64 0, .int .i64 0]) (t := 25) ?hr ?_; (case hd => rfl); (case hg => rfl); (case hr => first | (go_simp; done) | (go_simp; rfl))
         intro g5_ hg w81 hbox hb
         have n0_ := bb hb B0_.1
         have n1_ := bb hb B1_.1
         have n2_ := bb hb B2_.1
         have n3_ := bb hb B3_.1
         have n4_ := bb hb B4_.1
         have n5_ := bb hb B6_.1
         have n6_ := mk (below_step (by repeat first | exact HB.1 | apply pD) hb)
         have B5_ := mk (hbox)
         have W5_ := gl hg (by repeat first | exact HB.1 | apply pD)
         have E5_ := gl hg (by repeat first | exact HB.1 | apply pD)
         have N05_ := nl hg B0_.1
         have N50_ := ng hg B0_.1
         have N15_ := nl hg B1_.1
         have N51_ := ng hg B1_.1
         have N25_ := nl hg B2_.1
         have N52_ := ng hg B2_.1
         have N35_ := nl hg B3_.1
         have N53_ := ng hg B3_.1
         have N45_ := nl hg B4_.1
         have N54_ := ng hg B4_.1
         have N65_ := nl hg B6_.1
         have N56_ := ng hg B6_.1
         clear B0_ B1_ B2_ B3_ B4_ B6_ HB
         have B0_ := n0_
         have B1_ := n1_
         have B2_ := n2_
         have B3_ := n3_
         have B4_ := n4_
         have B6_ := n5_
         have HB := n6_
         clear n0_ n1_ n2_ n3_ n4_ n5_ n6_ hb hbox hg
         refine hK.out _ _ (c12t B0_.1 ⟨bt B1_.1 0, bt B1_.1 1, bt B2_.1 0, bt B2_.1 1⟩) (fun hHeld => ?_)
         clear hK K
         refine norm_ (a' := ?_) ?_ ?_
         rotate_left
         ·show Act.put _ (some 16) _ = _
          simp only [Act.put, List.setIfInBounds_toArray, List.set_cons_zero, List.set_cons_succ, i64_w, i32_w]
          rfl
         exact norm_ (by simp only [putAll, Act.put, List.setIfInBounds_toArray, List.set_cons_zero, List.set_cons_succ] <;> rfl) (hJ3_7_8_9 (g5_, g6_) _ ⟨hHeld, (by exact B0_.1), (by exact B1_.1), (by exact B2_.1), (by exact B3_.1), (by exact B4_.1), (by exact B5_.1), (by exact B6_.1), W5_.1, E5_.1, N05_.1, N50_.1, N15_.1, N51_.1, N25_.1, N52_.1, N35_.1, N53_.1, N45_.1, N54_.1, N65_.1, N56_.1, W6_.1, E6_.1, N06_.1, N60_.1, N16_.1, N61_.1, N26_.1, N62_.1, N36_.1, N63_.1, N46_.1, N64_.1, (by repeat (first | (with_reducible first | exact HB.1 | apply bA | apply pD | apply b1 | apply bS E0_.1 | apply bS E1_.1 | apply bS E2_.1 | apply bS E3_.1 | apply bS E4_.1 | apply bS E6_.1 | apply bS E5_.1) | exact HB.1))⟩)
        skip
        rintro g5_ w80 ⟨hS_, h0_, h1_, h2_, h3_, h4_, h5_, h6_, h7_, h8_, h9_, h10_, h11_, h12_, h13_, h14_, h15_, h16_, h17_, h18_⟩
        have n0_ : Aside0 (w80.heap[g0_]? = some (.cells #[.int .i64 a0_0, .int .i64 a0_1, .int .i64 a0_2, .int .i64 a0_3, .int .i64 a0_4, .int .i64 a0_5, .int .i64 a0_6, .int .i64 a0_7, .int .i64 a0_8, .int .i64 a0_9, .int .i64 a0_10, .int .i64 a0_11] 23 (0, 0))) := ⟨h0_⟩
        have n1_ : Aside0 (w80.heap[g1_]? = some (.cells #[.int .i64 a1_0, .int .i64 a1_1] 25 (0, 0))) := ⟨h1_⟩
        have n2_ : Aside0 (w80.heap[g2_]? = some (.cells #[.int .i64 (wrap64 (a1_0 - a2)), .int .i64 (wrap64 (a1_1 + a3))] 25 (0, 0))) := ⟨h2_⟩
        have n3_ : Aside0 (w80.heap[g3_]? = some (.cells #[.int .i64 t214, .int .i64 t215] 25 (0, 0))) := ⟨h3_⟩
        have n4_ : Aside0 (w80.heap[g4_]? = some (.cells #[.int .i64 t216, .int .i64 t217] 25 (0, 0))) := ⟨h4_⟩
        have B5_ : Aside0 (w80.heap[g5_]? = some (.cells #[.int .i64 0, .int .i64 0] 25 (0, 0))) := ⟨h5_⟩
        have W5_ : Aside0 (w.heap.size ≤ g5_) := ⟨h6_⟩
        have E5_ : Aside0 (w.heap.size ≤ g5_) := ⟨h7_⟩
        have N05_ : Aside0 (g0_ ≠ g5_) := ⟨h8_⟩
        have N50_ : Aside0 (g5_ ≠ g0_) := ⟨h9_⟩
        have N15_ : Aside0 (g1_ ≠ g5_) := ⟨h10_⟩
        have N51_ : Aside0 (g5_ ≠ g1_) := ⟨h11_⟩
        have N25_ : Aside0 (g2_ ≠ g5_) := ⟨h12_⟩
        have N52_ : Aside0 (g5_ ≠ g2_) := ⟨h13_⟩
        have N35_ : Aside0 (g3_ ≠ g5_) := ⟨h14_⟩
        have N53_ : Aside0 (g5_ ≠ g3_) := ⟨h15_⟩
        have N45_ : Aside0 (g4_ ≠ g5_) := ⟨h16_⟩
        have N54_ : Aside0 (g5_ ≠ g4_) := ⟨h17_⟩
        have n18_ : Aside0 (Below w.heap.size w w80) := ⟨h18_⟩
        clear B0_ B1_ B2_ B3_ B4_ HB h0_ h1_ h2_ h3_ h4_ h5_ h6_ h7_ h8_ h9_ h10_ h11_ h12_ h13_ h14_ h15_ h16_ h17_ h18_
        have B0_ := n0_
        have B1_ := n1_
        have B2_ := n2_
        have B3_ := n3_
        have B4_ := n4_
        have HB := n18_
        clear n0_ n1_ n2_ n3_ n4_ n18_
        have hHeld := hS_
        try dsimp only at hHeld
        refine norm_ (a' := ?_) ?_ ?_
        rotate_left
        ·simp only [putAll, Act.put, List.setIfInBounds_toArray, List.set_cons_zero, List.set_cons_succ]
         rfl
        refine one_ (i := 9) (N := some 17) #[true, true, true, true, true, true, true, true, true, true, false, false] rfl rfl (one_of HT_.out (by kernel_rfl)) (by decide) (fun K hK => ?_)
        refine box_step ?hg (N := 17) ?hd (cs := #[.int .i64 0, .int .i64 0]) (t := 25) ?hr ?_; (case hd => rfl); (case hg => rfl); (case hr => first | (go_simp; done) | (go_simp; rfl))
        intro g6_ hg w81 hbox hb
        have n0_ := bb hb B0_.1
        have n1_ := bb hb B1_.1
        have n2_ := bb hb B2_.1
        have n3_ := bb hb B3_.1
        have n4_ := bb hb B4_.1
        have n5_ := bb hb B5_.1
        have n6_ := mk (below_step (by repeat first | exact HB.1 | apply pD) hb)
        have B6_ := mk (hbox)
        have W6_ := gl hg (by repeat first | exact HB.1 | apply pD)
        have E6_ := gl hg (by repeat first | exact HB.1 | apply pD)
        have N06_ := nl hg B0_.1
        have N60_ := ng hg B0_.1
        have N16_ := nl hg B1_.1
        have N61_ := ng hg B1_.1
        have N26_ := nl hg B2_.1
        have N62_ := ng hg B2_.1
        have N36_ := nl hg B3_.1
        have N63_ := ng hg B3_.1
        have N46_ := nl hg B4_.1
        have N64_ := ng hg B4_.1
        have N56_ := nl hg B5_.1
        have N65_ := ng hg B5_.1
        clear B0_ B1_ B2_ B3_ B4_ B5_ HB
        have B0_ := n0_
        have B1_ := n1_
        have B2_ := n2_
        have B3_ := n3_
        have B4_ := n4_
        have B5_ := n5_
        have HB := n6_
        clear n0_ n1_ n2_ n3_ n4_ n5_ n6_ hb hbox hg
        refine hK.out _ _ (c12t B0_.1 ⟨bt B1_.1 0, bt B1_.1 1, bt B2_.1 0, bt B2_.1 1⟩) (fun hHeld => ?_)
        clear hK K
        refine norm_ (a' := ?_) ?_ ?_
        rotate_left
        ·show Act.put _ (some 17) _ = _
         simp only [Act.put, List.setIfInBounds_toArray, List.set_cons_zero, List.set_cons_succ, i64_w, i32_w]
         rfl
        exact norm_ (by simp only [putAll, Act.put, List.setIfInBounds_toArray, List.set_cons_zero, List.set_cons_succ] <;> rfl) (hJ3_7_8_9 (g5_, g6_) _ ⟨hHeld, (by exact B0_.1), (by exact B1_.1), (by exact B2_.1), (by exact B3_.1), (by exact B4_.1), (by exact B5_.1), (by exact B6_.1), W5_.1, E5_.1, N05_.1, N50_.1, N15_.1, N51_.1, N25_.1, N52_.1, N35_.1, N53_.1, N45_.1, N54_.1, N65_.1, N56_.1, W6_.1, E6_.1, N06_.1, N60_.1, N16_.1, N61_.1, N26_.1, N62_.1, N36_.1, N63_.1, N46_.1, N64_.1, (by repeat (first | (with_reducible first | exact HB.1 | apply bA | apply pD | apply b1 | apply bS E0_.1 | apply bS E1_.1 | apply bS E2_.1 | apply bS E3_.1 | apply bS E4_.1 | apply bS E5_.1 | apply bS E6_.1) | exact HB.1))⟩)
       rintro ⟨g5_, g6_⟩ w81 ⟨hS_, h0_, h1_, h2_, h3_, h4_, h5_, h6_, h7_, h8_, h9_, h10_, h11_, h12_, h13_, h14_, h15_, h16_, h17_, h18_, h19_, h20_, h21_, h22_, h23_, h24_, h25_, h26_, h27_, h28_, h29_, h30_, h31_, h32_, h33_⟩
       have n0_ : Aside0 (w81.heap[g0_]? = some (.cells #[.int .i64 a0_0, .int .i64 a0_1, .int .i64 a0_2, .int .i64 a0_3, .int .i64 a0_4, .int .i64 a0_5, .int .i64 a0_6, .int .i64 a0_7, .int .i64 a0_8, .int .i64 a0_9, .int .i64 a0_10, .int .i64 a0_11] 23 (0, 0))) := ⟨h0_⟩
       have n1_ : Aside0 (w81.heap[g1_]? = some (.cells #[.int .i64 a1_0, .int .i64 a1_1] 25 (0, 0))) := ⟨h1_⟩
       have n2_ : Aside0 (w81.heap[g2_]? = some (.cells #[.int .i64 (wrap64 (a1_0 - a2)), .int .i64 (wrap64 (a1_1 + a3))] 25 (0, 0))) := ⟨h2_⟩
       have n3_ : Aside0 (w81.heap[g3_]? = some (.cells #[.int .i64 t214, .int .i64 t215] 25 (0, 0))) := ⟨h3_⟩
       have n4_ : Aside0 (w81.heap[g4_]? = some (.cells #[.int .i64 t216, .int .i64 t217] 25 (0, 0))) := ⟨h4_⟩
       have B5_ : Aside0 (w81.heap[g5_]? = some (.cells #[.int .i64 0, .int .i64 0] 25 (0, 0))) := ⟨h5_⟩
       have B6_ : Aside0 (w81.heap[g6_]? = some (.cells #[.int .i64 0, .int .i64 0] 25 (0, 0))) := ⟨h6_⟩
       have W5_ : Aside0 (w.heap.size ≤ g5_) := ⟨h7_⟩
       have E5_ : Aside0 (w.heap.size ≤ g5_) := ⟨h8_⟩
       have N05_ : Aside0 (g0_ ≠ g5_) := ⟨h9_⟩
       have N50_ : Aside0 (g5_ ≠ g0_) := ⟨h10_⟩
       have N15_ : Aside0 (g1_ ≠ g5_) := ⟨h11_⟩
       have N51_ : Aside0 (g5_ ≠ g1_) := ⟨h12_⟩
       have N25_ : Aside0 (g2_ ≠ g5_) := ⟨h13_⟩
       have N52_ : Aside0 (g5_ ≠ g2_) := ⟨h14_⟩
       have N35_ : Aside0 (g3_ ≠ g5_) := ⟨h15_⟩
       have N53_ : Aside0 (g5_ ≠ g3_) := ⟨h16_⟩
       have N45_ : Aside0 (g4_ ≠ g5_) := ⟨h17_⟩
       have N54_ : Aside0 (g5_ ≠ g4_) := ⟨h18_⟩
       have N65_ : Aside0 (g6_ ≠ g5_) := ⟨h19_⟩
       have N56_ : Aside0 (g5_ ≠ g6_) := ⟨h20_⟩
       have W6_ : Aside0 (w.heap.size ≤ g6_) := ⟨h21_⟩
       have E6_ : Aside0 (w.heap.size ≤ g6_) := ⟨h22_⟩
       have N06_ : Aside0 (g0_ ≠ g6_) := ⟨h23_⟩
       have N60_ : Aside0 (g6_ ≠ g0_) := ⟨h24_⟩
       have N16_ : Aside0 (g1_ ≠ g6_) := ⟨h25_⟩
       have N61_ : Aside0 (g6_ ≠ g1_) := ⟨h26_⟩
       have N26_ : Aside0 (g2_ ≠ g6_) := ⟨h27_⟩
       have N62_ : Aside0 (g6_ ≠ g2_) := ⟨h28_⟩
       have N36_ : Aside0 (g3_ ≠ g6_) := ⟨h29_⟩
       have N63_ : Aside0 (g6_ ≠ g3_) := ⟨h30_⟩
       have N46_ : Aside0 (g4_ ≠ g6_) := ⟨h31_⟩
       have N64_ : Aside0 (g6_ ≠ g4_) := ⟨h32_⟩
       have n33_ : Aside0 (Below w.heap.size w w81) := ⟨h33_⟩
       clear B0_ B1_ B2_ B3_ B4_ HB h0_ h1_ h2_ h3_ h4_ h5_ h6_ h7_ h8_ h9_ h10_ h11_ h12_ h13_ h14_ h15_ h16_ h17_ h18_ h19_ h20_ h21_ h22_ h23_ h24_ h25_ h26_ h27_ h28_ h29_ h30_ h31_ h32_ h33_
       have B0_ := n0_
       have B1_ := n1_
       have B2_ := n2_
       have B3_ := n3_
       have B4_ := n4_
       have HB := n33_
       clear n0_ n1_ n2_ n3_ n4_ n33_
       have hHeld := hS_
       try dsimp only at hHeld
       refine norm_ (a' := ?_) ?_ ?_
       rotate_left
       ·simp only [putAll, Act.put, List.setIfInBounds_toArray, List.set_cons_zero, List.set_cons_succ]
        rfl
       refine one_ (i := 10) (N := none) #[true, true, true, true, true, true, true, true, true, true, true, false] rfl rfl (one_of HT_.out (by kernel_rfl)) (by decide) (fun K hK => ?_)
       have hs82 : w81.cell? ⟨g5_, 0, none⟩ = some (.int .i64 0) := bt B5_.1 0
       have hfs82 := blk_frozen B5_.1 0
       have hns82_0 := N05_.1
       have hns82_1 := N15_.1
       have hns82_2 := N25_.1
       have hns82_3 := N35_.1
       have hns82_4 := N45_.1
       have hns82_6 := N65_.1
       have hms82_0 := N50_.1
       have hms82_1 := N51_.1
       have hms82_2 := N52_.1
       have hms82_3 := N53_.1
       have hms82_4 := N54_.1
       have hms82_6 := N56_.1
       have hs83 : w81.cell? ⟨g5_, 1, none⟩ = some (.int .i64 0) := bt B5_.1 1
       have hfs83 := blk_frozen B5_.1 1
       have hns83_0 := N05_.1
       have hns83_1 := N15_.1
       have hns83_2 := N25_.1
       have hns83_3 := N35_.1
       have hns83_4 := N45_.1
       have hns83_6 := N65_.1
       have hms83_0 := N50_.1
       have hms83_1 := N51_.1
       have hms83_2 := N52_.1
       have hms83_3 := N53_.1
       have hms83_4 := N54_.1
       have hms83_6 := N56_.1
       refine skip_ (w1 := ?_) (by rfl) rfl ?_ ?_
       rotate_left
       ·go_simp
        rfl
       refine hK.out _ _ ⟨((cell_far (p := ⟨g5_, _, none⟩) N05_.1 _).trans (((cell_far (p := ⟨g5_, _, none⟩) N05_.1 _).trans (hHeld.1)))), ((cell_far (p := ⟨g5_, _, none⟩) N05_.1 _).trans (((cell_far (p := ⟨g5_, _, none⟩) N05_.1 _).trans (hHeld.2.1)))), ((cell_far (p := ⟨g5_, _, none⟩) N05_.1 _).trans (((cell_far (p := ⟨g5_, _, none⟩) N05_.1 _).trans (hHeld.2.2.1)))), ((cell_far (p := ⟨g5_, _, none⟩) N05_.1 _).trans (((cell_far (p := ⟨g5_, _, none⟩) N05_.1 _).trans (hHeld.2.2.2.1)))), ((cell_far (p := ⟨g5_, _, none⟩) N05_.1 _).trans (((cell_far (p := ⟨g5_, _, none⟩) N05_.1 _).trans (hHeld.2.2.2.2.1)))), ((cell_far (p := ⟨g5_, _, none⟩) N05_.1 _).trans (((cell_far (p := ⟨g5_, _, none⟩) N05_.1 _).trans (hHeld.2.2.2.2.2.1)))), ((cell_far (p := ⟨g5_, _, none⟩) N05_.1 _).trans (((cell_far (p := ⟨g5_, _, none⟩) N05_.1 _).trans (hHeld.2.2.2.2.2.2.1)))), ((cell_far (p := ⟨g5_, _, none⟩) N05_.1 _).trans (((cell_far (p := ⟨g5_, _, none⟩) N05_.1 _).trans (hHeld.2.2.2.2.2.2.2.1)))), ((cell_far (p := ⟨g5_, _, none⟩) N05_.1 _).trans (((cell_far (p := ⟨g5_, _, none⟩) N05_.1 _).trans (hHeld.2.2.2.2.2.2.2.2.1)))), ((cell_far (p := ⟨g5_, _, none⟩) N05_.1 _).trans (((cell_far (p := ⟨g5_, _, none⟩) N05_.1 _).trans (hHeld.2.2.2.2.2.2.2.2.2.1)))), ((cell_far (p := ⟨g5_, _, none⟩) N05_.1 _).trans (((cell_far (p := ⟨g5_, _, none⟩) N05_.1 _).trans (hHeld.2.2.2.2.2.2.2.2.2.2.1)))), ((cell_far (p := ⟨g5_, _, none⟩) N05_.1 _).trans (((cell_far (p := ⟨g5_, _, none⟩) N05_.1 _).trans (hHeld.2.2.2.2.2.2.2.2.2.2.2.1)))), ((cell_far (p := ⟨g5_, _, none⟩) N15_.1 _).trans (((cell_far (p := ⟨g5_, _, none⟩) N15_.1 _).trans (hHeld.2.2.2.2.2.2.2.2.2.2.2.2.1)))), ((cell_far (p := ⟨g5_, _, none⟩) N15_.1 _).trans (((cell_far (p := ⟨g5_, _, none⟩) N15_.1 _).trans (hHeld.2.2.2.2.2.2.2.2.2.2.2.2.2.1)))), ((cell_far (p := ⟨g5_, _, none⟩) N25_.1 _).trans (((cell_far (p := ⟨g5_, _, none⟩) N25_.1 _).trans (hHeld.2.2.2.2.2.2.2.2.2.2.2.2.2.2.1)))), ((cell_far (p := ⟨g5_, _, none⟩) N25_.1 _).trans (((cell_far (p := ⟨g5_, _, none⟩) N25_.1 _).trans (hHeld.2.2.2.2.2.2.2.2.2.2.2.2.2.2.2))))⟩ (fun hHeld => ?_)
       clear hK K
       refine one_ (i := 11) (N := none) #[true, true, true, true, true, true, true, true, true, true, true, true] rfl rfl (one_of HT_.out (by kernel_rfl)) (by decide) (fun K hK => ?_)
       have hs84 : w81.cell? ⟨g6_, 0, none⟩ = some (.int .i64 0) := bt B6_.1 0
       have hfs84 := blk_frozen B6_.1 0
       have hns84_0 := N06_.1
       have hns84_1 := N16_.1
       have hns84_2 := N26_.1
       have hns84_3 := N36_.1
       have hns84_4 := N46_.1
       have hns84_5 := N56_.1
       have hms84_0 := N60_.1
       have hms84_1 := N61_.1
       have hms84_2 := N62_.1
       have hms84_3 := N63_.1
       have hms84_4 := N64_.1
       have hms84_5 := N65_.1
       have hs85 : w81.cell? ⟨g6_, 1, none⟩ = some (.int .i64 0) := bt B6_.1 1
       have hfs85 := blk_frozen B6_.1 1
       have hns85_0 := N06_.1
       have hns85_1 := N16_.1
       have hns85_2 := N26_.1
       have hns85_3 := N36_.1
       have hns85_4 := N46_.1
       have hns85_5 := N56_.1
       have hms85_0 := N60_.1
       have hms85_1 := N61_.1
       have hms85_2 := N62_.1
       have hms85_3 := N63_.1
       have hms85_4 := N64_.1
       have hms85_5 := N65_.1
       refine skip_ (w1 := ?_) (by rfl) rfl ?_ ?_
       rotate_left
       ·go_simp
        rfl
       refine hK.out _ _ ⟨((cell_far (p := ⟨g6_, _, none⟩) N06_.1 _).trans (((cell_far (p := ⟨g6_, _, none⟩) N06_.1 _).trans (hHeld.1)))), ((cell_far (p := ⟨g6_, _, none⟩) N06_.1 _).trans (((cell_far (p := ⟨g6_, _, none⟩) N06_.1 _).trans (hHeld.2.1)))), ((cell_far (p := ⟨g6_, _, none⟩) N06_.1 _).trans (((cell_far (p := ⟨g6_, _, none⟩) N06_.1 _).trans (hHeld.2.2.1)))), ((cell_far (p := ⟨g6_, _, none⟩) N06_.1 _).trans (((cell_far (p := ⟨g6_, _, none⟩) N06_.1 _).trans (hHeld.2.2.2.1)))), ((cell_far (p := ⟨g6_, _, none⟩) N06_.1 _).trans (((cell_far (p := ⟨g6_, _, none⟩) N06_.1 _).trans (hHeld.2.2.2.2.1)))), ((cell_far (p := ⟨g6_, _, none⟩) N06_.1 _).trans (((cell_far (p := ⟨g6_, _, none⟩) N06_.1 _).trans (hHeld.2.2.2.2.2.1)))), ((cell_far (p := ⟨g6_, _, none⟩) N06_.1 _).trans (((cell_far (p := ⟨g6_, _, none⟩) N06_.1 _).trans (hHeld.2.2.2.2.2.2.1)))), ((cell_far (p := ⟨g6_, _, none⟩) N06_.1 _).trans (((cell_far (p := ⟨g6_, _, none⟩) N06_.1 _).trans (hHeld.2.2.2.2.2.2.2.1)))), ((cell_far (p := ⟨g6_, _, none⟩) N06_.1 _).trans (((cell_far (p := ⟨g6_, _, none⟩) N06_.1 _).trans (hHeld.2.2.2.2.2.2.2.2.1)))), ((cell_far (p := ⟨g6_, _, none⟩) N06_.1 _).trans (((cell_far (p := ⟨g6_, _, none⟩) N06_.1 _).trans (hHeld.2.2.2.2.2.2.2.2.2.1)))), ((cell_far (p := ⟨g6_, _, none⟩) N06_.1 _).trans (((cell_far (p := ⟨g6_, _, none⟩) N06_.1 _).trans (hHeld.2.2.2.2.2.2.2.2.2.2.1)))), ((cell_far (p := ⟨g6_, _, none⟩) N06_.1 _).trans (((cell_far (p := ⟨g6_, _, none⟩) N06_.1 _).trans (hHeld.2.2.2.2.2.2.2.2.2.2.2.1)))), ((cell_far (p := ⟨g6_, _, none⟩) N16_.1 _).trans (((cell_far (p := ⟨g6_, _, none⟩) N16_.1 _).trans (hHeld.2.2.2.2.2.2.2.2.2.2.2.2.1)))), ((cell_far (p := ⟨g6_, _, none⟩) N16_.1 _).trans (((cell_far (p := ⟨g6_, _, none⟩) N16_.1 _).trans (hHeld.2.2.2.2.2.2.2.2.2.2.2.2.2.1)))), ((cell_far (p := ⟨g6_, _, none⟩) N26_.1 _).trans (((cell_far (p := ⟨g6_, _, none⟩) N26_.1 _).trans (hHeld.2.2.2.2.2.2.2.2.2.2.2.2.2.2.1)))), ((cell_far (p := ⟨g6_, _, none⟩) N26_.1 _).trans (((cell_far (p := ⟨g6_, _, none⟩) N26_.1 _).trans (hHeld.2.2.2.2.2.2.2.2.2.2.2.2.2.2.2))))⟩ (fun hHeld => ?_)
       clear hK K
       refine done_ (done_of HT_.out (by kernel_rfl)) ?_
       have hnb86 := N40_.1
       have hnc86 := N04_.1
       have hnb87 := N41_.1
       have hnc87 := N14_.1
       have hnb88 := N42_.1
       have hnc88 := N24_.1
       have hnb89 := N43_.1
       have hnc89 := N34_.1
       have hnb90 := N45_.1
       have hnc90 := N54_.1
       have hnb91 := N46_.1
       have hnc91 := N64_.1
       have hcz92_0 : w81.cell? ⟨g4_, 0, none⟩ = some (.int .i64 t216) := bt B4_.1 0
       have hcz92_1 : w81.cell? ⟨g4_, 1, none⟩ = some (.int .i64 t217) := bt B4_.1 1
       have hfz92_0 := blk_frozen B4_.1 0
       have hfz92_1 := blk_frozen B4_.1 1
       have hnb93 := N30_.1
       have hnc93 := N03_.1
       have hnb94 := N31_.1
       have hnc94 := N13_.1
       have hnb95 := N32_.1
       have hnc95 := N23_.1
       have hnb96 := N35_.1
       have hnc96 := N53_.1
       have hnb97 := N36_.1
       have hnc97 := N63_.1
       have hcz98_0 : w81.cell? ⟨g3_, 0, none⟩ = some (.int .i64 t214) := bt B3_.1 0
       have hcz98_1 : w81.cell? ⟨g3_, 1, none⟩ = some (.int .i64 t215) := bt B3_.1 1
       have hfz98_0 := blk_frozen B3_.1 0
       have hfz98_1 := blk_frozen B3_.1 1
       have hnb99 := N60_.1
       have hnc99 := N06_.1
       have hnb100 := N61_.1
       have hnc100 := N16_.1
       have hnb101 := N62_.1
       have hnc101 := N26_.1
       have hnb102 := N65_.1
       have hnc102 := N56_.1
       have hcz103_0 : w81.cell? ⟨g6_, 0, none⟩ = some (.int .i64 0) := bt B6_.1 0
       have hcz103_1 : w81.cell? ⟨g6_, 1, none⟩ = some (.int .i64 0) := bt B6_.1 1
       have hfz103_0 := blk_frozen B6_.1 0
       have hfz103_1 := blk_frozen B6_.1 1
       have hnb104 := N50_.1
       have hnc104 := N05_.1
       have hnb105 := N51_.1
       have hnc105 := N15_.1
       have hnb106 := N52_.1
       have hnc106 := N25_.1
       have hcz107_0 : w81.cell? ⟨g5_, 0, none⟩ = some (.int .i64 0) := bt B5_.1 0
       have hcz107_1 : w81.cell? ⟨g5_, 1, none⟩ = some (.int .i64 0) := bt B5_.1 1
       have hfz107_0 := blk_frozen B5_.1 0
       have hfz107_1 := blk_frozen B5_.1 1
       try go_wp2
       go_ret
       exact ⟨by first | rfl | (simp [errW_none, errW_some] <;> rfl) | (simp [*, errW_none, errW_some] <;> rfl), by repeat (first | (with_reducible first | exact HB.1 | apply bA | apply pD | apply b1 | apply bS E0_.1 | apply bS E1_.1 | apply bS E2_.1 | apply bS E3_.1 | apply bS E4_.1 | apply bS E5_.1 | apply bS E6_.1) | exact HB.1)⟩
      rw [if_neg c57] at H
      have c57b0 : decide (t222 ≤ t220) = false := decide_eq_false c57
      clear c57
      exact absurd ((Option.some.inj H).trans hT.out) (by decide)
     rw [if_neg c56] at H
     have c56b0 : decide (t215 ≤ t217) = false := decide_eq_false c56
     clear c56
     exact absurd ((Option.some.inj H).trans hT.out) (by decide)
    rw [if_neg c55] at H
    have c55b0 : decide (t216 ≤ t214) = false := decide_eq_false c55
    clear c55
    exact absurd ((Option.some.inj H).trans hT.out) (by decide)
 replace c7 := Bool.eq_false_iff.mpr c7
 subst c7
 have H1 : (some false) = some r := by rw [if_neg (show ¬ (false = true) by decide)] at H; exact H
 clear H
 have H := H1
 clear H1
 exact absurd ((Option.some.inj H).trans hT.out) (by decide)

end Go.Proofs.Ytigpigfoahlfjaa.Q
