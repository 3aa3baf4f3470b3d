/- The calls of these Go functions answer what the Lean functions beside them answer; written by a program (wip/pr2.py, out of the print of the loaded program); under no condition but those that stand in the theorems. -/
import Derived.Test.YtigpigfoahlfjaaQx0
import Derived.Test.YtigpigfoahlfjaaQx6
import Derived.Test.YtigpigfoahlfjaaQx7
import Derived.Test.YtigpigfoahlfjaaQx8
namespace Go.Proofs.Ytigpigfoahlfjaa.Q
open Go.RowKit Go.Proofs.YtigpigfoahlfjaaW.PrintWords Go.Proofs.YtigpigfoahlfjaaW.PrintLast Go.Proofs.YtigpigfoahlfjaaW.PrintMore
attribute [local go_sem] max2_int min2_int max_two min_two max_three min_three max_four min_four   -- for this text's walks alone
set_option linter.unusedVariables false
set_option linter.unusedSimpArgs false

/-! ### clepsydralaw10_ProbeNarrows: function 14 -/
def clepsydralaw10_ProbeNarrows.l0 : Nat → List (S57) → Bool → List (S57) → Int → Int → Int → Int → Int → Int → Int → Int → Int → Int → Int → Int → Int → Int → Int → Int → Int → Int → Int → Int → Option (Bool)
 | 0, _, _, _, _, _, _, _, _, _, _, _, _, _, _, _, _, _, _, _, _, _, _, _ => none
 | k + 1, x1, x8, x25, x26, x27, x188000, x188001, x188002, x188003, x188004, x188005, x188006, x188007, x188008, x188009, x188010, x188011, x189000, x189001, x189002, x189003, x194000, x194001 => if x27 < x26 then (if 0 ≤ x27 then (if x27 < (x25.length : Int) then ((probe_Ahead.f k x188000 x188001 x188002 x188003 x188004 x188005 x188006 x188007 x188008 x188009 x188010 x188011 ((rd_T57 x25 x27).f0) ((rd_T57 x25 x27).f1) ((rd_T57 x25 x27).f2) ((rd_T57 x25 x27).f3)).bind fun bt214 => ((probe_Right.f k x188000 x188001 x188002 x188003 x188004 x188005 x188006 x188007 x188008 x188009 x188010 x188011 ((rd_T57 x25 x27).f0) ((rd_T57 x25 x27).f1) ((rd_T57 x25 x27).f2) ((rd_T57 x25 x27).f3)).bind fun t217 => (if t217 = true then (if x8 = true then ((clepsydraref03_Wide.f x194000 x194001).bind fun t218 => ((clepsydraref03_Wide.f bt214.1 bt214.2).bind fun t219 => (if t218 > t219 then (some false) else (clepsydralaw10_ProbeNarrows.l0 k x1 x8 x25 x26 (wrap64 (x27 + 1)) x188000 x188001 x188002 x188003 x188004 x188005 x188006 x188007 x188008 x188009 x188010 x188011 x189000 x189001 x189002 x189003 x194000 x194001)))) else (some false)) else (clepsydralaw10_ProbeNarrows.l0 k x1 x8 x25 x26 (wrap64 (x27 + 1)) x188000 x188001 x188002 x188003 x188004 x188005 x188006 x188007 x188008 x188009 x188010 x188011 x189000 x189001 x189002 x189003 x194000 x194001)))) else (none)) else (none)) else ((some (([] : List (S57)) : List (S57))).bind fun y194 => (if y194.length + x1.length < 4398046511104 then ((some (y194 ++ x1 : List (S57))).bind fun y197 => ((some (([(⟨x189000, x189001, x189002, x189003⟩ : S57)] : List (S57)) : List (S57))).bind fun y200 => (if y197.length + y200.length < 4398046511104 then ((probe_Best.f k x188000 x188001 x188002 x188003 x188004 x188005 x188006 x188007 x188008 x188009 x188010 x188011 (y197 ++ y200)).bind fun bt206 => (if x8 = true then (if bt206.2.2 = true then ((clepsydraref03_Wide.f bt206.1 bt206.2.1).bind fun t210 => ((clepsydraref03_Wide.f x194000 x194001).bind fun t211 => (some (decide (t210 ≤ t211))))) else (some false)) else (some true))) else (none)))) else (none)))
def clepsydralaw10_ProbeNarrows.f (k : Nat) (a0_0 : Int) (a0_1 : Int) (a0_2 : Int) (a0_3 : Int) (a0_4 : Int) (a0_5 : Int) (a0_6 : Int) (a0_7 : Int) (a0_8 : Int) (a0_9 : Int) (a0_10 : Int) (a0_11 : Int) (l1 : List (S57)) (a2_0 : Int) (a2_1 : Int) (a2_2 : Int) (a2_3 : Int) : Option (Bool) := (clepsydralaw10_alive.f k).bind fun t189 => (if t189 = true then (if (l1.length : Int) > 256 then (some true) else ((probe_Best.f k a0_0 a0_1 a0_2 a0_3 a0_4 a0_5 a0_6 a0_7 a0_8 a0_9 a0_10 a0_11 l1).bind fun bt190 => (clepsydralaw10_ProbeNarrows.l0 k l1 bt190.2.2 l1 (l1.length : Int) 0 a0_0 a0_1 a0_2 a0_3 a0_4 a0_5 a0_6 a0_7 a0_8 a0_9 a0_10 a0_11 a2_0 a2_1 a2_2 a2_3 bt190.1 bt190.2.1))) else (some false))
theorem clepsydralaw10_ProbeNarrows.mono_l : ∀ k, (∀ y0 y1 y2 y3 y4 y5 y6 y7 y8 y9 y10 y11 y12 y13 y14 y15 y16 y17 y18 y19 y20 y21 y22, LeO (clepsydralaw10_ProbeNarrows.l0 k y0 y1 y2 y3 y4 y5 y6 y7 y8 y9 y10 y11 y12 y13 y14 y15 y16 y17 y18 y19 y20 y21 y22) (clepsydralaw10_ProbeNarrows.l0 (k + 1) y0 y1 y2 y3 y4 y5 y6 y7 y8 y9 y10 y11 y12 y13 y14 y15 y16 y17 y18 y19 y20 y21 y22))
 | 0 => fun _ _ _ _ _ _ _ _ _ _ _ _ _ _ _ _ _ _ _ _ _ _ _ r h => by simp [clepsydralaw10_ProbeNarrows.l0] at h
 | k + 1 => by
  have ih0 := clepsydralaw10_ProbeNarrows.mono_l k
  intro y0 y1 y2 y3 y4 y5 y6 y7 y8 y9 y10 y11 y12 y13 y14 y15 y16 y17 y18 y19 y20 y21 y22
  unfold clepsydralaw10_ProbeNarrows.l0
  repeat' first
  | (with_reducible exact ih0 _ _ _ _ _ _ _ _ _ _ _ _ _ _ _ _ _ _ _ _ _ _ _)
  | (with_reducible exact clepsydralaw10_alive.mono _)
  | (with_reducible exact probe_Ahead.mono _ _ _ _ _ _ _ _ _ _ _ _ _ _ _ _ _)
  | (with_reducible exact probe_Best.mono _ _ _ _ _ _ _ _ _ _ _ _ _ _)
  | (with_reducible exact probe_Right.mono _ _ _ _ _ _ _ _ _ _ _ _ _ _ _ _ _)
  | (with_reducible exact LeO.refl _)
  | (with_reducible exact LeO.none _)
  | (with_reducible refine LeO.ite ?_ ?_)
  | (with_reducible refine LeO.bind ?_ (fun _ => ?_))
  | exact ih0 _ _ _ _ _ _ _ _ _ _ _ _ _ _ _ _ _ _ _ _ _ _ _
  | exact clepsydralaw10_alive.mono _
  | exact probe_Ahead.mono _ _ _ _ _ _ _ _ _ _ _ _ _ _ _ _ _
  | exact probe_Best.mono _ _ _ _ _ _ _ _ _ _ _ _ _ _
  | exact probe_Right.mono _ _ _ _ _ _ _ _ _ _ _ _ _ _ _ _ _
  | exact LeO.none _
  | refine LeO.ite ?_ ?_
  | refine LeO.bind ?_ (fun _ => ?_)
theorem clepsydralaw10_ProbeNarrows.mono : ∀ a0 a1 a2 a3 a4 a5 a6 a7 a8 a9 a10 a11 a12 a13 a14 a15 a16 k, LeO (clepsydralaw10_ProbeNarrows.f k a0 a1 a2 a3 a4 a5 a6 a7 a8 a9 a10 a11 a12 a13 a14 a15 a16) (clepsydralaw10_ProbeNarrows.f (k + 1) a0 a1 a2 a3 a4 a5 a6 a7 a8 a9 a10 a11 a12 a13 a14 a15 a16) := by
 intro a0 a1 a2 a3 a4 a5 a6 a7 a8 a9 a10 a11 a12 a13 a14 a15 a16 k
 have ih0 := clepsydralaw10_ProbeNarrows.mono_l k
 unfold clepsydralaw10_ProbeNarrows.f
 repeat' first
   | (with_reducible exact ih0 _ _ _ _ _ _ _ _ _ _ _ _ _ _ _ _ _ _ _ _ _ _ _)
   | (with_reducible exact clepsydralaw10_alive.mono _)
   | (with_reducible exact probe_Ahead.mono _ _ _ _ _ _ _ _ _ _ _ _ _ _ _ _ _)
   | (with_reducible exact probe_Best.mono _ _ _ _ _ _ _ _ _ _ _ _ _ _)
   | (with_reducible exact probe_Right.mono _ _ _ _ _ _ _ _ _ _ _ _ _ _ _ _ _)
   | (with_reducible exact LeO.refl _)
   | (with_reducible exact LeO.none _)
   | (with_reducible refine LeO.ite ?_ ?_)
   | (with_reducible refine LeO.bind ?_ (fun _ => ?_))
   | exact ih0 _ _ _ _ _ _ _ _ _ _ _ _ _ _ _ _ _ _ _ _ _ _ _
   | exact clepsydralaw10_alive.mono _
   | exact probe_Ahead.mono _ _ _ _ _ _ _ _ _ _ _ _ _ _ _ _ _
   | exact probe_Best.mono _ _ _ _ _ _ _ _ _ _ _ _ _ _
   | exact probe_Right.mono _ _ _ _ _ _ _ _ _ _ _ _ _ _ _ _ _
   | exact LeO.none _
   | refine LeO.ite ?_ ?_
   | refine LeO.bind ?_ (fun _ => ?_)
def clepsydralaw10_ProbeNarrows.T10 : Bool × List (List Nat × List Nat) := (true, [([], []), ([], []), ([0, 1], [0, 1]), ([2, 2], [2]), ([3], [3]), ([4, 3], [3, 4]), ([5, 3, 3], [3, 5]), ([6], [6]), ([7, 6, 6], [6, 7]), ([6], [6]), ([9, 8, 6], [6, 9]), ([8, 10, 6], [6, 8, 10]), ([6, 11, 3], [3, 6, 11]), ([3, 12], [3, 12])])
def clepsydralaw10_ProbeNarrows.B10 : List Nat := [0, 0, 3, 7, 15, 31, 63, 127, 255, 127, 1023, 2047, 4095, 8191]
theorem clepsydralaw10_ProbeNarrows.tab10 : rtab .any (opsOf Try.f14 10) = clepsydralaw10_ProbeNarrows.T10 := by kernel_rfl
theorem clepsydralaw10_ProbeNarrows.bits10 : waitsOk clepsydralaw10_ProbeNarrows.T10.2 clepsydralaw10_ProbeNarrows.B10 = true := by kernel_rfl
def clepsydralaw10_ProbeNarrows.T13 : Bool × List (List Nat × List Nat) := (true, [([], []), ([], []), ([], []), ([1, 2], [1, 2]), ([], []), ([4], [4]), ([3, 5, 3], [3, 5]), ([0, 6, 6], [0, 6]), ([7], [7]), ([8], [8]), ([8], [8]), ([], []), ([11, 9, 7, 0, 1, 2, 3, 4, 5, 6, 7, 8, 9, 11], [9, 11]), ([10, 12, 0, 1, 2, 3, 4, 5, 6, 7, 8, 9, 10, 11, 12], [10])])
def clepsydralaw10_ProbeNarrows.B13 : List Nat := [0, 0, 0, 6, 0, 16, 62, 127, 255, 511, 511, 0, 3071, 8191]
theorem clepsydralaw10_ProbeNarrows.tab13 : rtab .any (opsOf Try.f14 13) = clepsydralaw10_ProbeNarrows.T13 := by kernel_rfl
theorem clepsydralaw10_ProbeNarrows.bits13 : waitsOk clepsydralaw10_ProbeNarrows.T13.2 clepsydralaw10_ProbeNarrows.B13 = true := by kernel_rfl
def clepsydralaw10_ProbeNarrows.T14 : Bool × List (List Nat × List Nat) := (true, [([], []), ([0], [0]), ([1], [1]), ([2], [2]), ([3, 2, 2], [2, 3]), ([4], [4]), ([5, 4, 4], [4, 5]), ([4], [4]), ([7, 6, 4], [4, 7]), ([6, 8, 4], [4, 6, 8]), ([4, 9, 2], [2, 4, 9]), ([2, 10], [2, 10]), ([11, 8, 0, 1, 2, 3, 4, 5, 6, 7, 8, 9, 10, 11], [11])])
def clepsydralaw10_ProbeNarrows.B14 : List Nat := [0, 1, 3, 7, 15, 31, 63, 31, 255, 511, 1023, 2047, 4095]
theorem clepsydralaw10_ProbeNarrows.tab14 : rtab .any (opsOf Try.f14 14) = clepsydralaw10_ProbeNarrows.T14 := by kernel_rfl
theorem clepsydralaw10_ProbeNarrows.bits14 : waitsOk clepsydralaw10_ProbeNarrows.T14.2 clepsydralaw10_ProbeNarrows.B14 = true := by kernel_rfl
set_option maxHeartbeats 8000000 in
set_option maxRecDepth 100000 in
theorem clepsydralaw10_ProbeNarrows.calls (k : Nat) (a0_0 : Int) (a0_1 : Int) (a0_2 : Int) (a0_3 : Int) (a0_4 : Int) (a0_5 : Int) (a0_6 : Int) (a0_7 : Int) (a0_8 : Int) (a0_9 : Int) (a0_10 : Int) (a0_11 : Int) (A1 : Option Addr) (c1 : Nat) (l1 : List (S57)) (a2_0 : Int) (a2_1 : Int) (a2_2 : Int) (a2_3 : Int) (r : Bool) (w : World) (hr1 : Kd.C k57 w A1 l1.length l1) (hc1 : l1.length ≤ c1) (hT : Aside0 (r = true)) (h : clepsydralaw10_ProbeNarrows.f k a0_0 a0_1 a0_2 a0_3 a0_4 a0_5 a0_6 a0_7 a0_8 a0_9 a0_10 a0_11 l1 a2_0 a2_1 a2_2 a2_3 = some r) :
  Calls Try.prog 14 #[.agg #[.int .i64 a0_0, .int .i64 a0_1, .int .i64 a0_2, .int .i64 a0_3, .int .i64 a0_4, .int .i64 a0_5, .int .i64 a0_6, .int .i64 a0_7, .int .i64 a0_8, .int .i64 a0_9, .int .i64 a0_10, .int .i64 a0_11], .slice A1 l1.length c1, .agg #[.int .i64 a2_0, .int .i64 a2_1, .int .i64 a2_2, .int .i64 a2_3]] w fun e w' => e = .returned (.bool r) ∧ Below w.heap.size w w' := by
 have hu23 := Try.underlying23
 have hu57 := Try.underlying57
 have hu25 := Try.underlying25
 have HR1 := mk hr1
 have HC1 := mk hc1
 clear hr1 hc1
 have HB := mk (Below.refl w.heap.size w)
 have H : ((clepsydralaw10_alive.f k).bind fun t189 => (if t189 = true then (if (l1.length : Int) > 256 then (some true) else ((probe_Best.f k a0_0 a0_1 a0_2 a0_3 a0_4 a0_5 a0_6 a0_7 a0_8 a0_9 a0_10 a0_11 l1).bind fun bt190 => (clepsydralaw10_ProbeNarrows.l0 k l1 bt190.2.2 l1 (l1.length : Int) 0 a0_0 a0_1 a0_2 a0_3 a0_4 a0_5 a0_6 a0_7 a0_8 a0_9 a0_10 a0_11 a2_0 a2_1 a2_2 a2_3 bt190.1 bt190.2.1))) else (some false))) = some r := h
 clear h
 replace H := Option.bind_eq_some_iff.mp H
 obtain ⟨t189, A40, H⟩ := H
 replace H : (if t189 = true then (if (l1.length : Int) > 256 then (some true) else ((probe_Best.f k a0_0 a0_1 a0_2 a0_3 a0_4 a0_5 a0_6 a0_7 a0_8 a0_9 a0_10 a0_11 l1).bind fun bt190 => (clepsydralaw10_ProbeNarrows.l0 k l1 bt190.2.2 l1 (l1.length : Int) 0 a0_0 a0_1 a0_2 a0_3 a0_4 a0_5 a0_6 a0_7 a0_8 a0_9 a0_10 a0_11 a2_0 a2_1 a2_2 a2_3 bt190.1 bt190.2.1))) else (some false)) = some r := H
 have A4 := mk A40
 clear A40
 by_cases c5 : t189 = true
 ·subst c5
  have H1 : (if (l1.length : Int) > 256 then (some true) else ((probe_Best.f k a0_0 a0_1 a0_2 a0_3 a0_4 a0_5 a0_6 a0_7 a0_8 a0_9 a0_10 a0_11 l1).bind fun bt190 => (clepsydralaw10_ProbeNarrows.l0 k l1 bt190.2.2 l1 (l1.length : Int) 0 a0_0 a0_1 a0_2 a0_3 a0_4 a0_5 a0_6 a0_7 a0_8 a0_9 a0_10 a0_11 a2_0 a2_1 a2_2 a2_3 bt190.1 bt190.2.1))) = some r := by rw [if_pos rfl] at H; exact H
  clear H
  have H := H1
  clear H1
  by_cases c6 : (l1.length : Int) > 256
  ·rw [if_pos c6] at H
   have c6b0 : decide (256 < (l1.length : Int)) = true := decide_eq_true c6
   have c6b1 : decide (256 < l1.length) = true := decide_eq_true (by omega)
   clear c6
   obtain rfl := Option.some.inj H
   go_enter Try.func14, Try.ntmps14
   go_wp2_with (first | ((with_reducible refine gate_dst (N := 3) rfl ?_); refine box_event ?hg (N := 3) ?hd (cs := #[.int .i64 a0_0, .int .i64 a0_1, .int .i64 a0_2, .int .i64 a0_3, .int .i64 a0_4, .int .i64 a0_5, .int .i64 a0_6, .int .i64 a0_7, .int .i64 a0_8, .int .i64 a0_9, .int .i64 a0_10, .int .i64 a0_11]) (t := 23) ?hr ?_; (case hd => rfl); (case hg => rfl); (case hr => first | (go_simp; done) | (go_simp; rfl)); intro g0_ hg w7 hbox hb; have n0_ := mk (below_step (by repeat first | exact HB.1 | apply pD | apply b1 | refine bT (by assumption) ?_ | apply bA) hb); have n1_ := mk (hbox); have n2_ := gl hg (by repeat first | exact HB.1 | apply pD | apply b1 | refine bT (by assumption) ?_ | apply bA); have n3_ := gl hg (by repeat first | exact HB.1 | apply pD | apply b1 | refine bT (by assumption) ?_ | apply bA); clear HB; have HB := n0_; have B0_ := n1_; have W0_ := n2_; have E0_ := n3_; clear n0_ n1_ n2_ n3_; clear hb hbox hg) | ((with_reducible refine gate_dst (N := 5) rfl ?_); refine box_event ?hg (N := 5) ?hd (cs := #[.int .i64 a2_0, .int .i64 a2_1, .int .i64 a2_2, .int .i64 a2_3]) (t := 57) ?hr ?_; (case hd => rfl); (case hg => rfl); (case hr => first | (go_simp; done) | (go_simp; rfl)); intro g1_ hg w8 hbox hb; have n0_ := bb hb B0_.1; have n1_ := mk (below_step (by repeat first | exact HB.1 | apply pD | apply b1 | refine bT (by assumption) ?_ | apply bA) hb); have n2_ := mk (hbox); have n3_ := gl hg (by repeat first | exact HB.1 | apply pD | apply b1 | refine bT (by assumption) ?_ | apply bA); have n4_ := gl hg (by repeat first | exact HB.1 | apply pD | apply b1 | refine bT (by assumption) ?_ | apply bA); have n5_ := nl hg B0_.1; have n6_ := ng hg B0_.1; clear B0_; clear HB; have B0_ := n0_; have HB := n1_; have B1_ := n2_; have W1_ := n3_; have E1_ := n4_; have N01_ := n5_; have N10_ := n6_; clear n0_ n1_ n2_ n3_ n4_ n5_ n6_; clear hb hbox hg) | ((with_reducible refine gate_callee (f := 31) rfl ?_); refine goesL_ (some 14) rfl rfl Try.func31 (by kernel_rfl) rfl #[] rfl (by (try simp only [List.map_toArray, List.map_cons, List.map_nil]); first | done | rfl | (simp only [List.length_drop, List.length_take]; rfl)) ?_; (with_reducible refine (clepsydralaw10_alive.calls k  true _ A4.1).mono ?_); rintro e w9 ⟨rfl, hb⟩; refine ⟨_, rfl, ?_⟩; have n0_ := bb hb B0_.1; have n1_ := bb hb B1_.1; have n2_ := mk (below_step (by repeat first | exact HB.1 | apply pD | apply b1 | refine bT (by assumption) ?_ | apply bA) hb); clear B0_; clear B1_; clear HB; have B0_ := n0_; have B1_ := n1_; have HB := n2_; clear n0_ n1_ n2_; (try clear hb); (try clear hb2); (try clear hk); (try clear hi)))
   go_ret
   exact ⟨by first | rfl | (simp [errW_none, errW_some] <;> rfl) | (simp [*, errW_none, errW_some] <;> rfl), by repeat (first | (with_reducible first | exact HB.1 | apply bA | apply pD | apply b1 | apply bS E0_.1 | apply bS E1_.1) | exact HB.1)⟩
  rw [if_neg c6] at H
  have c6b0 : decide (256 < (l1.length : Int)) = false := decide_eq_false c6
  have c6b1 : decide (256 < l1.length) = false := decide_eq_false (by omega)
  clear c6
  replace H := Option.bind_eq_some_iff.mp H
  obtain ⟨⟨t190, t191, t192⟩, A100, H⟩ := H
  replace H : (clepsydralaw10_ProbeNarrows.l0 k l1 t192 l1 (l1.length : Int) 0 a0_0 a0_1 a0_2 a0_3 a0_4 a0_5 a0_6 a0_7 a0_8 a0_9 a0_10 a0_11 a2_0 a2_1 a2_2 a2_3 t190 t191) = some r := H
  have A10 := mk A100
  clear A100
  have H' := mk H
  clear H
  go_enter Try.func14, Try.ntmps14
  go_wp2_with (first | ((with_reducible refine gate_dst (N := 3) rfl ?_); refine box_event ?hg (N := 3) ?hd (cs := #[.int .i64 a0_0, .int .i64 a0_1, .int .i64 a0_2, .int .i64 a0_3, .int .i64 a0_4, .int .i64 a0_5, .int .i64 a0_6, .int .i64 a0_7, .int .i64 a0_8, .int .i64 a0_9, .int .i64 a0_10, .int .i64 a0_11]) (t := 23) ?hr ?_; (case hd => rfl); (case hg => rfl); (case hr => first | (go_simp; done) | (go_simp; rfl)); intro g0_ hg w11 hbox hb; have n0_ := mk (below_step (by repeat first | exact HB.1 | apply pD | apply b1 | refine bT (by assumption) ?_ | apply bA) hb); have n1_ := mk (hbox); have n2_ := gl hg (by repeat first | exact HB.1 | apply pD | apply b1 | refine bT (by assumption) ?_ | apply bA); have n3_ := gl hg (by repeat first | exact HB.1 | apply pD | apply b1 | refine bT (by assumption) ?_ | apply bA); clear HB; have HB := n0_; have B0_ := n1_; have W0_ := n2_; have E0_ := n3_; clear n0_ n1_ n2_ n3_; clear hb hbox hg) | ((with_reducible refine gate_dst (N := 5) rfl ?_); refine box_event ?hg (N := 5) ?hd (cs := #[.int .i64 a2_0, .int .i64 a2_1, .int .i64 a2_2, .int .i64 a2_3]) (t := 57) ?hr ?_; (case hd => rfl); (case hg => rfl); (case hr => first | (go_simp; done) | (go_simp; rfl)); intro g1_ hg w12 hbox hb; have n0_ := bb hb B0_.1; have n1_ := mk (below_step (by repeat first | exact HB.1 | apply pD | apply b1 | refine bT (by assumption) ?_ | apply bA) hb); have n2_ := mk (hbox); have n3_ := gl hg (by repeat first | exact HB.1 | apply pD | apply b1 | refine bT (by assumption) ?_ | apply bA); have n4_ := gl hg (by repeat first | exact HB.1 | apply pD | apply b1 | refine bT (by assumption) ?_ | apply bA); have n5_ := nl hg B0_.1; have n6_ := ng hg B0_.1; clear B0_; clear HB; have B0_ := n0_; have HB := n1_; have B1_ := n2_; have W1_ := n3_; have E1_ := n4_; have N01_ := n5_; have N10_ := n6_; clear n0_ n1_ n2_ n3_ n4_ n5_ n6_; clear hb hbox hg) | ((with_reducible refine gate_callee (f := 31) rfl ?_); refine goesL_ (some 14) rfl rfl Try.func31 (by kernel_rfl) rfl #[] rfl (by (try simp only [List.map_toArray, List.map_cons, List.map_nil]); first | done | rfl | (simp only [List.length_drop, List.length_take]; rfl)) ?_; (with_reducible refine (clepsydralaw10_alive.calls k  true _ A4.1).mono ?_); rintro e w13 ⟨rfl, hb⟩; refine ⟨_, rfl, ?_⟩; have n0_ := bb hb B0_.1; have n1_ := bb hb B1_.1; have n2_ := mk (below_step (by repeat first | exact HB.1 | apply pD | apply b1 | refine bT (by assumption) ?_ | apply bA) hb); clear B0_; clear B1_; clear HB; have B0_ := n0_; have B1_ := n1_; have HB := n2_; clear n0_ n1_ n2_; (try clear hb); (try clear hb2); (try clear hk); (try clear hi); have hnb14 := N01_.1; have hnc14 := N10_.1; have hcz15_0 : w13.cell? ⟨g0_, 0, none⟩ = some (.int .i64 a0_0) := bQ B0_.1 0; have hcz15_1 : w13.cell? ⟨g0_, 1, none⟩ = some (.int .i64 a0_1) := bQ B0_.1 1; have hcz15_2 : w13.cell? ⟨g0_, 2, none⟩ = some (.int .i64 a0_2) := bQ B0_.1 2; have hcz15_3 : w13.cell? ⟨g0_, 3, none⟩ = some (.int .i64 a0_3) := bQ B0_.1 3; have hcz15_4 : w13.cell? ⟨g0_, 4, none⟩ = some (.int .i64 a0_4) := bQ B0_.1 4; have hcz15_5 : w13.cell? ⟨g0_, 5, none⟩ = some (.int .i64 a0_5) := bQ B0_.1 5; have hcz15_6 : w13.cell? ⟨g0_, 6, none⟩ = some (.int .i64 a0_6) := bQ B0_.1 6; have hcz15_7 : w13.cell? ⟨g0_, 7, none⟩ = some (.int .i64 a0_7) := bQ B0_.1 7; have hcz15_8 : w13.cell? ⟨g0_, 8, none⟩ = some (.int .i64 a0_8) := bQ B0_.1 8; have hcz15_9 : w13.cell? ⟨g0_, 9, none⟩ = some (.int .i64 a0_9) := bQ B0_.1 9; have hcz15_10 : w13.cell? ⟨g0_, 10, none⟩ = some (.int .i64 a0_10) := bQ B0_.1 10; have hcz15_11 : w13.cell? ⟨g0_, 11, none⟩ = some (.int .i64 a0_11) := bQ B0_.1 11; have hfz15_0 := blk_frozen B0_.1 0; have hfz15_1 := blk_frozen B0_.1 1; have hfz15_2 := blk_frozen B0_.1 2; have hfz15_3 := blk_frozen B0_.1 3; have hfz15_4 := blk_frozen B0_.1 4; have hfz15_5 := blk_frozen B0_.1 5; have hfz15_6 := blk_frozen B0_.1 6; have hfz15_7 := blk_frozen B0_.1 7; have hfz15_8 := blk_frozen B0_.1 8; have hfz15_9 := blk_frozen B0_.1 9; have hfz15_10 := blk_frozen B0_.1 10; have hfz15_11 := blk_frozen B0_.1 11) | ((with_reducible refine gate_callee (f := 37) rfl ?_); refine goesL_ (some 22) rfl rfl Try.func37 (by kernel_rfl) rfl #[.agg #[.int .i64 a0_0, .int .i64 a0_1, .int .i64 a0_2, .int .i64 a0_3, .int .i64 a0_4, .int .i64 a0_5, .int .i64 a0_6, .int .i64 a0_7, .int .i64 a0_8, .int .i64 a0_9, .int .i64 a0_10, .int .i64 a0_11], .slice A1 l1.length c1] rfl (by (try simp only [List.map_toArray, List.map_cons, List.map_nil]); first | done | rfl | (simp only [List.length_drop, List.length_take]; rfl)) ?_; (with_reducible refine (probe_Best.calls k a0_0 a0_1 a0_2 a0_3 a0_4 a0_5 a0_6 a0_7 a0_8 a0_9 a0_10 a0_11 _ _ l1 t190 t191 t192 _ ?side1 ?side2 A10.1).mono ?_); (case side1 => repeat (first | exact (Kd.C_below HR1.out HB.1) | (with_reducible refine Kd.C_alloc ?_ _) | (with_reducible refine Kd.C_drewN ?_ _) | (with_reducible refine Kd.C_drew ?_))); (case side2 => exact HC1.out); rintro e w16 ⟨rfl, hb⟩; refine ⟨_, rfl, ?_⟩; have n0_ := bb hb B0_.1; have n1_ := bb hb B1_.1; have n2_ := mk (below_step (by repeat first | exact HB.1 | apply pD | apply b1 | refine bT (by assumption) ?_ | apply bA) hb); clear B0_; clear B1_; clear HB; have B0_ := n0_; have B1_ := n1_; have HB := n2_; clear n0_ n1_ n2_; (try clear hb); (try clear hb2); (try clear hk); (try clear hi)) | ((with_reducible refine gate_dst (N := 7) rfl ?_); refine box_event ?hg (N := 7) ?hd (cs := #[.int .i64 0, .int .i64 0]) (t := 25) ?hr ?_; (case hd => rfl); (case hg => rfl); (case hr => first | (go_simp; done) | (go_simp; rfl)); intro g2_ hg w17 hbox hb; have n0_ := bb hb B0_.1; have n1_ := bb hb B1_.1; have n2_ := mk (below_step (by repeat first | exact HB.1 | apply pD | apply b1 | refine bT (by assumption) ?_ | apply bA) hb); have n3_ := mk (hbox); have n4_ := gl hg (by repeat first | exact HB.1 | apply pD | apply b1 | refine bT (by assumption) ?_ | apply bA); have n5_ := gl hg (by repeat first | exact HB.1 | apply pD | apply b1 | refine bT (by assumption) ?_ | apply bA); have n6_ := nl hg B0_.1; have n7_ := ng hg B0_.1; have n8_ := nl hg B1_.1; have n9_ := ng hg B1_.1; clear B0_; clear B1_; clear HB; have B0_ := n0_; have B1_ := n1_; have HB := n2_; have B2_ := n3_; have W2_ := n4_; have E2_ := n5_; have N02_ := n6_; have N20_ := n7_; have N12_ := n8_; have N21_ := n9_; clear n0_ n1_ n2_ n3_ n4_ n5_ n6_ n7_ n8_ n9_; clear hb hbox hg; have hnb18 := N20_.1; have hnc18 := N02_.1; have hnb19 := N21_.1; have hnc19 := N12_.1; have hcz20_0 : w17.cell? ⟨g2_, 0, none⟩ = some (.int .i64 0) := bQ B2_.1 0; have hcz20_1 : w17.cell? ⟨g2_, 1, none⟩ = some (.int .i64 0) := bQ B2_.1 1; have hfz20_0 := blk_frozen B2_.1 0; have hfz20_1 := blk_frozen B2_.1 1))
  go_loopg [27] k (fun kq v27 w' => ∃ (x27_1 : Int), v27 = .int .i64 x27_1 ∧ Aside0 (clepsydralaw10_ProbeNarrows.l0 kq l1 t192 l1 (l1.length : Int) x27_1 a0_0 a0_1 a0_2 a0_3 a0_4 a0_5 a0_6 a0_7 a0_8 a0_9 a0_10 a0_11 a2_0 a2_1 a2_2 a2_3 t190 t191 = some r) ∧ Aside0 (kq ≤ k) ∧ Aside0 (w'.heap[g0_]? = some (.cells #[.int .i64 a0_0, .int .i64 a0_1, .int .i64 a0_2, .int .i64 a0_3, .int .i64 a0_4, .int .i64 a0_5, .int .i64 a0_6, .int .i64 a0_7, .int .i64 a0_8, .int .i64 a0_9, .int .i64 a0_10, .int .i64 a0_11] 23 (0, 0))) ∧ Aside0 (w'.heap[g1_]? = some (.cells #[.int .i64 a2_0, .int .i64 a2_1, .int .i64 a2_2, .int .i64 a2_3] 57 (0, 0))) ∧ Aside0 (w'.heap[g2_]? = some (.cells #[.int .i64 t190, .int .i64 t191] 25 (0, 0))) ∧ Aside0 (Below w.heap.size w w'))
  case atStart => exact ⟨(0), (by first | rfl | (simp; done) | (simp [*]; done) | (simp [Int.tdiv_eq_ediv_of_nonneg]; done) | (simp [Go.RowKit.wrap64]; done) | (simp [*, Go.RowKit.wrap64]; done)), H', ⟨Nat.le_refl _⟩, ⟨by (with_reducible repeat (first | refine blk_drewN ?_ _ | refine blk_drew ?_ | refine blk_alloc ?_ _)); refine blk_far ?_ N02_.1 _; (with_reducible repeat (first | refine blk_drewN ?_ _ | refine blk_drew ?_ | refine blk_alloc ?_ _)); refine blk_far ?_ N02_.1 _; (with_reducible repeat (first | refine blk_drewN ?_ _ | refine blk_drew ?_ | refine blk_alloc ?_ _)); exact B0_.1⟩, ⟨by (with_reducible repeat (first | refine blk_drewN ?_ _ | refine blk_drew ?_ | refine blk_alloc ?_ _)); refine blk_far ?_ N12_.1 _; (with_reducible repeat (first | refine blk_drewN ?_ _ | refine blk_drew ?_ | refine blk_alloc ?_ _)); refine blk_far ?_ N12_.1 _; (with_reducible repeat (first | refine blk_drewN ?_ _ | refine blk_drew ?_ | refine blk_alloc ?_ _)); exact B1_.1⟩, ⟨by (with_reducible repeat (first | refine blk_drewN ?_ _ | refine blk_drew ?_ | refine blk_alloc ?_ _)); refine blk_put (cs := #[.int .i64 t190, .int .i64 0]) ?_ 1 _ rfl; (with_reducible repeat (first | refine blk_drewN ?_ _ | refine blk_drew ?_ | refine blk_alloc ?_ _)); refine blk_put (cs := #[.int .i64 0, .int .i64 0]) ?_ 0 _ rfl; (with_reducible repeat (first | refine blk_drewN ?_ _ | refine blk_drew ?_ | refine blk_alloc ?_ _)); exact B2_.1⟩, ⟨by repeat (first | (with_reducible first | exact HB.1 | apply bA | apply pD | apply b1 | apply bS E0_.1 | apply bS E1_.1 | apply bS E2_.1) | exact HB.1)⟩⟩
  case round =>
   clear H'
   try clear c1
   try clear p2
   try clear c3
   try clear c5
   try clear c6
   try clear c6b0
   try clear c6b1
   try clear c14
   try clear c18
   try clear c19
   try clear hcz15_0
   try clear hcz15_1
   try clear hcz15_10
   try clear hcz15_11
   try clear hcz15_2
   try clear hcz15_3
   try clear hcz15_4
   try clear hcz15_5
   try clear hcz15_6
   try clear hcz15_7
   try clear hcz15_8
   try clear hcz15_9
   try clear hcz20_0
   try clear hcz20_1
   try clear hfz15_0
   try clear hfz15_1
   try clear hfz15_10
   try clear hfz15_11
   try clear hfz15_2
   try clear hfz15_3
   try clear hfz15_4
   try clear hfz15_5
   try clear hfz15_6
   try clear hfz15_7
   try clear hfz15_8
   try clear hfz15_9
   try clear hfz20_0
   try clear hfz20_1
   obtain ⟨x27_1, rfl, HA, HK1, B0_, B1_, B2_, HB⟩ := hrel
   cases gk with
   | zero => exact absurd HA.out (by simp [clepsydralaw10_ProbeNarrows.l0])
   | succ k1 =>
    have H := HA.out
    clear HA
    simp only [clepsydralaw10_ProbeNarrows.l0] at H
    by_cases c21 : x27_1 < (l1.length : Int)
    ·rw [if_pos c21] at H
     have c21b0 : decide (x27_1 < (l1.length : Int)) = true := decide_eq_true c21
     clear c21
     by_cases c22 : 0 ≤ x27_1
     ·rw [if_pos c22] at H
      have c22b0 : decide (0 ≤ x27_1) = true := decide_eq_true c22
      clear c22
      by_cases c23 : x27_1 < (l1.length : Int)
      ·rw [if_pos c23] at H
       have c23b0 : decide (x27_1 < (l1.length : Int)) = true := decide_eq_true c23
       clear c23
       replace H := Option.bind_eq_some_iff.mp H
       obtain ⟨⟨t214, t215⟩, A240, H⟩ := H
       replace H : ((probe_Right.f k1 a0_0 a0_1 a0_2 a0_3 a0_4 a0_5 a0_6 a0_7 a0_8 a0_9 a0_10 a0_11 ((rd_T57 l1 x27_1).f0) ((rd_T57 l1 x27_1).f1) ((rd_T57 l1 x27_1).f2) ((rd_T57 l1 x27_1).f3)).bind fun t217 => (if t217 = true then (if t192 = true then ((clepsydraref03_Wide.f t190 t191).bind fun t218 => ((clepsydraref03_Wide.f t214 t215).bind fun t219 => (if t218 > t219 then (some false) else (clepsydralaw10_ProbeNarrows.l0 k1 l1 t192 l1 (l1.length : Int) (wrap64 (x27_1 + 1)) a0_0 a0_1 a0_2 a0_3 a0_4 a0_5 a0_6 a0_7 a0_8 a0_9 a0_10 a0_11 a2_0 a2_1 a2_2 a2_3 t190 t191)))) else (some false)) else (clepsydralaw10_ProbeNarrows.l0 k1 l1 t192 l1 (l1.length : Int) (wrap64 (x27_1 + 1)) a0_0 a0_1 a0_2 a0_3 a0_4 a0_5 a0_6 a0_7 a0_8 a0_9 a0_10 a0_11 a2_0 a2_1 a2_2 a2_3 t190 t191))) = some r := H
       have A24 := mk A240
       clear A240
       replace H := Option.bind_eq_some_iff.mp H
       obtain ⟨t217, A250, H⟩ := H
       replace H : (if t217 = true then (if t192 = true then ((clepsydraref03_Wide.f t190 t191).bind fun t218 => ((clepsydraref03_Wide.f t214 t215).bind fun t219 => (if t218 > t219 then (some false) else (clepsydralaw10_ProbeNarrows.l0 k1 l1 t192 l1 (l1.length : Int) (wrap64 (x27_1 + 1)) a0_0 a0_1 a0_2 a0_3 a0_4 a0_5 a0_6 a0_7 a0_8 a0_9 a0_10 a0_11 a2_0 a2_1 a2_2 a2_3 t190 t191)))) else (some false)) else (clepsydralaw10_ProbeNarrows.l0 k1 l1 t192 l1 (l1.length : Int) (wrap64 (x27_1 + 1)) a0_0 a0_1 a0_2 a0_3 a0_4 a0_5 a0_6 a0_7 a0_8 a0_9 a0_10 a0_11 a2_0 a2_1 a2_2 a2_3 t190 t191)) = some r := H
       have A25 := mk A250
       clear A250
       by_cases c26 : t217 = true
       ·subst c26
        have H1 : (if t192 = true then ((clepsydraref03_Wide.f t190 t191).bind fun t218 => ((clepsydraref03_Wide.f t214 t215).bind fun t219 => (if t218 > t219 then (some false) else (clepsydralaw10_ProbeNarrows.l0 k1 l1 t192 l1 (l1.length : Int) (wrap64 (x27_1 + 1)) a0_0 a0_1 a0_2 a0_3 a0_4 a0_5 a0_6 a0_7 a0_8 a0_9 a0_10 a0_11 a2_0 a2_1 a2_2 a2_3 t190 t191)))) else (some false)) = some r := by rw [if_pos rfl] at H; exact H
        clear H
        have H := H1
        clear H1
        by_cases c27 : t192 = true
        ·subst c27
         have H1 : ((clepsydraref03_Wide.f t190 t191).bind fun t218 => ((clepsydraref03_Wide.f t214 t215).bind fun t219 => (if t218 > t219 then (some false) else (clepsydralaw10_ProbeNarrows.l0 k1 l1 true l1 (l1.length : Int) (wrap64 (x27_1 + 1)) a0_0 a0_1 a0_2 a0_3 a0_4 a0_5 a0_6 a0_7 a0_8 a0_9 a0_10 a0_11 a2_0 a2_1 a2_2 a2_3 t190 t191)))) = some r := by rw [if_pos rfl] at H; exact H
         clear H
         have H := H1
         clear H1
         replace H := Option.bind_eq_some_iff.mp H
         obtain ⟨t218, A280, H⟩ := H
         replace H : ((clepsydraref03_Wide.f t214 t215).bind fun t219 => (if t218 > t219 then (some false) else (clepsydralaw10_ProbeNarrows.l0 k1 l1 true l1 (l1.length : Int) (wrap64 (x27_1 + 1)) a0_0 a0_1 a0_2 a0_3 a0_4 a0_5 a0_6 a0_7 a0_8 a0_9 a0_10 a0_11 a2_0 a2_1 a2_2 a2_3 t190 t191))) = some r := H
         have A28 := mk A280
         clear A280
         replace H := Option.bind_eq_some_iff.mp H
         obtain ⟨t219, A290, H⟩ := H
         replace H : (if t218 > t219 then (some false) else (clepsydralaw10_ProbeNarrows.l0 k1 l1 true l1 (l1.length : Int) (wrap64 (x27_1 + 1)) a0_0 a0_1 a0_2 a0_3 a0_4 a0_5 a0_6 a0_7 a0_8 a0_9 a0_10 a0_11 a2_0 a2_1 a2_2 a2_3 t190 t191)) = some r := H
         have A29 := mk A290
         clear A290
         by_cases c30 : t218 > t219
         ·rw [if_pos c30] at H
          have c30b0 : decide (t219 < t218) = true := decide_eq_true c30
          clear c30
          exact absurd ((Option.some.inj H).trans hT.out) (by decide)
         rw [if_neg c30] at H
         have c30b0 : decide (t219 < t218) = false := decide_eq_false c30
         clear c30
         have H' := mk H
         clear H
         have p212 : 0 ≤ (x27_1 : Int) := of_decide_eq_true (by first | (with_reducible assumption) | assumption)
         have q212 : x27_1 < (l1.length : Int) := of_decide_eq_true (by first | (with_reducible assumption) | assumption)
         obtain ⟨ad212, e212, hx212_0, hx212_1, hx212_2, hx212_3⟩ := at_T57 HR1.out x27_1 p212 q212
         cases e212
         replace hx212_0 := (HB.1.cell (World.block_lt_of_cell? w _ hx212_0)).trans hx212_0
         replace hx212_1 := (HB.1.cell (World.block_lt_of_cell? w _ hx212_1)).trans hx212_1
         replace hx212_2 := (HB.1.cell (World.block_lt_of_cell? w _ hx212_2)).trans hx212_2
         replace hx212_3 := (HB.1.cell (World.block_lt_of_cell? w _ hx212_3)).trans hx212_3
         replace p212 := eq_true p212
         replace q212 := eq_true q212
         try go_wp2_with (first | ((with_reducible refine gate_dst (N := 10) rfl ?_); refine box_event ?hg (N := 10) ?hd (cs := #[.int .i64 0, .int .i64 0, .int .i64 0, .int .i64 0]) (t := 57) ?hr ?_; (case hd => rfl); (case hg => rfl); (case hr => first | (go_simp; done) | (go_simp; rfl)); intro g4_ hg w31 hbox hb; have n0_ := bb hb B0_.1; have n1_ := bb hb B1_.1; have n2_ := bb hb B2_.1; have n3_ := mk (below_step (by repeat first | exact HB.1 | apply pD | apply b1 | refine bT (by assumption) ?_ | apply bA) hb); have n4_ := mk (hbox); have n5_ := gl hg (by repeat first | exact HB.1 | apply pD | apply b1 | refine bT (by assumption) ?_ | apply bA); have n6_ := gl hg (by repeat first | exact HB.1 | apply pD | apply b1 | refine bT (by assumption) ?_ | apply bA); have n7_ := nl hg B0_.1; have n8_ := ng hg B0_.1; have n9_ := nl hg B1_.1; have n10_ := ng hg B1_.1; have n11_ := nl hg B2_.1; have n12_ := ng hg B2_.1; clear B0_; clear B1_; clear B2_; clear HB; have B0_ := n0_; have B1_ := n1_; have B2_ := n2_; have HB := n3_; have B4_ := n4_; have W4_ := n5_; have E4_ := n6_; have N04_ := n7_; have N40_ := n8_; have N14_ := n9_; have N41_ := n10_; have N24_ := n11_; have N42_ := n12_; clear n0_ n1_ n2_ n3_ n4_ n5_ n6_ n7_ n8_ n9_ n10_ n11_ n12_; clear hb hbox hg; have hnb32 := N40_.1; have hnc32 := N04_.1; have hnb33 := N41_.1; have hnc33 := N14_.1; have hnb34 := N42_.1; have hnc34 := N24_.1; have hcz35_0 : w31.cell? ⟨g4_, 0, none⟩ = some (.int .i64 0) := bQ B4_.1 0; have hcz35_1 : w31.cell? ⟨g4_, 1, none⟩ = some (.int .i64 0) := bQ B4_.1 1; have hcz35_2 : w31.cell? ⟨g4_, 2, none⟩ = some (.int .i64 0) := bQ B4_.1 2; have hcz35_3 : w31.cell? ⟨g4_, 3, none⟩ = some (.int .i64 0) := bQ B4_.1 3; have hfz35_0 := blk_frozen B4_.1 0; have hfz35_1 := blk_frozen B4_.1 1; have hfz35_2 := blk_frozen B4_.1 2; have hfz35_3 := blk_frozen B4_.1 3; have hnb36 := N01_.1; have hnc36 := N10_.1; have hnb37 := N02_.1; have hnc37 := N20_.1; have hcz38_0 : w31.cell? ⟨g0_, 0, none⟩ = some (.int .i64 a0_0) := bQ B0_.1 0; have hcz38_1 : w31.cell? ⟨g0_, 1, none⟩ = some (.int .i64 a0_1) := bQ B0_.1 1; have hcz38_2 : w31.cell? ⟨g0_, 2, none⟩ = some (.int .i64 a0_2) := bQ B0_.1 2; have hcz38_3 : w31.cell? ⟨g0_, 3, none⟩ = some (.int .i64 a0_3) := bQ B0_.1 3; have hcz38_4 : w31.cell? ⟨g0_, 4, none⟩ = some (.int .i64 a0_4) := bQ B0_.1 4; have hcz38_5 : w31.cell? ⟨g0_, 5, none⟩ = some (.int .i64 a0_5) := bQ B0_.1 5; have hcz38_6 : w31.cell? ⟨g0_, 6, none⟩ = some (.int .i64 a0_6) := bQ B0_.1 6; have hcz38_7 : w31.cell? ⟨g0_, 7, none⟩ = some (.int .i64 a0_7) := bQ B0_.1 7; have hcz38_8 : w31.cell? ⟨g0_, 8, none⟩ = some (.int .i64 a0_8) := bQ B0_.1 8; have hcz38_9 : w31.cell? ⟨g0_, 9, none⟩ = some (.int .i64 a0_9) := bQ B0_.1 9; have hcz38_10 : w31.cell? ⟨g0_, 10, none⟩ = some (.int .i64 a0_10) := bQ B0_.1 10; have hcz38_11 : w31.cell? ⟨g0_, 11, none⟩ = some (.int .i64 a0_11) := bQ B0_.1 11; have hfz38_0 := blk_frozen B0_.1 0; have hfz38_1 := blk_frozen B0_.1 1; have hfz38_2 := blk_frozen B0_.1 2; have hfz38_3 := blk_frozen B0_.1 3; have hfz38_4 := blk_frozen B0_.1 4; have hfz38_5 := blk_frozen B0_.1 5; have hfz38_6 := blk_frozen B0_.1 6; have hfz38_7 := blk_frozen B0_.1 7; have hfz38_8 := blk_frozen B0_.1 8; have hfz38_9 := blk_frozen B0_.1 9; have hfz38_10 := blk_frozen B0_.1 10; have hfz38_11 := blk_frozen B0_.1 11) | ((with_reducible refine gate_callee (f := 33) rfl ?_); refine goesL_ (some 33) rfl rfl Try.func33 (by kernel_rfl) rfl #[.agg #[.int .i64 a0_0, .int .i64 a0_1, .int .i64 a0_2, .int .i64 a0_3, .int .i64 a0_4, .int .i64 a0_5, .int .i64 a0_6, .int .i64 a0_7, .int .i64 a0_8, .int .i64 a0_9, .int .i64 a0_10, .int .i64 a0_11], .agg #[.int .i64 ((rd_T57 l1 x27_1).f0), .int .i64 ((rd_T57 l1 x27_1).f1), .int .i64 ((rd_T57 l1 x27_1).f2), .int .i64 ((rd_T57 l1 x27_1).f3)]] rfl (by (try simp only [List.map_toArray, List.map_cons, List.map_nil]); first | done | rfl | (simp only [List.length_drop, List.length_take]; rfl)) ?_; (with_reducible refine (probe_Ahead.calls k1 a0_0 a0_1 a0_2 a0_3 a0_4 a0_5 a0_6 a0_7 a0_8 a0_9 a0_10 a0_11 ((rd_T57 l1 x27_1).f0) ((rd_T57 l1 x27_1).f1) ((rd_T57 l1 x27_1).f2) ((rd_T57 l1 x27_1).f3) t214 t215 _ A24.1).mono ?_); rintro e w39 ⟨rfl, hb⟩; refine ⟨_, rfl, ?_⟩; have n0_ := mk (blk_below (g := g0_) (o := .cells #[.int .i64 a0_0, .int .i64 a0_1, .int .i64 a0_2, .int .i64 a0_3, .int .i64 a0_4, .int .i64 a0_5, .int .i64 a0_6, .int .i64 a0_7, .int .i64 a0_8, .int .i64 a0_9, .int .i64 a0_10, .int .i64 a0_11] 23 (0, 0)) (by (with_reducible repeat (first | refine blk_drewN ?_ _ | refine blk_drew ?_ | refine blk_alloc ?_ _)); refine blk_far ?_ N04_.1 _; (with_reducible repeat (first | refine blk_drewN ?_ _ | refine blk_drew ?_ | refine blk_alloc ?_ _)); refine blk_far ?_ N04_.1 _; (with_reducible repeat (first | refine blk_drewN ?_ _ | refine blk_drew ?_ | refine blk_alloc ?_ _)); refine blk_far ?_ N04_.1 _; (with_reducible repeat (first | refine blk_drewN ?_ _ | refine blk_drew ?_ | refine blk_alloc ?_ _)); refine blk_far ?_ N04_.1 _; (with_reducible repeat (first | refine blk_drewN ?_ _ | refine blk_drew ?_ | refine blk_alloc ?_ _)); exact B0_.1) hb); have n1_ := mk (blk_below (g := g1_) (o := .cells #[.int .i64 a2_0, .int .i64 a2_1, .int .i64 a2_2, .int .i64 a2_3] 57 (0, 0)) (by (with_reducible repeat (first | refine blk_drewN ?_ _ | refine blk_drew ?_ | refine blk_alloc ?_ _)); refine blk_far ?_ N14_.1 _; (with_reducible repeat (first | refine blk_drewN ?_ _ | refine blk_drew ?_ | refine blk_alloc ?_ _)); refine blk_far ?_ N14_.1 _; (with_reducible repeat (first | refine blk_drewN ?_ _ | refine blk_drew ?_ | refine blk_alloc ?_ _)); refine blk_far ?_ N14_.1 _; (with_reducible repeat (first | refine blk_drewN ?_ _ | refine blk_drew ?_ | refine blk_alloc ?_ _)); refine blk_far ?_ N14_.1 _; (with_reducible repeat (first | refine blk_drewN ?_ _ | refine blk_drew ?_ | refine blk_alloc ?_ _)); exact B1_.1) hb); have n2_ := mk (blk_below (g := g2_) (o := .cells #[.int .i64 t190, .int .i64 t191] 25 (0, 0)) (by (with_reducible repeat (first | refine blk_drewN ?_ _ | refine blk_drew ?_ | refine blk_alloc ?_ _)); refine blk_far ?_ N24_.1 _; (with_reducible repeat (first | refine blk_drewN ?_ _ | refine blk_drew ?_ | refine blk_alloc ?_ _)); refine blk_far ?_ N24_.1 _; (with_reducible repeat (first | refine blk_drewN ?_ _ | refine blk_drew ?_ | refine blk_alloc ?_ _)); refine blk_far ?_ N24_.1 _; (with_reducible repeat (first | refine blk_drewN ?_ _ | refine blk_drew ?_ | refine blk_alloc ?_ _)); refine blk_far ?_ N24_.1 _; (with_reducible repeat (first | refine blk_drewN ?_ _ | refine blk_drew ?_ | refine blk_alloc ?_ _)); exact B2_.1) hb); have n3_ := mk (blk_below (g := g4_) (o := .cells #[.int .i64 ((rd_T57 l1 x27_1).f0), .int .i64 ((rd_T57 l1 x27_1).f1), .int .i64 ((rd_T57 l1 x27_1).f2), .int .i64 ((rd_T57 l1 x27_1).f3)] 57 (0, 0)) (by (with_reducible repeat (first | refine blk_drewN ?_ _ | refine blk_drew ?_ | refine blk_alloc ?_ _)); refine blk_put (cs := #[.int .i64 ((rd_T57 l1 x27_1).f0), .int .i64 ((rd_T57 l1 x27_1).f1), .int .i64 ((rd_T57 l1 x27_1).f2), .int .i64 0]) ?_ 3 _ rfl; (with_reducible repeat (first | refine blk_drewN ?_ _ | refine blk_drew ?_ | refine blk_alloc ?_ _)); refine blk_put (cs := #[.int .i64 ((rd_T57 l1 x27_1).f0), .int .i64 ((rd_T57 l1 x27_1).f1), .int .i64 0, .int .i64 0]) ?_ 2 _ rfl; (with_reducible repeat (first | refine blk_drewN ?_ _ | refine blk_drew ?_ | refine blk_alloc ?_ _)); refine blk_put (cs := #[.int .i64 ((rd_T57 l1 x27_1).f0), .int .i64 0, .int .i64 0, .int .i64 0]) ?_ 1 _ rfl; (with_reducible repeat (first | refine blk_drewN ?_ _ | refine blk_drew ?_ | refine blk_alloc ?_ _)); refine blk_put (cs := #[.int .i64 0, .int .i64 0, .int .i64 0, .int .i64 0]) ?_ 0 _ rfl; (with_reducible repeat (first | refine blk_drewN ?_ _ | refine blk_drew ?_ | refine blk_alloc ?_ _)); exact B4_.1) hb); have n4_ := mk (below_step (by repeat first | exact HB.1 | apply pD | apply b1 | refine bT (by assumption) ?_ | apply bA) hb); clear B0_; clear B1_; clear B2_; clear B4_; clear HB; have B0_ := n0_; have B1_ := n1_; have B2_ := n2_; have B4_ := n3_; have HB := n4_; clear n0_ n1_ n2_ n3_ n4_; (try clear hb); (try clear hb2); (try clear hk); (try clear hi)) | ((with_reducible refine gate_dst (N := 11) rfl ?_); refine box_event ?hg (N := 11) ?hd (cs := #[.int .i64 0, .int .i64 0]) (t := 25) ?hr ?_; (case hd => rfl); (case hg => rfl); (case hr => first | (go_simp; done) | (go_simp; rfl)); intro g5_ hg w40 hbox hb; have n0_ := bb hb B0_.1; have n1_ := bb hb B1_.1; have n2_ := bb hb B2_.1; have n3_ := bb hb B4_.1; have n4_ := mk (below_step (by repeat first | exact HB.1 | apply pD | apply b1 | refine bT (by assumption) ?_ | apply bA) hb); have n5_ := mk (hbox); have n6_ := gl hg (by repeat first | exact HB.1 | apply pD | apply b1 | refine bT (by assumption) ?_ | apply bA); have n7_ := gl hg (by repeat first | exact HB.1 | apply pD | apply b1 | refine bT (by assumption) ?_ | apply bA); have n8_ := nl hg B0_.1; have n9_ := ng hg B0_.1; have n10_ := nl hg B1_.1; have n11_ := ng hg B1_.1; have n12_ := nl hg B2_.1; have n13_ := ng hg B2_.1; have n14_ := nl hg B4_.1; have n15_ := ng hg B4_.1; clear B0_; clear B1_; clear B2_; clear B4_; clear HB; have B0_ := n0_; have B1_ := n1_; have B2_ := n2_; have B4_ := n3_; have HB := n4_; have B5_ := n5_; have W5_ := n6_; have E5_ := n7_; have N05_ := n8_; have N50_ := n9_; have N15_ := n10_; have N51_ := n11_; have N25_ := n12_; have N52_ := n13_; have N45_ := n14_; have N54_ := n15_; clear n0_ n1_ n2_ n3_ n4_ n5_ n6_ n7_ n8_ n9_ n10_ n11_ n12_ n13_ n14_ n15_; clear hb hbox hg; have hnb41 := N50_.1; have hnc41 := N05_.1; have hnb42 := N51_.1; have hnc42 := N15_.1; have hnb43 := N52_.1; have hnc43 := N25_.1; have hnb44 := N54_.1; have hnc44 := N45_.1; have hcz45_0 : w40.cell? ⟨g5_, 0, none⟩ = some (.int .i64 0) := bQ B5_.1 0; have hcz45_1 : w40.cell? ⟨g5_, 1, none⟩ = some (.int .i64 0) := bQ B5_.1 1; have hfz45_0 := blk_frozen B5_.1 0; have hfz45_1 := blk_frozen B5_.1 1))
         have n0_ : Aside0 (((w40.setCell ⟨g5_, 0, none⟩ (.int .i64 t214)).setCell ⟨g5_, 1, none⟩ (.int .i64 t215)).heap[g0_]? = some (.cells #[.int .i64 a0_0, .int .i64 a0_1, .int .i64 a0_2, .int .i64 a0_3, .int .i64 a0_4, .int .i64 a0_5, .int .i64 a0_6, .int .i64 a0_7, .int .i64 a0_8, .int .i64 a0_9, .int .i64 a0_10, .int .i64 a0_11] 23 (0, 0))) := ⟨by (with_reducible repeat (first | refine blk_drewN ?_ _ | refine blk_drew ?_ | refine blk_alloc ?_ _)); refine blk_far ?_ N05_.1 _; (with_reducible repeat (first | refine blk_drewN ?_ _ | refine blk_drew ?_ | refine blk_alloc ?_ _)); refine blk_far ?_ N05_.1 _; (with_reducible repeat (first | refine blk_drewN ?_ _ | refine blk_drew ?_ | refine blk_alloc ?_ _)); exact B0_.1⟩
         have n1_ : Aside0 (((w40.setCell ⟨g5_, 0, none⟩ (.int .i64 t214)).setCell ⟨g5_, 1, none⟩ (.int .i64 t215)).heap[g1_]? = some (.cells #[.int .i64 a2_0, .int .i64 a2_1, .int .i64 a2_2, .int .i64 a2_3] 57 (0, 0))) := ⟨by (with_reducible repeat (first | refine blk_drewN ?_ _ | refine blk_drew ?_ | refine blk_alloc ?_ _)); refine blk_far ?_ N15_.1 _; (with_reducible repeat (first | refine blk_drewN ?_ _ | refine blk_drew ?_ | refine blk_alloc ?_ _)); refine blk_far ?_ N15_.1 _; (with_reducible repeat (first | refine blk_drewN ?_ _ | refine blk_drew ?_ | refine blk_alloc ?_ _)); exact B1_.1⟩
         have n2_ : Aside0 (((w40.setCell ⟨g5_, 0, none⟩ (.int .i64 t214)).setCell ⟨g5_, 1, none⟩ (.int .i64 t215)).heap[g2_]? = some (.cells #[.int .i64 t190, .int .i64 t191] 25 (0, 0))) := ⟨by (with_reducible repeat (first | refine blk_drewN ?_ _ | refine blk_drew ?_ | refine blk_alloc ?_ _)); refine blk_far ?_ N25_.1 _; (with_reducible repeat (first | refine blk_drewN ?_ _ | refine blk_drew ?_ | refine blk_alloc ?_ _)); refine blk_far ?_ N25_.1 _; (with_reducible repeat (first | refine blk_drewN ?_ _ | refine blk_drew ?_ | refine blk_alloc ?_ _)); exact B2_.1⟩
         have n3_ : Aside0 (((w40.setCell ⟨g5_, 0, none⟩ (.int .i64 t214)).setCell ⟨g5_, 1, none⟩ (.int .i64 t215)).heap[g4_]? = some (.cells #[.int .i64 ((rd_T57 l1 x27_1).f0), .int .i64 ((rd_T57 l1 x27_1).f1), .int .i64 ((rd_T57 l1 x27_1).f2), .int .i64 ((rd_T57 l1 x27_1).f3)] 57 (0, 0))) := ⟨by (with_reducible repeat (first | refine blk_drewN ?_ _ | refine blk_drew ?_ | refine blk_alloc ?_ _)); refine blk_far ?_ N45_.1 _; (with_reducible repeat (first | refine blk_drewN ?_ _ | refine blk_drew ?_ | refine blk_alloc ?_ _)); refine blk_far ?_ N45_.1 _; (with_reducible repeat (first | refine blk_drewN ?_ _ | refine blk_drew ?_ | refine blk_alloc ?_ _)); exact B4_.1⟩
         have n4_ : Aside0 (((w40.setCell ⟨g5_, 0, none⟩ (.int .i64 t214)).setCell ⟨g5_, 1, none⟩ (.int .i64 t215)).heap[g5_]? = some (.cells #[.int .i64 t214, .int .i64 t215] 25 (0, 0))) := ⟨by (with_reducible repeat (first | refine blk_drewN ?_ _ | refine blk_drew ?_ | refine blk_alloc ?_ _)); refine blk_put (cs := #[.int .i64 t214, .int .i64 0]) ?_ 1 _ rfl; (with_reducible repeat (first | refine blk_drewN ?_ _ | refine blk_drew ?_ | refine blk_alloc ?_ _)); refine blk_put (cs := #[.int .i64 0, .int .i64 0]) ?_ 0 _ rfl; (with_reducible repeat (first | refine blk_drewN ?_ _ | refine blk_drew ?_ | refine blk_alloc ?_ _)); exact B5_.1⟩
         have n5_ : Aside0 (Below w.heap.size w ((w40.setCell ⟨g5_, 0, none⟩ (.int .i64 t214)).setCell ⟨g5_, 1, none⟩ (.int .i64 t215))) := ⟨by repeat (first | (with_reducible first | exact HB.1 | apply bA | apply pD | apply b1 | apply bS E0_.1 | apply bS E1_.1 | apply bS E2_.1 | apply bS E4_.1 | apply bS E5_.1) | exact HB.1)⟩
         (try clear B0_)
         (try clear B1_)
         (try clear B2_)
         (try clear B4_)
         (try clear B5_)
         (try clear HB)
         generalize ((w40.setCell ⟨g5_, 0, none⟩ (.int .i64 t214)).setCell ⟨g5_, 1, none⟩ (.int .i64 t215)) = w46 at n0_ n1_ n2_ n3_ n4_ n5_ ⊢
         have B0_ := n0_
         have B1_ := n1_
         have B2_ := n2_
         have B4_ := n3_
         have B5_ := n4_
         have HB := n5_
         clear n0_ n1_ n2_ n3_ n4_ n5_
         have n0_ := mk (blk_drew B0_.1)
         have n1_ := mk (blk_drew B1_.1)
         have n2_ := mk (blk_drew B2_.1)
         have n3_ := mk (blk_drew B4_.1)
         have n4_ := mk (blk_drew B5_.1)
         have n5_ := mk (below_drew1 HB.1)
         clear B0_ B1_ B2_ B4_ B5_ HB
         have B0_ := n0_
         have B1_ := n1_
         have B2_ := n2_
         have B4_ := n3_
         have B5_ := n4_
         have HB := n5_
         clear n0_ n1_ n2_ n3_ n4_ n5_
         refine start_ (n := 14) (S := fun w' => w'.cell? ⟨g0_, 0, none⟩ = some (.int .i64 a0_0) ∧ w'.cell? ⟨g0_, 1, none⟩ = some (.int .i64 a0_1) ∧ w'.cell? ⟨g0_, 2, none⟩ = some (.int .i64 a0_2) ∧ w'.cell? ⟨g0_, 3, none⟩ = some (.int .i64 a0_3) ∧ w'.cell? ⟨g0_, 4, none⟩ = some (.int .i64 a0_4) ∧ w'.cell? ⟨g0_, 5, none⟩ = some (.int .i64 a0_5) ∧ w'.cell? ⟨g0_, 6, none⟩ = some (.int .i64 a0_6) ∧ w'.cell? ⟨g0_, 7, none⟩ = some (.int .i64 a0_7) ∧ w'.cell? ⟨g0_, 8, none⟩ = some (.int .i64 a0_8) ∧ w'.cell? ⟨g0_, 9, none⟩ = some (.int .i64 a0_9) ∧ w'.cell? ⟨g0_, 10, none⟩ = some (.int .i64 a0_10) ∧ w'.cell? ⟨g0_, 11, none⟩ = some (.int .i64 a0_11) ∧ w'.cell? ⟨g4_, 0, none⟩ = some (.int .i64 ((rd_T57 l1 x27_1).f0)) ∧ w'.cell? ⟨g4_, 1, none⟩ = some (.int .i64 ((rd_T57 l1 x27_1).f1)) ∧ w'.cell? ⟨g4_, 2, none⟩ = some (.int .i64 ((rd_T57 l1 x27_1).f2)) ∧ w'.cell? ⟨g4_, 3, none⟩ = some (.int .i64 ((rd_T57 l1 x27_1).f3)) ∧ w'.cell? ⟨g2_, 0, none⟩ = some (.int .i64 t190) ∧ w'.cell? ⟨g2_, 1, none⟩ = some (.int .i64 t191) ∧ w'.cell? ⟨g5_, 0, none⟩ = some (.int .i64 t214) ∧ w'.cell? ⟨g5_, 1, none⟩ = some (.int .i64 t215)) (ds := []) (bs 14 0) (by kernel_rfl) rfl rfl (c12t B0_.1 ⟨bQ B4_.1 0, bQ B4_.1 1, bQ B4_.1 2, bQ B4_.1 3, bQ B2_.1 0, bQ B2_.1 1, bQ B5_.1 0, bQ B5_.1 1⟩) (fun hHeld => ?_); refine with_tabW clepsydralaw10_ProbeNarrows.tab10 clepsydralaw10_ProbeNarrows.bits10 (fun HT_ HW_ => ?_)
         generalize w46.drew = w47 at B0_ B1_ B2_ B4_ B5_ HB hHeld ⊢
         refine take_ (i := 0) (N := some 34) (v := ?_) (a' := ?_) (bs 14 1) rfl rfl (take_ofW HT_.out HW_.out (by kernel_rfl)) (fun _ _ _ h => h) (Or.inl ⟨by rfl, ?_⟩) hHeld ?_ ?_
         rotate_left
         ·rintro w' ⟨s0, s1, s2, s3, s4, s5, s6, s7, s8, s9, s10, s11, s12, s13, s14, s15, s16, s17, s18, s19⟩
          go_simp
          with_reducible rfl
         rotate_left
         ·simp only [Act.put, List.setIfInBounds_toArray, List.set_cons_zero, List.set_cons_succ, i64_w, i32_w]
          rfl
         refine take_ (i := 1) (N := some 35) (v := ?_) (a' := ?_) (bs 14 3) rfl rfl (take_ofW HT_.out HW_.out (by kernel_rfl)) (fun _ _ _ h => h) (Or.inl ⟨by rfl, ?_⟩) hHeld ?_ ?_
         rotate_left
         ·rintro w' ⟨s0, s1, s2, s3, s4, s5, s6, s7, s8, s9, s10, s11, s12, s13, s14, s15, s16, s17, s18, s19⟩
          go_simp
          with_reducible rfl
         rotate_left
         ·simp only [Act.put, List.setIfInBounds_toArray, List.set_cons_zero, List.set_cons_succ, i64_w, i32_w]
          rfl
         refine one_ (i := 2) (N := some 36) (bs 14 7) rfl rfl (one_of HT_.out (by kernel_rfl)) (by decide) (fun K hK => ?_)
         refine goes_ Try.func34 (by kernel_rfl) rfl #[.agg #[.int .i64 a0_0, .int .i64 a0_1, .int .i64 a0_2, .int .i64 a0_3, .int .i64 a0_4, .int .i64 a0_5, .int .i64 a0_6, .int .i64 a0_7, .int .i64 a0_8, .int .i64 a0_9, .int .i64 a0_10, .int .i64 a0_11], .agg #[.int .i64 ((rd_T57 l1 x27_1).f0), .int .i64 ((rd_T57 l1 x27_1).f1), .int .i64 ((rd_T57 l1 x27_1).f2), .int .i64 ((rd_T57 l1 x27_1).f3)]] (by rfl) rfl rfl (by (try simp only [List.map_toArray, List.map_cons, List.map_nil]); first | done | rfl | (simp only [List.length_drop, List.length_take]; rfl)) ?_
         with_reducible refine (probe_Right.calls k1 a0_0 a0_1 a0_2 a0_3 a0_4 a0_5 a0_6 a0_7 a0_8 a0_9 a0_10 a0_11 ((rd_T57 l1 x27_1).f0) ((rd_T57 l1 x27_1).f1) ((rd_T57 l1 x27_1).f2) ((rd_T57 l1 x27_1).f3) true _ A25.1).mono ?_
         rintro e w48 ⟨rfl, hb⟩
         refine ⟨_, rfl, ?_⟩
         have n0_ := bb hb B0_.1
         have n1_ := bb hb B1_.1
         have n2_ := bb hb B2_.1
         have n3_ := bb hb B4_.1
         have n4_ := bb hb B5_.1
         have n5_ := mk (below_step (by repeat first | exact HB.1 | apply pD | apply b1 | refine bT (by assumption) ?_ | apply bA) hb)
         clear B0_ B1_ B2_ B4_ B5_ HB
         have B0_ := n0_
         have B1_ := n1_
         have B2_ := n2_
         have B4_ := n3_
         have B5_ := n4_
         have HB := n5_
         clear n0_ n1_ n2_ n3_ n4_ n5_
         (try clear hb)
         (try clear hb2)
         (try clear hk)
         (try clear hi)
         refine hK.out _ _ (c12t B0_.1 ⟨bQ B4_.1 0, bQ B4_.1 1, bQ B4_.1 2, bQ B4_.1 3, bQ B2_.1 0, bQ B2_.1 1, bQ B5_.1 0, bQ B5_.1 1⟩) (fun hHeld => ?_)
         clear hK K
         refine norm_ (a' := ?_) ?_ ?_
         rotate_left
         ·show Act.put _ (some 36) _ = _
          simp only [Act.put, List.setIfInBounds_toArray, List.set_cons_zero, List.set_cons_succ, i64_w, i32_w]
          rfl
         refine pure_ (i := 3) (N := some 37) (v := ?_) (a' := ?_) (bs 14 15) rfl rfl (any_of HT_.out (by kernel_rfl)) (fun _ _ _ h => h) (Or.inl ⟨by rfl, ?_⟩) ?_ ?_
         rotate_left
         ·intro w'
          go_simp
          with_reducible rfl
         rotate_left
         ·simp only [Act.put, List.setIfInBounds_toArray, List.set_cons_zero, List.set_cons_succ, i64_w, i32_w]
          rfl
         refine pure_ (i := 4) (N := some 38) (v := ?_) (a' := ?_) (bs 14 31) rfl rfl (any_of HT_.out (by kernel_rfl)) (fun _ _ _ h => h) (Or.inl ⟨by rfl, ?_⟩) ?_ ?_
         rotate_left
         ·intro w'
          go_simp
          with_reducible rfl
         rotate_left
         ·simp only [Act.put, List.setIfInBounds_toArray, List.set_cons_zero, List.set_cons_succ, i64_w, i32_w]
          rfl
         refine pure_ (i := 5) (N := some 39) (v := ?_) (a' := ?_) (bs 14 63) rfl rfl (any_of HT_.out (by kernel_rfl)) (fun _ _ _ h => h) (Or.inl ⟨by rfl, ?_⟩) ?_ ?_
         rotate_left
         ·intro w'
          go_simp
          with_reducible rfl
         rotate_left
         ·simp only [Act.put, List.setIfInBounds_toArray, List.set_cons_zero, List.set_cons_succ, i64_w, i32_w]
          rfl
         refine pure_ (i := 6) (N := some 40) (v := ?_) (a' := ?_) (bs 14 127) rfl rfl (any_of HT_.out (by kernel_rfl)) (fun _ _ _ h => h) (Or.inl ⟨by rfl, ?_⟩) ?_ ?_
         rotate_left
         ·intro w'
          go_simp
          with_reducible rfl
         rotate_left
         ·simp only [Act.put, List.setIfInBounds_toArray, List.set_cons_zero, List.set_cons_succ, i64_w, i32_w]
          rfl
         refine take_ (i := 7) (N := some 41) (v := ?_) (a' := ?_) (bs 14 255) rfl rfl (take_ofW HT_.out HW_.out (by kernel_rfl)) (fun _ _ _ h => h) (Or.inl ⟨by rfl, ?_⟩) hHeld ?_ ?_
         rotate_left
         ·rintro w' ⟨s0, s1, s2, s3, s4, s5, s6, s7, s8, s9, s10, s11, s12, s13, s14, s15, s16, s17, s18, s19⟩
          go_simp
          with_reducible rfl
         rotate_left
         ·simp only [Act.put, List.setIfInBounds_toArray, List.set_cons_zero, List.set_cons_succ, i64_w, i32_w]
          rfl
         refine take_ (i := 9) (N := some 43) (v := ?_) (a' := ?_) (bs 14 767) rfl rfl (take_ofW HT_.out HW_.out (by kernel_rfl)) (fun _ _ _ h => h) (Or.inl ⟨by rfl, ?_⟩) hHeld ?_ ?_
         rotate_left
         ·rintro w' ⟨s0, s1, s2, s3, s4, s5, s6, s7, s8, s9, s10, s11, s12, s13, s14, s15, s16, s17, s18, s19⟩
          go_simp
          with_reducible rfl
         rotate_left
         ·simp only [Act.put, List.setIfInBounds_toArray, List.set_cons_zero, List.set_cons_succ, i64_w, i32_w]
          rfl
         refine one_ (i := 8) (N := some 42) (bs 14 1023) rfl rfl (one_of HT_.out (by kernel_rfl)) (by decide) (fun K hK => ?_)
         refine goes_ Try.func36 (by kernel_rfl) rfl #[.agg #[.int .i64 t190, .int .i64 t191]] (by rfl) rfl rfl (by (try simp only [List.map_toArray, List.map_cons, List.map_nil]); first | done | rfl | (simp only [List.length_drop, List.length_take]; rfl)) ?_
         with_reducible refine (clepsydraref03_Wide.calls t190 t191 t218 _ A28.1).mono ?_
         rintro e w49 ⟨rfl, hb⟩
         refine ⟨_, rfl, ?_⟩
         have n0_ := bb hb B0_.1
         have n1_ := bb hb B1_.1
         have n2_ := bb hb B2_.1
         have n3_ := bb hb B4_.1
         have n4_ := bb hb B5_.1
         have n5_ := mk (below_step (by repeat first | exact HB.1 | apply pD | apply b1 | refine bT (by assumption) ?_ | apply bA) hb)
         clear B0_ B1_ B2_ B4_ B5_ HB
         have B0_ := n0_
         have B1_ := n1_
         have B2_ := n2_
         have B4_ := n3_
         have B5_ := n4_
         have HB := n5_
         clear n0_ n1_ n2_ n3_ n4_ n5_
         (try clear hb)
         (try clear hb2)
         (try clear hk)
         (try clear hi)
         refine hK.out _ _ (c12t B0_.1 ⟨bQ B4_.1 0, bQ B4_.1 1, bQ B4_.1 2, bQ B4_.1 3, bQ B2_.1 0, bQ B2_.1 1, bQ B5_.1 0, bQ B5_.1 1⟩) (fun hHeld => ?_)
         clear hK K
         refine norm_ (a' := ?_) ?_ ?_
         rotate_left
         ·show Act.put _ (some 42) _ = _
          simp only [Act.put, List.setIfInBounds_toArray, List.set_cons_zero, List.set_cons_succ, i64_w, i32_w]
          rfl
         refine one_ (i := 10) (N := some 44) (bs 14 2047) rfl rfl (one_of HT_.out (by kernel_rfl)) (by decide) (fun K hK => ?_)
         refine goes_ Try.func36 (by kernel_rfl) rfl #[.agg #[.int .i64 t214, .int .i64 t215]] (by rfl) rfl rfl (by (try simp only [List.map_toArray, List.map_cons, List.map_nil]); first | done | rfl | (simp only [List.length_drop, List.length_take]; rfl)) ?_
         with_reducible refine (clepsydraref03_Wide.calls t214 t215 t219 _ A29.1).mono ?_
         rintro e w50 ⟨rfl, hb⟩
         refine ⟨_, rfl, ?_⟩
         have n0_ := bb hb B0_.1
         have n1_ := bb hb B1_.1
         have n2_ := bb hb B2_.1
         have n3_ := bb hb B4_.1
         have n4_ := bb hb B5_.1
         have n5_ := mk (below_step (by repeat first | exact HB.1 | apply pD | apply b1 | refine bT (by assumption) ?_ | apply bA) hb)
         clear B0_ B1_ B2_ B4_ B5_ HB
         have B0_ := n0_
         have B1_ := n1_
         have B2_ := n2_
         have B4_ := n3_
         have B5_ := n4_
         have HB := n5_
         clear n0_ n1_ n2_ n3_ n4_ n5_
         (try clear hb)
         (try clear hb2)
         (try clear hk)
         (try clear hi)
         refine hK.out _ _ (c12t B0_.1 ⟨bQ B4_.1 0, bQ B4_.1 1, bQ B4_.1 2, bQ B4_.1 3, bQ B2_.1 0, bQ B2_.1 1, bQ B5_.1 0, bQ B5_.1 1⟩) (fun hHeld => ?_)
         clear hK K
         refine norm_ (a' := ?_) ?_ ?_
         rotate_left
         ·show Act.put _ (some 44) _ = _
          simp only [Act.put, List.setIfInBounds_toArray, List.set_cons_zero, List.set_cons_succ, i64_w, i32_w]
          rfl
         refine pure_ (i := 11) (N := some 45) (v := ?_) (a' := ?_) (bs 14 4095) rfl rfl (any_of HT_.out (by kernel_rfl)) (fun _ _ _ h => h) (Or.inl ⟨by rfl, ?_⟩) ?_ ?_
         rotate_left
         ·intro w'
          go_simp
          with_reducible rfl
         rotate_left
         ·simp only [Act.put, List.setIfInBounds_toArray, List.set_cons_zero, List.set_cons_succ, i64_w, i32_w]
          rfl
         refine pure_ (i := 12) (N := some 46) (v := ?_) (a' := ?_) (bs 14 8191) rfl rfl (any_of HT_.out (by kernel_rfl)) (fun _ _ _ h => h) (Or.inl ⟨by rfl, ?_⟩) ?_ ?_
         rotate_left
         ·intro w'
          go_simp
          with_reducible rfl
         rotate_left
         ·simp only [Act.put, List.setIfInBounds_toArray, List.set_cons_zero, List.set_cons_succ, i64_w, i32_w]
          rfl
         refine pure_ (i := 13) (N := some 47) (v := ?_) (a' := ?_) (bs 14 16383) rfl rfl (any_of HT_.out (by kernel_rfl)) (fun _ _ _ h => h) (Or.inl ⟨by rfl, ?_⟩) ?_ ?_
         rotate_left
         ·intro w'
          go_simp
          with_reducible rfl
         rotate_left
         ·simp only [Act.put, List.setIfInBounds_toArray, List.set_cons_zero, List.set_cons_succ, i64_w, i32_w]
          rfl
         refine done_ (done_of HT_.out (by kernel_rfl)) ?_
         try go_wp2
         go_roundg k1
         case measure => have := HK1.out; omega
         case rel => exact ⟨(wrap64 (x27_1 + 1)), (by first | rfl | (simp; done) | (simp [*]; done) | (simp [Int.tdiv_eq_ediv_of_nonneg]; done) | (simp [Go.RowKit.wrap64]; done) | (simp [*, Go.RowKit.wrap64]; done)), H', ⟨by have := HK1.out; omega⟩, ⟨by exact B0_.1⟩, ⟨by exact B1_.1⟩, ⟨by exact B2_.1⟩, ⟨by repeat (first | (with_reducible first | exact HB.1 | apply bA | apply pD | apply b1 | apply bS E0_.1 | apply bS E1_.1 | apply bS E2_.1 | apply bS E4_.1 | apply bS E5_.1) | exact HB.1)⟩⟩
        replace c27 := Bool.eq_false_iff.mpr c27
        subst c27
        have H1 : (some false) = some r := by rw [if_neg (show ¬ (false = true) by decide)] at H; exact H
        clear H
        have H := H1
        clear H1
        exact absurd ((Option.some.inj H).trans hT.out) (by decide)
       replace c26 := Bool.eq_false_iff.mpr c26
       subst c26
       have H1 : (clepsydralaw10_ProbeNarrows.l0 k1 l1 t192 l1 (l1.length : Int) (wrap64 (x27_1 + 1)) a0_0 a0_1 a0_2 a0_3 a0_4 a0_5 a0_6 a0_7 a0_8 a0_9 a0_10 a0_11 a2_0 a2_1 a2_2 a2_3 t190 t191) = some r := by rw [if_neg (show ¬ (false = true) by decide)] at H; exact H
       clear H
       have H := H1
       clear H1
       have H' := mk H
       clear H
       have p212 : 0 ≤ (x27_1 : Int) := of_decide_eq_true (by first | (with_reducible assumption) | assumption)
       have q212 : x27_1 < (l1.length : Int) := of_decide_eq_true (by first | (with_reducible assumption) | assumption)
       obtain ⟨ad212, e212, hx212_0, hx212_1, hx212_2, hx212_3⟩ := at_T57 HR1.out x27_1 p212 q212
       cases e212
       replace hx212_0 := (HB.1.cell (World.block_lt_of_cell? w _ hx212_0)).trans hx212_0
       replace hx212_1 := (HB.1.cell (World.block_lt_of_cell? w _ hx212_1)).trans hx212_1
       replace hx212_2 := (HB.1.cell (World.block_lt_of_cell? w _ hx212_2)).trans hx212_2
       replace hx212_3 := (HB.1.cell (World.block_lt_of_cell? w _ hx212_3)).trans hx212_3
       replace p212 := eq_true p212
       replace q212 := eq_true q212
       try go_wp2_with (first | ((with_reducible refine gate_dst (N := 10) rfl ?_); refine box_event ?hg (N := 10) ?hd (cs := #[.int .i64 0, .int .i64 0, .int .i64 0, .int .i64 0]) (t := 57) ?hr ?_; (case hd => rfl); (case hg => rfl); (case hr => first | (go_simp; done) | (go_simp; rfl)); intro g4_ hg w51 hbox hb; have n0_ := bb hb B0_.1; have n1_ := bb hb B1_.1; have n2_ := bb hb B2_.1; have n3_ := mk (below_step (by repeat first | exact HB.1 | apply pD | apply b1 | refine bT (by assumption) ?_ | apply bA) hb); have n4_ := mk (hbox); have n5_ := gl hg (by repeat first | exact HB.1 | apply pD | apply b1 | refine bT (by assumption) ?_ | apply bA); have n6_ := gl hg (by repeat first | exact HB.1 | apply pD | apply b1 | refine bT (by assumption) ?_ | apply bA); have n7_ := nl hg B0_.1; have n8_ := ng hg B0_.1; have n9_ := nl hg B1_.1; have n10_ := ng hg B1_.1; have n11_ := nl hg B2_.1; have n12_ := ng hg B2_.1; clear B0_; clear B1_; clear B2_; clear HB; have B0_ := n0_; have B1_ := n1_; have B2_ := n2_; have HB := n3_; have B4_ := n4_; have W4_ := n5_; have E4_ := n6_; have N04_ := n7_; have N40_ := n8_; have N14_ := n9_; have N41_ := n10_; have N24_ := n11_; have N42_ := n12_; clear n0_ n1_ n2_ n3_ n4_ n5_ n6_ n7_ n8_ n9_ n10_ n11_ n12_; clear hb hbox hg; have hnb52 := N40_.1; have hnc52 := N04_.1; have hnb53 := N41_.1; have hnc53 := N14_.1; have hnb54 := N42_.1; have hnc54 := N24_.1; have hcz55_0 : w51.cell? ⟨g4_, 0, none⟩ = some (.int .i64 0) := bQ B4_.1 0; have hcz55_1 : w51.cell? ⟨g4_, 1, none⟩ = some (.int .i64 0) := bQ B4_.1 1; have hcz55_2 : w51.cell? ⟨g4_, 2, none⟩ = some (.int .i64 0) := bQ B4_.1 2; have hcz55_3 : w51.cell? ⟨g4_, 3, none⟩ = some (.int .i64 0) := bQ B4_.1 3; have hfz55_0 := blk_frozen B4_.1 0; have hfz55_1 := blk_frozen B4_.1 1; have hfz55_2 := blk_frozen B4_.1 2; have hfz55_3 := blk_frozen B4_.1 3; have hnb56 := N01_.1; have hnc56 := N10_.1; have hnb57 := N02_.1; have hnc57 := N20_.1; have hcz58_0 : w51.cell? ⟨g0_, 0, none⟩ = some (.int .i64 a0_0) := bQ B0_.1 0; have hcz58_1 : w51.cell? ⟨g0_, 1, none⟩ = some (.int .i64 a0_1) := bQ B0_.1 1; have hcz58_2 : w51.cell? ⟨g0_, 2, none⟩ = some (.int .i64 a0_2) := bQ B0_.1 2; have hcz58_3 : w51.cell? ⟨g0_, 3, none⟩ = some (.int .i64 a0_3) := bQ B0_.1 3; have hcz58_4 : w51.cell? ⟨g0_, 4, none⟩ = some (.int .i64 a0_4) := bQ B0_.1 4; have hcz58_5 : w51.cell? ⟨g0_, 5, none⟩ = some (.int .i64 a0_5) := bQ B0_.1 5; have hcz58_6 : w51.cell? ⟨g0_, 6, none⟩ = some (.int .i64 a0_6) := bQ B0_.1 6; have hcz58_7 : w51.cell? ⟨g0_, 7, none⟩ = some (.int .i64 a0_7) := bQ B0_.1 7; have hcz58_8 : w51.cell? ⟨g0_, 8, none⟩ = some (.int .i64 a0_8) := bQ B0_.1 8; have hcz58_9 : w51.cell? ⟨g0_, 9, none⟩ = some (.int .i64 a0_9) := bQ B0_.1 9; have hcz58_10 : w51.cell? ⟨g0_, 10, none⟩ = some (.int .i64 a0_10) := bQ B0_.1 10; have hcz58_11 : w51.cell? ⟨g0_, 11, none⟩ = some (.int .i64 a0_11) := bQ B0_.1 11; have hfz58_0 := blk_frozen B0_.1 0; have hfz58_1 := blk_frozen B0_.1 1; have hfz58_2 := blk_frozen B0_.1 2; have hfz58_3 := blk_frozen B0_.1 3; have hfz58_4 := blk_frozen B0_.1 4; have hfz58_5 := blk_frozen B0_.1 5; have hfz58_6 := blk_frozen B0_.1 6; have hfz58_7 := blk_frozen B0_.1 7; have hfz58_8 := blk_frozen B0_.1 8; have hfz58_9 := blk_frozen B0_.1 9; have hfz58_10 := blk_frozen B0_.1 10; have hfz58_11 := blk_frozen B0_.1 11) | ((with_reducible refine gate_callee (f := 33) rfl ?_); refine goesL_ (some 33) rfl rfl Try.func33 (by kernel_rfl) rfl #[.agg #[.int .i64 a0_0, .int .i64 a0_1, .int .i64 a0_2, .int .i64 a0_3, .int .i64 a0_4, .int .i64 a0_5, .int .i64 a0_6, .int .i64 a0_7, .int .i64 a0_8, .int .i64 a0_9, .int .i64 a0_10, .int .i64 a0_11], .agg #[.int .i64 ((rd_T57 l1 x27_1).f0), .int .i64 ((rd_T57 l1 x27_1).f1), .int .i64 ((rd_T57 l1 x27_1).f2), .int .i64 ((rd_T57 l1 x27_1).f3)]] rfl (by (try simp only [List.map_toArray, List.map_cons, List.map_nil]); first | done | rfl | (simp only [List.length_drop, List.length_take]; rfl)) ?_; (with_reducible refine (probe_Ahead.calls k1 a0_0 a0_1 a0_2 a0_3 a0_4 a0_5 a0_6 a0_7 a0_8 a0_9 a0_10 a0_11 ((rd_T57 l1 x27_1).f0) ((rd_T57 l1 x27_1).f1) ((rd_T57 l1 x27_1).f2) ((rd_T57 l1 x27_1).f3) t214 t215 _ A24.1).mono ?_); rintro e w59 ⟨rfl, hb⟩; refine ⟨_, rfl, ?_⟩; have n0_ := mk (blk_below (g := g0_) (o := .cells #[.int .i64 a0_0, .int .i64 a0_1, .int .i64 a0_2, .int .i64 a0_3, .int .i64 a0_4, .int .i64 a0_5, .int .i64 a0_6, .int .i64 a0_7, .int .i64 a0_8, .int .i64 a0_9, .int .i64 a0_10, .int .i64 a0_11] 23 (0, 0)) (by (with_reducible repeat (first | refine blk_drewN ?_ _ | refine blk_drew ?_ | refine blk_alloc ?_ _)); refine blk_far ?_ N04_.1 _; (with_reducible repeat (first | refine blk_drewN ?_ _ | refine blk_drew ?_ | refine blk_alloc ?_ _)); refine blk_far ?_ N04_.1 _; (with_reducible repeat (first | refine blk_drewN ?_ _ | refine blk_drew ?_ | refine blk_alloc ?_ _)); refine blk_far ?_ N04_.1 _; (with_reducible repeat (first | refine blk_drewN ?_ _ | refine blk_drew ?_ | refine blk_alloc ?_ _)); refine blk_far ?_ N04_.1 _; (with_reducible repeat (first | refine blk_drewN ?_ _ | refine blk_drew ?_ | refine blk_alloc ?_ _)); exact B0_.1) hb); have n1_ := mk (blk_below (g := g1_) (o := .cells #[.int .i64 a2_0, .int .i64 a2_1, .int .i64 a2_2, .int .i64 a2_3] 57 (0, 0)) (by (with_reducible repeat (first | refine blk_drewN ?_ _ | refine blk_drew ?_ | refine blk_alloc ?_ _)); refine blk_far ?_ N14_.1 _; (with_reducible repeat (first | refine blk_drewN ?_ _ | refine blk_drew ?_ | refine blk_alloc ?_ _)); refine blk_far ?_ N14_.1 _; (with_reducible repeat (first | refine blk_drewN ?_ _ | refine blk_drew ?_ | refine blk_alloc ?_ _)); refine blk_far ?_ N14_.1 _; (with_reducible repeat (first | refine blk_drewN ?_ _ | refine blk_drew ?_ | refine blk_alloc ?_ _)); refine blk_far ?_ N14_.1 _; (with_reducible repeat (first | refine blk_drewN ?_ _ | refine blk_drew ?_ | refine blk_alloc ?_ _)); exact B1_.1) hb); have n2_ := mk (blk_below (g := g2_) (o := .cells #[.int .i64 t190, .int .i64 t191] 25 (0, 0)) (by (with_reducible repeat (first | refine blk_drewN ?_ _ | refine blk_drew ?_ | refine blk_alloc ?_ _)); refine blk_far ?_ N24_.1 _; (with_reducible repeat (first | refine blk_drewN ?_ _ | refine blk_drew ?_ | refine blk_alloc ?_ _)); refine blk_far ?_ N24_.1 _; (with_reducible repeat (first | refine blk_drewN ?_ _ | refine blk_drew ?_ | refine blk_alloc ?_ _)); refine blk_far ?_ N24_.1 _; (with_reducible repeat (first | refine blk_drewN ?_ _ | refine blk_drew ?_ | refine blk_alloc ?_ _)); refine blk_far ?_ N24_.1 _; (with_reducible repeat (first | refine blk_drewN ?_ _ | refine blk_drew ?_ | refine blk_alloc ?_ _)); exact B2_.1) hb); have n3_ := mk (blk_below (g := g4_) (o := .cells #[.int .i64 ((rd_T57 l1 x27_1).f0), .int .i64 ((rd_T57 l1 x27_1).f1), .int .i64 ((rd_T57 l1 x27_1).f2), .int .i64 ((rd_T57 l1 x27_1).f3)] 57 (0, 0)) (by (with_reducible repeat (first | refine blk_drewN ?_ _ | refine blk_drew ?_ | refine blk_alloc ?_ _)); refine blk_put (cs := #[.int .i64 ((rd_T57 l1 x27_1).f0), .int .i64 ((rd_T57 l1 x27_1).f1), .int .i64 ((rd_T57 l1 x27_1).f2), .int .i64 0]) ?_ 3 _ rfl; (with_reducible repeat (first | refine blk_drewN ?_ _ | refine blk_drew ?_ | refine blk_alloc ?_ _)); refine blk_put (cs := #[.int .i64 ((rd_T57 l1 x27_1).f0), .int .i64 ((rd_T57 l1 x27_1).f1), .int .i64 0, .int .i64 0]) ?_ 2 _ rfl; (with_reducible repeat (first | refine blk_drewN ?_ _ | refine blk_drew ?_ | refine blk_alloc ?_ _)); refine blk_put (cs := #[.int .i64 ((rd_T57 l1 x27_1).f0), .int .i64 0, .int .i64 0, .int .i64 0]) ?_ 1 _ rfl; (with_reducible repeat (first | refine blk_drewN ?_ _ | refine blk_drew ?_ | refine blk_alloc ?_ _)); refine blk_put (cs := #[.int .i64 0, .int .i64 0, .int .i64 0, .int .i64 0]) ?_ 0 _ rfl; (with_reducible repeat (first | refine blk_drewN ?_ _ | refine blk_drew ?_ | refine blk_alloc ?_ _)); exact B4_.1) hb); have n4_ := mk (below_step (by repeat first | exact HB.1 | apply pD | apply b1 | refine bT (by assumption) ?_ | apply bA) hb); clear B0_; clear B1_; clear B2_; clear B4_; clear HB; have B0_ := n0_; have B1_ := n1_; have B2_ := n2_; have B4_ := n3_; have HB := n4_; clear n0_ n1_ n2_ n3_ n4_; (try clear hb); (try clear hb2); (try clear hk); (try clear hi)) | ((with_reducible refine gate_dst (N := 11) rfl ?_); refine box_event ?hg (N := 11) ?hd (cs := #[.int .i64 0, .int .i64 0]) (t := 25) ?hr ?_; (case hd => rfl); (case hg => rfl); (case hr => first | (go_simp; done) | (go_simp; rfl)); intro g5_ hg w60 hbox hb; have n0_ := bb hb B0_.1; have n1_ := bb hb B1_.1; have n2_ := bb hb B2_.1; have n3_ := bb hb B4_.1; have n4_ := mk (below_step (by repeat first | exact HB.1 | apply pD | apply b1 | refine bT (by assumption) ?_ | apply bA) hb); have n5_ := mk (hbox); have n6_ := gl hg (by repeat first | exact HB.1 | apply pD | apply b1 | refine bT (by assumption) ?_ | apply bA); have n7_ := gl hg (by repeat first | exact HB.1 | apply pD | apply b1 | refine bT (by assumption) ?_ | apply bA); have n8_ := nl hg B0_.1; have n9_ := ng hg B0_.1; have n10_ := nl hg B1_.1; have n11_ := ng hg B1_.1; have n12_ := nl hg B2_.1; have n13_ := ng hg B2_.1; have n14_ := nl hg B4_.1; have n15_ := ng hg B4_.1; clear B0_; clear B1_; clear B2_; clear B4_; clear HB; have B0_ := n0_; have B1_ := n1_; have B2_ := n2_; have B4_ := n3_; have HB := n4_; have B5_ := n5_; have W5_ := n6_; have E5_ := n7_; have N05_ := n8_; have N50_ := n9_; have N15_ := n10_; have N51_ := n11_; have N25_ := n12_; have N52_ := n13_; have N45_ := n14_; have N54_ := n15_; clear n0_ n1_ n2_ n3_ n4_ n5_ n6_ n7_ n8_ n9_ n10_ n11_ n12_ n13_ n14_ n15_; clear hb hbox hg; have hnb61 := N50_.1; have hnc61 := N05_.1; have hnb62 := N51_.1; have hnc62 := N15_.1; have hnb63 := N52_.1; have hnc63 := N25_.1; have hnb64 := N54_.1; have hnc64 := N45_.1; have hcz65_0 : w60.cell? ⟨g5_, 0, none⟩ = some (.int .i64 0) := bQ B5_.1 0; have hcz65_1 : w60.cell? ⟨g5_, 1, none⟩ = some (.int .i64 0) := bQ B5_.1 1; have hfz65_0 := blk_frozen B5_.1 0; have hfz65_1 := blk_frozen B5_.1 1))
       have n0_ : Aside0 (((w60.setCell ⟨g5_, 0, none⟩ (.int .i64 t214)).setCell ⟨g5_, 1, none⟩ (.int .i64 t215)).heap[g0_]? = some (.cells #[.int .i64 a0_0, .int .i64 a0_1, .int .i64 a0_2, .int .i64 a0_3, .int .i64 a0_4, .int .i64 a0_5, .int .i64 a0_6, .int .i64 a0_7, .int .i64 a0_8, .int .i64 a0_9, .int .i64 a0_10, .int .i64 a0_11] 23 (0, 0))) := ⟨by (with_reducible repeat (first | refine blk_drewN ?_ _ | refine blk_drew ?_ | refine blk_alloc ?_ _)); refine blk_far ?_ N05_.1 _; (with_reducible repeat (first | refine blk_drewN ?_ _ | refine blk_drew ?_ | refine blk_alloc ?_ _)); refine blk_far ?_ N05_.1 _; (with_reducible repeat (first | refine blk_drewN ?_ _ | refine blk_drew ?_ | refine blk_alloc ?_ _)); exact B0_.1⟩
       have n1_ : Aside0 (((w60.setCell ⟨g5_, 0, none⟩ (.int .i64 t214)).setCell ⟨g5_, 1, none⟩ (.int .i64 t215)).heap[g1_]? = some (.cells #[.int .i64 a2_0, .int .i64 a2_1, .int .i64 a2_2, .int .i64 a2_3] 57 (0, 0))) := ⟨by (with_reducible repeat (first | refine blk_drewN ?_ _ | refine blk_drew ?_ | refine blk_alloc ?_ _)); refine blk_far ?_ N15_.1 _; (with_reducible repeat (first | refine blk_drewN ?_ _ | refine blk_drew ?_ | refine blk_alloc ?_ _)); refine blk_far ?_ N15_.1 _; (with_reducible repeat (first | refine blk_drewN ?_ _ | refine blk_drew ?_ | refine blk_alloc ?_ _)); exact B1_.1⟩
       have n2_ : Aside0 (((w60.setCell ⟨g5_, 0, none⟩ (.int .i64 t214)).setCell ⟨g5_, 1, none⟩ (.int .i64 t215)).heap[g2_]? = some (.cells #[.int .i64 t190, .int .i64 t191] 25 (0, 0))) := ⟨by (with_reducible repeat (first | refine blk_drewN ?_ _ | refine blk_drew ?_ | refine blk_alloc ?_ _)); refine blk_far ?_ N25_.1 _; (with_reducible repeat (first | refine blk_drewN ?_ _ | refine blk_drew ?_ | refine blk_alloc ?_ _)); refine blk_far ?_ N25_.1 _; (with_reducible repeat (first | refine blk_drewN ?_ _ | refine blk_drew ?_ | refine blk_alloc ?_ _)); exact B2_.1⟩
       have n3_ : Aside0 (((w60.setCell ⟨g5_, 0, none⟩ (.int .i64 t214)).setCell ⟨g5_, 1, none⟩ (.int .i64 t215)).heap[g4_]? = some (.cells #[.int .i64 ((rd_T57 l1 x27_1).f0), .int .i64 ((rd_T57 l1 x27_1).f1), .int .i64 ((rd_T57 l1 x27_1).f2), .int .i64 ((rd_T57 l1 x27_1).f3)] 57 (0, 0))) := ⟨by (with_reducible repeat (first | refine blk_drewN ?_ _ | refine blk_drew ?_ | refine blk_alloc ?_ _)); refine blk_far ?_ N45_.1 _; (with_reducible repeat (first | refine blk_drewN ?_ _ | refine blk_drew ?_ | refine blk_alloc ?_ _)); refine blk_far ?_ N45_.1 _; (with_reducible repeat (first | refine blk_drewN ?_ _ | refine blk_drew ?_ | refine blk_alloc ?_ _)); exact B4_.1⟩
       have n4_ : Aside0 (((w60.setCell ⟨g5_, 0, none⟩ (.int .i64 t214)).setCell ⟨g5_, 1, none⟩ (.int .i64 t215)).heap[g5_]? = some (.cells #[.int .i64 t214, .int .i64 t215] 25 (0, 0))) := ⟨by (with_reducible repeat (first | refine blk_drewN ?_ _ | refine blk_drew ?_ | refine blk_alloc ?_ _)); refine blk_put (cs := #[.int .i64 t214, .int .i64 0]) ?_ 1 _ rfl; (with_reducible repeat (first | refine blk_drewN ?_ _ | refine blk_drew ?_ | refine blk_alloc ?_ _)); refine blk_put (cs := #[.int .i64 0, .int .i64 0]) ?_ 0 _ rfl; (with_reducible repeat (first | refine blk_drewN ?_ _ | refine blk_drew ?_ | refine blk_alloc ?_ _)); exact B5_.1⟩
       have n5_ : Aside0 (Below w.heap.size w ((w60.setCell ⟨g5_, 0, none⟩ (.int .i64 t214)).setCell ⟨g5_, 1, none⟩ (.int .i64 t215))) := ⟨by repeat (first | (with_reducible first | exact HB.1 | apply bA | apply pD | apply b1 | apply bS E0_.1 | apply bS E1_.1 | apply bS E2_.1 | apply bS E4_.1 | apply bS E5_.1) | exact HB.1)⟩
       (try clear B0_)
       (try clear B1_)
       (try clear B2_)
       (try clear B4_)
       (try clear B5_)
       (try clear HB)
       generalize ((w60.setCell ⟨g5_, 0, none⟩ (.int .i64 t214)).setCell ⟨g5_, 1, none⟩ (.int .i64 t215)) = w66 at n0_ n1_ n2_ n3_ n4_ n5_ ⊢
       have B0_ := n0_
       have B1_ := n1_
       have B2_ := n2_
       have B4_ := n3_
       have B5_ := n4_
       have HB := n5_
       clear n0_ n1_ n2_ n3_ n4_ n5_
       have n0_ := mk (blk_drew B0_.1)
       have n1_ := mk (blk_drew B1_.1)
       have n2_ := mk (blk_drew B2_.1)
       have n3_ := mk (blk_drew B4_.1)
       have n4_ := mk (blk_drew B5_.1)
       have n5_ := mk (below_drew1 HB.1)
       clear B0_ B1_ B2_ B4_ B5_ HB
       have B0_ := n0_
       have B1_ := n1_
       have B2_ := n2_
       have B4_ := n3_
       have B5_ := n4_
       have HB := n5_
       clear n0_ n1_ n2_ n3_ n4_ n5_
       refine start_ (n := 14) (S := fun w' => w'.cell? ⟨g0_, 0, none⟩ = some (.int .i64 a0_0) ∧ w'.cell? ⟨g0_, 1, none⟩ = some (.int .i64 a0_1) ∧ w'.cell? ⟨g0_, 2, none⟩ = some (.int .i64 a0_2) ∧ w'.cell? ⟨g0_, 3, none⟩ = some (.int .i64 a0_3) ∧ w'.cell? ⟨g0_, 4, none⟩ = some (.int .i64 a0_4) ∧ w'.cell? ⟨g0_, 5, none⟩ = some (.int .i64 a0_5) ∧ w'.cell? ⟨g0_, 6, none⟩ = some (.int .i64 a0_6) ∧ w'.cell? ⟨g0_, 7, none⟩ = some (.int .i64 a0_7) ∧ w'.cell? ⟨g0_, 8, none⟩ = some (.int .i64 a0_8) ∧ w'.cell? ⟨g0_, 9, none⟩ = some (.int .i64 a0_9) ∧ w'.cell? ⟨g0_, 10, none⟩ = some (.int .i64 a0_10) ∧ w'.cell? ⟨g0_, 11, none⟩ = some (.int .i64 a0_11) ∧ w'.cell? ⟨g4_, 0, none⟩ = some (.int .i64 ((rd_T57 l1 x27_1).f0)) ∧ w'.cell? ⟨g4_, 1, none⟩ = some (.int .i64 ((rd_T57 l1 x27_1).f1)) ∧ w'.cell? ⟨g4_, 2, none⟩ = some (.int .i64 ((rd_T57 l1 x27_1).f2)) ∧ w'.cell? ⟨g4_, 3, none⟩ = some (.int .i64 ((rd_T57 l1 x27_1).f3))) (ds := []) (bs 14 0) (by kernel_rfl) rfl rfl (c12t B0_.1 ⟨bQ B4_.1 0, bQ B4_.1 1, bQ B4_.1 2, bQ B4_.1 3⟩) (fun hHeld => ?_); refine with_tabW clepsydralaw10_ProbeNarrows.tab10 clepsydralaw10_ProbeNarrows.bits10 (fun HT_ HW_ => ?_)
       generalize w66.drew = w67 at B0_ B1_ B2_ B4_ B5_ HB hHeld ⊢
       refine take_ (i := 0) (N := some 34) (v := ?_) (a' := ?_) (bs 14 1) rfl rfl (take_ofW HT_.out HW_.out (by kernel_rfl)) (fun _ _ _ h => h) (Or.inl ⟨by rfl, ?_⟩) hHeld ?_ ?_
       rotate_left
       ·rintro w' ⟨s0, s1, s2, s3, s4, s5, s6, s7, s8, s9, s10, s11, s12, s13, s14, s15⟩
        go_simp
        with_reducible rfl
       rotate_left
       ·simp only [Act.put, List.setIfInBounds_toArray, List.set_cons_zero, List.set_cons_succ, i64_w, i32_w]
        rfl
       refine take_ (i := 1) (N := some 35) (v := ?_) (a' := ?_) (bs 14 3) rfl rfl (take_ofW HT_.out HW_.out (by kernel_rfl)) (fun _ _ _ h => h) (Or.inl ⟨by rfl, ?_⟩) hHeld ?_ ?_
       rotate_left
       ·rintro w' ⟨s0, s1, s2, s3, s4, s5, s6, s7, s8, s9, s10, s11, s12, s13, s14, s15⟩
        go_simp
        with_reducible rfl
       rotate_left
       ·simp only [Act.put, List.setIfInBounds_toArray, List.set_cons_zero, List.set_cons_succ, i64_w, i32_w]
        rfl
       refine one_ (i := 2) (N := some 36) (bs 14 7) rfl rfl (one_of HT_.out (by kernel_rfl)) (by decide) (fun K hK => ?_)
       refine goes_ Try.func34 (by kernel_rfl) rfl #[.agg #[.int .i64 a0_0, .int .i64 a0_1, .int .i64 a0_2, .int .i64 a0_3, .int .i64 a0_4, .int .i64 a0_5, .int .i64 a0_6, .int .i64 a0_7, .int .i64 a0_8, .int .i64 a0_9, .int .i64 a0_10, .int .i64 a0_11], .agg #[.int .i64 ((rd_T57 l1 x27_1).f0), .int .i64 ((rd_T57 l1 x27_1).f1), .int .i64 ((rd_T57 l1 x27_1).f2), .int .i64 ((rd_T57 l1 x27_1).f3)]] (by rfl) rfl rfl (by (try simp only [List.map_toArray, List.map_cons, List.map_nil]); first | done | rfl | (simp only [List.length_drop, List.length_take]; rfl)) ?_
       with_reducible refine (probe_Right.calls k1 a0_0 a0_1 a0_2 a0_3 a0_4 a0_5 a0_6 a0_7 a0_8 a0_9 a0_10 a0_11 ((rd_T57 l1 x27_1).f0) ((rd_T57 l1 x27_1).f1) ((rd_T57 l1 x27_1).f2) ((rd_T57 l1 x27_1).f3) false _ A25.1).mono ?_
       rintro e w68 ⟨rfl, hb⟩
       refine ⟨_, rfl, ?_⟩
       have n0_ := bb hb B0_.1
       have n1_ := bb hb B1_.1
       have n2_ := bb hb B2_.1
       have n3_ := bb hb B4_.1
       have n4_ := bb hb B5_.1
       have n5_ := mk (below_step (by repeat first | exact HB.1 | apply pD | apply b1 | refine bT (by assumption) ?_ | apply bA) hb)
       clear B0_ B1_ B2_ B4_ B5_ HB
       have B0_ := n0_
       have B1_ := n1_
       have B2_ := n2_
       have B4_ := n3_
       have B5_ := n4_
       have HB := n5_
       clear n0_ n1_ n2_ n3_ n4_ n5_
       (try clear hb)
       (try clear hb2)
       (try clear hk)
       (try clear hi)
       refine hK.out _ _ (c12t B0_.1 ⟨bQ B4_.1 0, bQ B4_.1 1, bQ B4_.1 2, bQ B4_.1 3⟩) (fun hHeld => ?_)
       clear hK K
       refine norm_ (a' := ?_) ?_ ?_
       rotate_left
       ·show Act.put _ (some 36) _ = _
        simp only [Act.put, List.setIfInBounds_toArray, List.set_cons_zero, List.set_cons_succ, i64_w, i32_w]
        rfl
       refine pure_ (i := 3) (N := some 37) (v := ?_) (a' := ?_) (bs 14 15) rfl rfl (any_of HT_.out (by kernel_rfl)) (fun _ _ _ h => h) (Or.inl ⟨by rfl, ?_⟩) ?_ ?_
       rotate_left
       ·intro w'
        go_simp
        with_reducible rfl
       rotate_left
       ·simp only [Act.put, List.setIfInBounds_toArray, List.set_cons_zero, List.set_cons_succ, i64_w, i32_w]
        rfl
       refine pure_ (i := 4) (N := some 38) (v := undef) (a' := ?_) (bs 14 31) rfl rfl (any_of HT_.out (by kernel_rfl)) (fun _ _ _ h => h) (Or.inr ⟨by rfl, rfl⟩) ?_ ?_
       rotate_left
       ·simp only [Act.put, List.setIfInBounds_toArray, List.set_cons_zero, List.set_cons_succ, i64_w, i32_w]
        rfl
       refine pure_ (i := 5) (N := some 39) (v := undef) (a' := ?_) (bs 14 63) rfl rfl (any_of HT_.out (by kernel_rfl)) (fun _ _ _ h => h) (Or.inr ⟨by rfl, rfl⟩) ?_ ?_
       rotate_left
       ·simp only [Act.put, List.setIfInBounds_toArray, List.set_cons_zero, List.set_cons_succ, i64_w, i32_w]
        rfl
       refine pure_ (i := 6) (N := some 40) (v := undef) (a' := ?_) (bs 14 127) rfl rfl (any_of HT_.out (by kernel_rfl)) (fun _ _ _ h => h) (Or.inr ⟨by rfl, rfl⟩) ?_ ?_
       rotate_left
       ·simp only [Act.put, List.setIfInBounds_toArray, List.set_cons_zero, List.set_cons_succ, i64_w, i32_w]
        rfl
       refine pure_ (i := 7) (N := some 41) (v := undef) (a' := ?_) (bs 14 255) rfl rfl (any_of HT_.out (by kernel_rfl)) (fun _ _ _ h => h) (Or.inr ⟨by rfl, rfl⟩) ?_ ?_
       rotate_left
       ·simp only [Act.put, List.setIfInBounds_toArray, List.set_cons_zero, List.set_cons_succ, i64_w, i32_w]
        rfl
       refine pure_ (i := 8) (N := some 42) (v := undef) (a' := ?_) (bs 14 511) rfl rfl (any_of HT_.out (by kernel_rfl)) (fun _ _ _ h => h) (Or.inr ⟨by rfl, rfl⟩) ?_ ?_
       rotate_left
       ·simp only [Act.put, List.setIfInBounds_toArray, List.set_cons_zero, List.set_cons_succ, i64_w, i32_w]
        rfl
       refine pure_ (i := 9) (N := some 43) (v := undef) (a' := ?_) (bs 14 1023) rfl rfl (any_of HT_.out (by kernel_rfl)) (fun _ _ _ h => h) (Or.inr ⟨by rfl, rfl⟩) ?_ ?_
       rotate_left
       ·simp only [Act.put, List.setIfInBounds_toArray, List.set_cons_zero, List.set_cons_succ, i64_w, i32_w]
        rfl
       refine pure_ (i := 10) (N := some 44) (v := undef) (a' := ?_) (bs 14 2047) rfl rfl (any_of HT_.out (by kernel_rfl)) (fun _ _ _ h => h) (Or.inr ⟨by rfl, rfl⟩) ?_ ?_
       rotate_left
       ·simp only [Act.put, List.setIfInBounds_toArray, List.set_cons_zero, List.set_cons_succ, i64_w, i32_w]
        rfl
       refine pure_ (i := 11) (N := some 45) (v := undef) (a' := ?_) (bs 14 4095) rfl rfl (any_of HT_.out (by kernel_rfl)) (fun _ _ _ h => h) (Or.inr ⟨by rfl, rfl⟩) ?_ ?_
       rotate_left
       ·simp only [Act.put, List.setIfInBounds_toArray, List.set_cons_zero, List.set_cons_succ, i64_w, i32_w]
        rfl
       refine pure_ (i := 12) (N := some 46) (v := undef) (a' := ?_) (bs 14 8191) rfl rfl (any_of HT_.out (by kernel_rfl)) (fun _ _ _ h => h) (Or.inr ⟨by rfl, rfl⟩) ?_ ?_
       rotate_left
       ·simp only [Act.put, List.setIfInBounds_toArray, List.set_cons_zero, List.set_cons_succ, i64_w, i32_w]
        rfl
       refine pure_ (i := 13) (N := some 47) (v := ?_) (a' := ?_) (bs 14 16383) rfl rfl (any_of HT_.out (by kernel_rfl)) (fun _ _ _ h => h) (Or.inl ⟨by rfl, ?_⟩) ?_ ?_
       rotate_left
       ·intro w'
        go_simp
        with_reducible rfl
       rotate_left
       ·simp only [Act.put, List.setIfInBounds_toArray, List.set_cons_zero, List.set_cons_succ, i64_w, i32_w]
        rfl
       refine done_ (done_of HT_.out (by kernel_rfl)) ?_
       try go_wp2
       go_roundg k1
       case measure => have := HK1.out; omega
       case rel => exact ⟨(wrap64 (x27_1 + 1)), (by first | rfl | (simp; done) | (simp [*]; done) | (simp [Int.tdiv_eq_ediv_of_nonneg]; done) | (simp [Go.RowKit.wrap64]; done) | (simp [*, Go.RowKit.wrap64]; done)), H', ⟨by have := HK1.out; omega⟩, ⟨by exact B0_.1⟩, ⟨by exact B1_.1⟩, ⟨by exact B2_.1⟩, ⟨by repeat (first | (with_reducible first | exact HB.1 | apply bA | apply pD | apply b1 | apply bS E0_.1 | apply bS E1_.1 | apply bS E2_.1 | apply bS E4_.1 | apply bS E5_.1) | exact HB.1)⟩⟩
      rw [if_neg c23] at H
      exact absurd H (by simp)
     rw [if_neg c22] at H
     exact absurd H (by simp)
    rw [if_neg c21] at H
    have c21b0 : decide (x27_1 < (l1.length : Int)) = false := decide_eq_false c21
    clear c21
    obtain ⟨y194, hy194⟩ : ∃ y_ : List (S57), y_ = (([] : List (S57))) := ⟨_, rfl⟩
    replace H : (if y194.length + l1.length < 4398046511104 then ((some (y194 ++ l1 : List (S57))).bind fun y197 => ((some (([(⟨a2_0, a2_1, a2_2, a2_3⟩ : S57)] : List (S57)) : List (S57))).bind fun y200 => (if y197.length + y200.length < 4398046511104 then ((probe_Best.f k1 a0_0 a0_1 a0_2 a0_3 a0_4 a0_5 a0_6 a0_7 a0_8 a0_9 a0_10 a0_11 (y197 ++ y200)).bind fun bt206 => (if t192 = true then (if bt206.2.2 = true then ((clepsydraref03_Wide.f bt206.1 bt206.2.1).bind fun t210 => ((clepsydraref03_Wide.f t190 t191).bind fun t211 => (some (decide (t210 ≤ t211))))) else (some false)) else (some true))) else (none)))) else (none)) = some r := by first | (rw [hy194]; with_reducible exact H) | (have H2_ := (Option.bind_some _ _).symm.trans H; rw [hy194]; with_reducible exact H2_) | (have H2_ := (Option.bind_some _ _).symm.trans H; with_reducible exact H2_) | with_reducible exact H | (rw [hy194]; exact H) | exact H
    have Ny194 := mk hy194
    clear hy194
    by_cases c69 : y194.length + l1.length < 4398046511104
    ·rw [if_pos c69] at H
     have LMc69 := mk c69
     clear c69
     obtain ⟨y197, hy197⟩ : ∃ y_ : List (S57), y_ = (y194 ++ l1) := ⟨_, rfl⟩
     replace H : ((some (([(⟨a2_0, a2_1, a2_2, a2_3⟩ : S57)] : List (S57)) : List (S57))).bind fun y200 => (if y197.length + y200.length < 4398046511104 then ((probe_Best.f k1 a0_0 a0_1 a0_2 a0_3 a0_4 a0_5 a0_6 a0_7 a0_8 a0_9 a0_10 a0_11 (y197 ++ y200)).bind fun bt206 => (if t192 = true then (if bt206.2.2 = true then ((clepsydraref03_Wide.f bt206.1 bt206.2.1).bind fun t210 => ((clepsydraref03_Wide.f t190 t191).bind fun t211 => (some (decide (t210 ≤ t211))))) else (some false)) else (some true))) else (none))) = some r := by first | (rw [hy197]; with_reducible exact H) | (have H2_ := (Option.bind_some _ _).symm.trans H; rw [hy197]; with_reducible exact H2_) | (have H2_ := (Option.bind_some _ _).symm.trans H; with_reducible exact H2_) | with_reducible exact H | (rw [hy197]; exact H) | exact H
     have Ny197 := mk hy197
     clear hy197
     obtain ⟨y200, hy200⟩ : ∃ y_ : List (S57), y_ = (([(⟨a2_0, a2_1, a2_2, a2_3⟩ : S57)] : List (S57))) := ⟨_, rfl⟩
     replace H : (if y197.length + y200.length < 4398046511104 then ((probe_Best.f k1 a0_0 a0_1 a0_2 a0_3 a0_4 a0_5 a0_6 a0_7 a0_8 a0_9 a0_10 a0_11 (y197 ++ y200)).bind fun bt206 => (if t192 = true then (if bt206.2.2 = true then ((clepsydraref03_Wide.f bt206.1 bt206.2.1).bind fun t210 => ((clepsydraref03_Wide.f t190 t191).bind fun t211 => (some (decide (t210 ≤ t211))))) else (some false)) else (some true))) else (none)) = some r := by first | (rw [hy200]; with_reducible exact H) | (have H2_ := (Option.bind_some _ _).symm.trans H; rw [hy200]; with_reducible exact H2_) | (have H2_ := (Option.bind_some _ _).symm.trans H; with_reducible exact H2_) | with_reducible exact H | (rw [hy200]; exact H) | exact H
     have Ny200 := mk hy200
     clear hy200
     by_cases c70 : y197.length + y200.length < 4398046511104
     ·rw [if_pos c70] at H
      have LMc70 := mk c70
      clear c70
      obtain ⟨y203, hy203⟩ : ∃ y_ : List (S57), y_ = (y197 ++ y200) := ⟨_, rfl⟩
      replace H : ((probe_Best.f k1 a0_0 a0_1 a0_2 a0_3 a0_4 a0_5 a0_6 a0_7 a0_8 a0_9 a0_10 a0_11 y203).bind fun bt206 => (if t192 = true then (if bt206.2.2 = true then ((clepsydraref03_Wide.f bt206.1 bt206.2.1).bind fun t210 => ((clepsydraref03_Wide.f t190 t191).bind fun t211 => (some (decide (t210 ≤ t211))))) else (some false)) else (some true))) = some r := by first | (rw [hy203]; with_reducible exact H) | (have H2_ := (Option.bind_some _ _).symm.trans H; rw [hy203]; with_reducible exact H2_) | (have H2_ := (Option.bind_some _ _).symm.trans H; with_reducible exact H2_) | with_reducible exact H | (rw [hy203]; exact H) | exact H
      have Ny203 := mk hy203
      clear hy203
      replace H := Option.bind_eq_some_iff.mp H
      obtain ⟨⟨t206, t207, t208⟩, A710, H⟩ := H
      replace H : (if t192 = true then (if t208 = true then ((clepsydraref03_Wide.f t206 t207).bind fun t210 => ((clepsydraref03_Wide.f t190 t191).bind fun t211 => (some (decide (t210 ≤ t211))))) else (some false)) else (some true)) = some r := H
      have A71 := mk A710
      clear A710
      try go_wp2
      have n0_ := mk (blk_drew B0_.1)
      have n1_ := mk (blk_drew B1_.1)
      have n2_ := mk (blk_drew B2_.1)
      have n3_ := mk (below_drew1 HB.1)
      clear B0_ B1_ B2_ HB
      have B0_ := n0_
      have B1_ := n1_
      have B2_ := n2_
      have HB := n3_
      clear n0_ n1_ n2_ n3_
      refine start_ (n := 14) (S := fun w' => w'.cell? ⟨g0_, 0, none⟩ = some (.int .i64 a0_0) ∧ w'.cell? ⟨g0_, 1, none⟩ = some (.int .i64 a0_1) ∧ w'.cell? ⟨g0_, 2, none⟩ = some (.int .i64 a0_2) ∧ w'.cell? ⟨g0_, 3, none⟩ = some (.int .i64 a0_3) ∧ w'.cell? ⟨g0_, 4, none⟩ = some (.int .i64 a0_4) ∧ w'.cell? ⟨g0_, 5, none⟩ = some (.int .i64 a0_5) ∧ w'.cell? ⟨g0_, 6, none⟩ = some (.int .i64 a0_6) ∧ w'.cell? ⟨g0_, 7, none⟩ = some (.int .i64 a0_7) ∧ w'.cell? ⟨g0_, 8, none⟩ = some (.int .i64 a0_8) ∧ w'.cell? ⟨g0_, 9, none⟩ = some (.int .i64 a0_9) ∧ w'.cell? ⟨g0_, 10, none⟩ = some (.int .i64 a0_10) ∧ w'.cell? ⟨g0_, 11, none⟩ = some (.int .i64 a0_11) ∧ w'.cell? ⟨g1_, 0, none⟩ = some (.int .i64 a2_0) ∧ w'.cell? ⟨g1_, 1, none⟩ = some (.int .i64 a2_1) ∧ w'.cell? ⟨g1_, 2, none⟩ = some (.int .i64 a2_2) ∧ w'.cell? ⟨g1_, 3, none⟩ = some (.int .i64 a2_3)) (ds := []) (bs 14 0) (by kernel_rfl) rfl rfl (c12t B0_.1 ⟨bQ B1_.1 0, bQ B1_.1 1, bQ B1_.1 2, bQ B1_.1 3⟩) (fun hHeld => ?_); refine with_tabW clepsydralaw10_ProbeNarrows.tab13 clepsydralaw10_ProbeNarrows.bits13 (fun HT_ HW_ => ?_)
      generalize wr.drew = w94 at B0_ B1_ B2_ HB hHeld ⊢
      refine pure_ (i := 2) (N := some 52) (v := ?_) (a' := ?_) (bs 14 4) rfl rfl (any_of HT_.out (by kernel_rfl)) (fun _ _ _ h => h) (Or.inl ⟨by rfl, ?_⟩) ?_ ?_
      rotate_left
      ·intro w'
       go_simp
       with_reducible rfl
      rotate_left
      ·simp only [Act.put, List.setIfInBounds_toArray, List.set_cons_zero, List.set_cons_succ, i64_w, i32_w]
       rfl
      refine take_ (i := 0) (N := some 50) (v := ?_) (a' := ?_) (bs 14 5) rfl rfl (take_ofW HT_.out HW_.out (by kernel_rfl)) (fun _ _ _ h => h) (Or.inl ⟨by rfl, ?_⟩) hHeld ?_ ?_
      rotate_left
      ·rintro w' ⟨s0, s1, s2, s3, s4, s5, s6, s7, s8, s9, s10, s11, s12, s13, s14, s15⟩
       go_simp
       with_reducible rfl
      rotate_left
      ·simp only [Act.put, List.setIfInBounds_toArray, List.set_cons_zero, List.set_cons_succ, i64_w, i32_w]
       rfl
      refine take_ (i := 4) (N := some 54) (v := ?_) (a' := ?_) (bs 14 21) rfl rfl (take_ofW HT_.out HW_.out (by kernel_rfl)) (fun _ _ _ h => h) (Or.inl ⟨by rfl, ?_⟩) hHeld ?_ ?_
      rotate_left
      ·rintro w' ⟨s0, s1, s2, s3, s4, s5, s6, s7, s8, s9, s10, s11, s12, s13, s14, s15⟩
       go_simp
       with_reducible rfl
      rotate_left
      ·simp only [Act.put, List.setIfInBounds_toArray, List.set_cons_zero, List.set_cons_succ, i64_w, i32_w]
       rfl
      refine join_ (σ := Value × Value × Value × Value × Nat) 2 (bs 14 4095) (fun s_ => [(51, s_.1), (53, s_.2.1), (55, s_.2.2.1), (56, s_.2.2.2.1), (57, .tuple #[.agg #[.int .i64 t206, .int .i64 t207], .bool t208]), (12, .pointer (some ⟨s_.2.2.2.2, 0, none⟩)), (49, .tuple #[.agg #[.int .i64 t206, .int .i64 t207], .bool t208]), (58, .agg #[.int .i64 t206, .int .i64 t207]), (59, .bool t208)]) (fun s_ w' => (w'.cell? ⟨g0_, 0, none⟩ = some (.int .i64 a0_0) ∧ w'.cell? ⟨g0_, 1, none⟩ = some (.int .i64 a0_1) ∧ w'.cell? ⟨g0_, 2, none⟩ = some (.int .i64 a0_2) ∧ w'.cell? ⟨g0_, 3, none⟩ = some (.int .i64 a0_3) ∧ w'.cell? ⟨g0_, 4, none⟩ = some (.int .i64 a0_4) ∧ w'.cell? ⟨g0_, 5, none⟩ = some (.int .i64 a0_5) ∧ w'.cell? ⟨g0_, 6, none⟩ = some (.int .i64 a0_6) ∧ w'.cell? ⟨g0_, 7, none⟩ = some (.int .i64 a0_7) ∧ w'.cell? ⟨g0_, 8, none⟩ = some (.int .i64 a0_8) ∧ w'.cell? ⟨g0_, 9, none⟩ = some (.int .i64 a0_9) ∧ w'.cell? ⟨g0_, 10, none⟩ = some (.int .i64 a0_10) ∧ w'.cell? ⟨g0_, 11, none⟩ = some (.int .i64 a0_11) ∧ w'.cell? ⟨g1_, 0, none⟩ = some (.int .i64 a2_0) ∧ w'.cell? ⟨g1_, 1, none⟩ = some (.int .i64 a2_1) ∧ w'.cell? ⟨g1_, 2, none⟩ = some (.int .i64 a2_2) ∧ w'.cell? ⟨g1_, 3, none⟩ = some (.int .i64 a2_3)) ∧ (Kd.R k57 57 w' w.heap.size (fun k_ => some k_ ≠ (s_.2.2.2.1 : Value).ownBlock ∧ k_ ≠ g1_) s_.2.2.1 y200) ∧ (Kd.R k57 57 w' w.heap.size (fun k_ => some k_ ≠ (s_.2.2.1 : Value).ownBlock ∧ k_ ≠ g1_) s_.2.2.2.1 y203) ∧ (w'.heap[g0_]? = some (.cells #[.int .i64 a0_0, .int .i64 a0_1, .int .i64 a0_2, .int .i64 a0_3, .int .i64 a0_4, .int .i64 a0_5, .int .i64 a0_6, .int .i64 a0_7, .int .i64 a0_8, .int .i64 a0_9, .int .i64 a0_10, .int .i64 a0_11] 23 (0, 0))) ∧ (w'.heap[g1_]? = some (.cells #[.int .i64 a2_0, .int .i64 a2_1, .int .i64 a2_2, .int .i64 a2_3] 57 (0, 0))) ∧ (w'.heap[g2_]? = some (.cells #[.int .i64 t190, .int .i64 t191] 25 (0, 0))) ∧ (w'.heap[s_.2.2.2.2]? = some (.cells #[.int .i64 0, .int .i64 0] 25 (0, 0))) ∧ (w.heap.size ≤ s_.2.2.2.2) ∧ (w.heap.size ≤ s_.2.2.2.2) ∧ (g0_ ≠ s_.2.2.2.2) ∧ (s_.2.2.2.2 ≠ g0_) ∧ (g1_ ≠ s_.2.2.2.2) ∧ (s_.2.2.2.2 ≠ g1_) ∧ (g2_ ≠ s_.2.2.2.2) ∧ (s_.2.2.2.2 ≠ g2_) ∧ (Below w.heap.size w w')) ?_ ?_
      rotate_left
      ·intro hJ1_3_5_6_7_11
       refine join_ (σ := Value × Value × Value × Value) 3 (bs 14 2047) (fun s_ => [(51, s_.1), (53, s_.2.1), (55, s_.2.2.1), (56, s_.2.2.2), (57, .tuple #[.agg #[.int .i64 t206, .int .i64 t207], .bool t208]), (49, .tuple #[.agg #[.int .i64 t206, .int .i64 t207], .bool t208]), (58, .agg #[.int .i64 t206, .int .i64 t207]), (59, .bool t208)]) (fun s_ w' => (w'.cell? ⟨g0_, 0, none⟩ = some (.int .i64 a0_0) ∧ w'.cell? ⟨g0_, 1, none⟩ = some (.int .i64 a0_1) ∧ w'.cell? ⟨g0_, 2, none⟩ = some (.int .i64 a0_2) ∧ w'.cell? ⟨g0_, 3, none⟩ = some (.int .i64 a0_3) ∧ w'.cell? ⟨g0_, 4, none⟩ = some (.int .i64 a0_4) ∧ w'.cell? ⟨g0_, 5, none⟩ = some (.int .i64 a0_5) ∧ w'.cell? ⟨g0_, 6, none⟩ = some (.int .i64 a0_6) ∧ w'.cell? ⟨g0_, 7, none⟩ = some (.int .i64 a0_7) ∧ w'.cell? ⟨g0_, 8, none⟩ = some (.int .i64 a0_8) ∧ w'.cell? ⟨g0_, 9, none⟩ = some (.int .i64 a0_9) ∧ w'.cell? ⟨g0_, 10, none⟩ = some (.int .i64 a0_10) ∧ w'.cell? ⟨g0_, 11, none⟩ = some (.int .i64 a0_11) ∧ w'.cell? ⟨g1_, 0, none⟩ = some (.int .i64 a2_0) ∧ w'.cell? ⟨g1_, 1, none⟩ = some (.int .i64 a2_1) ∧ w'.cell? ⟨g1_, 2, none⟩ = some (.int .i64 a2_2) ∧ w'.cell? ⟨g1_, 3, none⟩ = some (.int .i64 a2_3)) ∧ (Kd.R k57 57 w' w.heap.size (fun k_ => some k_ ≠ (s_.2.2.2 : Value).ownBlock ∧ k_ ≠ g1_) s_.2.2.1 y200) ∧ (Kd.R k57 57 w' w.heap.size (fun k_ => some k_ ≠ (s_.2.2.1 : Value).ownBlock ∧ k_ ≠ g1_) s_.2.2.2 y203) ∧ (w'.heap[g0_]? = some (.cells #[.int .i64 a0_0, .int .i64 a0_1, .int .i64 a0_2, .int .i64 a0_3, .int .i64 a0_4, .int .i64 a0_5, .int .i64 a0_6, .int .i64 a0_7, .int .i64 a0_8, .int .i64 a0_9, .int .i64 a0_10, .int .i64 a0_11] 23 (0, 0))) ∧ (w'.heap[g1_]? = some (.cells #[.int .i64 a2_0, .int .i64 a2_1, .int .i64 a2_2, .int .i64 a2_3] 57 (0, 0))) ∧ (w'.heap[g2_]? = some (.cells #[.int .i64 t190, .int .i64 t191] 25 (0, 0))) ∧ (Below w.heap.size w w')) ?_ ?_
       rotate_left
       ·intro hJ1_3_5_6_7
        refine join_ (σ := Value × Value × Value × Value × Nat) 6 (bs 14 2175) (fun s_ => [(51, s_.1), (53, s_.2.1), (55, s_.2.2.1), (56, s_.2.2.2.1), (12, .pointer (some ⟨s_.2.2.2.2, 0, none⟩))]) (fun s_ w' => (w'.cell? ⟨g0_, 0, none⟩ = some (.int .i64 a0_0) ∧ w'.cell? ⟨g0_, 1, none⟩ = some (.int .i64 a0_1) ∧ w'.cell? ⟨g0_, 2, none⟩ = some (.int .i64 a0_2) ∧ w'.cell? ⟨g0_, 3, none⟩ = some (.int .i64 a0_3) ∧ w'.cell? ⟨g0_, 4, none⟩ = some (.int .i64 a0_4) ∧ w'.cell? ⟨g0_, 5, none⟩ = some (.int .i64 a0_5) ∧ w'.cell? ⟨g0_, 6, none⟩ = some (.int .i64 a0_6) ∧ w'.cell? ⟨g0_, 7, none⟩ = some (.int .i64 a0_7) ∧ w'.cell? ⟨g0_, 8, none⟩ = some (.int .i64 a0_8) ∧ w'.cell? ⟨g0_, 9, none⟩ = some (.int .i64 a0_9) ∧ w'.cell? ⟨g0_, 10, none⟩ = some (.int .i64 a0_10) ∧ w'.cell? ⟨g0_, 11, none⟩ = some (.int .i64 a0_11) ∧ w'.cell? ⟨g1_, 0, none⟩ = some (.int .i64 a2_0) ∧ w'.cell? ⟨g1_, 1, none⟩ = some (.int .i64 a2_1) ∧ w'.cell? ⟨g1_, 2, none⟩ = some (.int .i64 a2_2) ∧ w'.cell? ⟨g1_, 3, none⟩ = some (.int .i64 a2_3)) ∧ (Kd.R k57 57 w' w.heap.size (fun k_ => some k_ ≠ (s_.2.2.2.1 : Value).ownBlock ∧ k_ ≠ g1_) s_.2.2.1 y200) ∧ (Kd.R k57 57 w' w.heap.size (fun k_ => some k_ ≠ (s_.2.2.1 : Value).ownBlock ∧ k_ ≠ g1_) s_.2.2.2.1 y203) ∧ (w'.heap[g0_]? = some (.cells #[.int .i64 a0_0, .int .i64 a0_1, .int .i64 a0_2, .int .i64 a0_3, .int .i64 a0_4, .int .i64 a0_5, .int .i64 a0_6, .int .i64 a0_7, .int .i64 a0_8, .int .i64 a0_9, .int .i64 a0_10, .int .i64 a0_11] 23 (0, 0))) ∧ (w'.heap[g1_]? = some (.cells #[.int .i64 a2_0, .int .i64 a2_1, .int .i64 a2_2, .int .i64 a2_3] 57 (0, 0))) ∧ (w'.heap[g2_]? = some (.cells #[.int .i64 t190, .int .i64 t191] 25 (0, 0))) ∧ (w'.heap[s_.2.2.2.2]? = some (.cells #[.int .i64 0, .int .i64 0] 25 (0, 0))) ∧ (w.heap.size ≤ s_.2.2.2.2) ∧ (w.heap.size ≤ s_.2.2.2.2) ∧ (g0_ ≠ s_.2.2.2.2) ∧ (s_.2.2.2.2 ≠ g0_) ∧ (g1_ ≠ s_.2.2.2.2) ∧ (s_.2.2.2.2 ≠ g1_) ∧ (g2_ ≠ s_.2.2.2.2) ∧ (s_.2.2.2.2 ≠ g2_) ∧ (Below w.heap.size w w')) ?_ ?_
        rotate_left
        ·intro hJ1_3_5_6_11
         refine join_ (σ := Value × Value × Value × Value) 7 (bs 14 127) (fun s_ => [(51, s_.1), (53, s_.2.1), (55, s_.2.2.1), (56, s_.2.2.2)]) (fun s_ w' => (w'.cell? ⟨g0_, 0, none⟩ = some (.int .i64 a0_0) ∧ w'.cell? ⟨g0_, 1, none⟩ = some (.int .i64 a0_1) ∧ w'.cell? ⟨g0_, 2, none⟩ = some (.int .i64 a0_2) ∧ w'.cell? ⟨g0_, 3, none⟩ = some (.int .i64 a0_3) ∧ w'.cell? ⟨g0_, 4, none⟩ = some (.int .i64 a0_4) ∧ w'.cell? ⟨g0_, 5, none⟩ = some (.int .i64 a0_5) ∧ w'.cell? ⟨g0_, 6, none⟩ = some (.int .i64 a0_6) ∧ w'.cell? ⟨g0_, 7, none⟩ = some (.int .i64 a0_7) ∧ w'.cell? ⟨g0_, 8, none⟩ = some (.int .i64 a0_8) ∧ w'.cell? ⟨g0_, 9, none⟩ = some (.int .i64 a0_9) ∧ w'.cell? ⟨g0_, 10, none⟩ = some (.int .i64 a0_10) ∧ w'.cell? ⟨g0_, 11, none⟩ = some (.int .i64 a0_11) ∧ w'.cell? ⟨g1_, 0, none⟩ = some (.int .i64 a2_0) ∧ w'.cell? ⟨g1_, 1, none⟩ = some (.int .i64 a2_1) ∧ w'.cell? ⟨g1_, 2, none⟩ = some (.int .i64 a2_2) ∧ w'.cell? ⟨g1_, 3, none⟩ = some (.int .i64 a2_3)) ∧ (Kd.R k57 57 w' w.heap.size (fun k_ => some k_ ≠ (s_.2.2.2 : Value).ownBlock ∧ k_ ≠ g1_) s_.2.2.1 y200) ∧ (Kd.R k57 57 w' w.heap.size (fun k_ => some k_ ≠ (s_.2.2.1 : Value).ownBlock ∧ k_ ≠ g1_) s_.2.2.2 y203) ∧ (w'.heap[g0_]? = some (.cells #[.int .i64 a0_0, .int .i64 a0_1, .int .i64 a0_2, .int .i64 a0_3, .int .i64 a0_4, .int .i64 a0_5, .int .i64 a0_6, .int .i64 a0_7, .int .i64 a0_8, .int .i64 a0_9, .int .i64 a0_10, .int .i64 a0_11] 23 (0, 0))) ∧ (w'.heap[g1_]? = some (.cells #[.int .i64 a2_0, .int .i64 a2_1, .int .i64 a2_2, .int .i64 a2_3] 57 (0, 0))) ∧ (w'.heap[g2_]? = some (.cells #[.int .i64 t190, .int .i64 t191] 25 (0, 0))) ∧ (Below w.heap.size w w')) ?_ ?_
         rotate_left
         ·intro hJ1_3_5_6
          refine join_ (σ := Value × Value × Value × Nat) 7 (bs 14 2111) (fun s_ => [(51, s_.1), (53, s_.2.1), (55, s_.2.2.1), (12, .pointer (some ⟨s_.2.2.2, 0, none⟩))]) (fun s_ w' => (w'.cell? ⟨g0_, 0, none⟩ = some (.int .i64 a0_0) ∧ w'.cell? ⟨g0_, 1, none⟩ = some (.int .i64 a0_1) ∧ w'.cell? ⟨g0_, 2, none⟩ = some (.int .i64 a0_2) ∧ w'.cell? ⟨g0_, 3, none⟩ = some (.int .i64 a0_3) ∧ w'.cell? ⟨g0_, 4, none⟩ = some (.int .i64 a0_4) ∧ w'.cell? ⟨g0_, 5, none⟩ = some (.int .i64 a0_5) ∧ w'.cell? ⟨g0_, 6, none⟩ = some (.int .i64 a0_6) ∧ w'.cell? ⟨g0_, 7, none⟩ = some (.int .i64 a0_7) ∧ w'.cell? ⟨g0_, 8, none⟩ = some (.int .i64 a0_8) ∧ w'.cell? ⟨g0_, 9, none⟩ = some (.int .i64 a0_9) ∧ w'.cell? ⟨g0_, 10, none⟩ = some (.int .i64 a0_10) ∧ w'.cell? ⟨g0_, 11, none⟩ = some (.int .i64 a0_11) ∧ w'.cell? ⟨g1_, 0, none⟩ = some (.int .i64 a2_0) ∧ w'.cell? ⟨g1_, 1, none⟩ = some (.int .i64 a2_1) ∧ w'.cell? ⟨g1_, 2, none⟩ = some (.int .i64 a2_2) ∧ w'.cell? ⟨g1_, 3, none⟩ = some (.int .i64 a2_3)) ∧ (Kd.R k57 57 w' w.heap.size (fun k_ => some k_ ≠ (s_.2.2.1 : Value).ownBlock ∧ k_ ≠ g1_) s_.2.1 y197) ∧ (Kd.R k57 57 w' w.heap.size (fun k_ => some k_ ≠ (s_.2.1 : Value).ownBlock ∧ k_ ≠ g1_) s_.2.2.1 y200) ∧ (w'.heap[g0_]? = some (.cells #[.int .i64 a0_0, .int .i64 a0_1, .int .i64 a0_2, .int .i64 a0_3, .int .i64 a0_4, .int .i64 a0_5, .int .i64 a0_6, .int .i64 a0_7, .int .i64 a0_8, .int .i64 a0_9, .int .i64 a0_10, .int .i64 a0_11] 23 (0, 0))) ∧ (w'.heap[g1_]? = some (.cells #[.int .i64 a2_0, .int .i64 a2_1, .int .i64 a2_2, .int .i64 a2_3] 57 (0, 0))) ∧ (w'.heap[g2_]? = some (.cells #[.int .i64 t190, .int .i64 t191] 25 (0, 0))) ∧ (w'.heap[s_.2.2.2]? = some (.cells #[.int .i64 0, .int .i64 0] 25 (0, 0))) ∧ (w.heap.size ≤ s_.2.2.2) ∧ (w.heap.size ≤ s_.2.2.2) ∧ (g0_ ≠ s_.2.2.2) ∧ (s_.2.2.2 ≠ g0_) ∧ (g1_ ≠ s_.2.2.2) ∧ (s_.2.2.2 ≠ g1_) ∧ (g2_ ≠ s_.2.2.2) ∧ (s_.2.2.2 ≠ g2_) ∧ (Below w.heap.size w w')) ?_ ?_
          rotate_left
          ·intro hJ1_3_5_11
           refine join_ (σ := Value × Value × Value) 8 (bs 14 63) (fun s_ => [(51, s_.1), (53, s_.2.1), (55, s_.2.2)]) (fun s_ w' => (w'.cell? ⟨g0_, 0, none⟩ = some (.int .i64 a0_0) ∧ w'.cell? ⟨g0_, 1, none⟩ = some (.int .i64 a0_1) ∧ w'.cell? ⟨g0_, 2, none⟩ = some (.int .i64 a0_2) ∧ w'.cell? ⟨g0_, 3, none⟩ = some (.int .i64 a0_3) ∧ w'.cell? ⟨g0_, 4, none⟩ = some (.int .i64 a0_4) ∧ w'.cell? ⟨g0_, 5, none⟩ = some (.int .i64 a0_5) ∧ w'.cell? ⟨g0_, 6, none⟩ = some (.int .i64 a0_6) ∧ w'.cell? ⟨g0_, 7, none⟩ = some (.int .i64 a0_7) ∧ w'.cell? ⟨g0_, 8, none⟩ = some (.int .i64 a0_8) ∧ w'.cell? ⟨g0_, 9, none⟩ = some (.int .i64 a0_9) ∧ w'.cell? ⟨g0_, 10, none⟩ = some (.int .i64 a0_10) ∧ w'.cell? ⟨g0_, 11, none⟩ = some (.int .i64 a0_11) ∧ w'.cell? ⟨g1_, 0, none⟩ = some (.int .i64 a2_0) ∧ w'.cell? ⟨g1_, 1, none⟩ = some (.int .i64 a2_1) ∧ w'.cell? ⟨g1_, 2, none⟩ = some (.int .i64 a2_2) ∧ w'.cell? ⟨g1_, 3, none⟩ = some (.int .i64 a2_3)) ∧ (Kd.R k57 57 w' w.heap.size (fun k_ => some k_ ≠ (s_.2.2 : Value).ownBlock ∧ k_ ≠ g1_) s_.2.1 y197) ∧ (Kd.R k57 57 w' w.heap.size (fun k_ => some k_ ≠ (s_.2.1 : Value).ownBlock ∧ k_ ≠ g1_) s_.2.2 y200) ∧ (w'.heap[g0_]? = some (.cells #[.int .i64 a0_0, .int .i64 a0_1, .int .i64 a0_2, .int .i64 a0_3, .int .i64 a0_4, .int .i64 a0_5, .int .i64 a0_6, .int .i64 a0_7, .int .i64 a0_8, .int .i64 a0_9, .int .i64 a0_10, .int .i64 a0_11] 23 (0, 0))) ∧ (w'.heap[g1_]? = some (.cells #[.int .i64 a2_0, .int .i64 a2_1, .int .i64 a2_2, .int .i64 a2_3] 57 (0, 0))) ∧ (w'.heap[g2_]? = some (.cells #[.int .i64 t190, .int .i64 t191] 25 (0, 0))) ∧ (Below w.heap.size w w')) ?_ ?_
           rotate_left
           ·intro hJ1_3_5
            refine join_ (σ := Value × Value × Nat) 8 (bs 14 2079) (fun s_ => [(51, s_.1), (53, s_.2.1), (12, .pointer (some ⟨s_.2.2, 0, none⟩))]) (fun s_ w' => (w'.cell? ⟨g0_, 0, none⟩ = some (.int .i64 a0_0) ∧ w'.cell? ⟨g0_, 1, none⟩ = some (.int .i64 a0_1) ∧ w'.cell? ⟨g0_, 2, none⟩ = some (.int .i64 a0_2) ∧ w'.cell? ⟨g0_, 3, none⟩ = some (.int .i64 a0_3) ∧ w'.cell? ⟨g0_, 4, none⟩ = some (.int .i64 a0_4) ∧ w'.cell? ⟨g0_, 5, none⟩ = some (.int .i64 a0_5) ∧ w'.cell? ⟨g0_, 6, none⟩ = some (.int .i64 a0_6) ∧ w'.cell? ⟨g0_, 7, none⟩ = some (.int .i64 a0_7) ∧ w'.cell? ⟨g0_, 8, none⟩ = some (.int .i64 a0_8) ∧ w'.cell? ⟨g0_, 9, none⟩ = some (.int .i64 a0_9) ∧ w'.cell? ⟨g0_, 10, none⟩ = some (.int .i64 a0_10) ∧ w'.cell? ⟨g0_, 11, none⟩ = some (.int .i64 a0_11) ∧ w'.cell? ⟨g1_, 0, none⟩ = some (.int .i64 a2_0) ∧ w'.cell? ⟨g1_, 1, none⟩ = some (.int .i64 a2_1) ∧ w'.cell? ⟨g1_, 2, none⟩ = some (.int .i64 a2_2) ∧ w'.cell? ⟨g1_, 3, none⟩ = some (.int .i64 a2_3)) ∧ (Kd.R k57 57 w' w.heap.size (fun k_ => k_ ≠ g1_) s_.2.1 y197) ∧ (w'.heap[g0_]? = some (.cells #[.int .i64 a0_0, .int .i64 a0_1, .int .i64 a0_2, .int .i64 a0_3, .int .i64 a0_4, .int .i64 a0_5, .int .i64 a0_6, .int .i64 a0_7, .int .i64 a0_8, .int .i64 a0_9, .int .i64 a0_10, .int .i64 a0_11] 23 (0, 0))) ∧ (w'.heap[g1_]? = some (.cells #[.int .i64 a2_0, .int .i64 a2_1, .int .i64 a2_2, .int .i64 a2_3] 57 (0, 0))) ∧ (w'.heap[g2_]? = some (.cells #[.int .i64 t190, .int .i64 t191] 25 (0, 0))) ∧ (w'.heap[s_.2.2]? = some (.cells #[.int .i64 0, .int .i64 0] 25 (0, 0))) ∧ (w.heap.size ≤ s_.2.2) ∧ (w.heap.size ≤ s_.2.2) ∧ (g0_ ≠ s_.2.2) ∧ (s_.2.2 ≠ g0_) ∧ (g1_ ≠ s_.2.2) ∧ (s_.2.2 ≠ g1_) ∧ (g2_ ≠ s_.2.2) ∧ (s_.2.2 ≠ g2_) ∧ (Below w.heap.size w w')) ?_ ?_
            rotate_left
            ·intro hJ1_3_11
             refine join_ (σ := Value × Value × Nat) 8 (bs 14 2103) (fun s_ => [(51, s_.1), (55, s_.2.1), (12, .pointer (some ⟨s_.2.2, 0, none⟩))]) (fun s_ w' => (w'.cell? ⟨g0_, 0, none⟩ = some (.int .i64 a0_0) ∧ w'.cell? ⟨g0_, 1, none⟩ = some (.int .i64 a0_1) ∧ w'.cell? ⟨g0_, 2, none⟩ = some (.int .i64 a0_2) ∧ w'.cell? ⟨g0_, 3, none⟩ = some (.int .i64 a0_3) ∧ w'.cell? ⟨g0_, 4, none⟩ = some (.int .i64 a0_4) ∧ w'.cell? ⟨g0_, 5, none⟩ = some (.int .i64 a0_5) ∧ w'.cell? ⟨g0_, 6, none⟩ = some (.int .i64 a0_6) ∧ w'.cell? ⟨g0_, 7, none⟩ = some (.int .i64 a0_7) ∧ w'.cell? ⟨g0_, 8, none⟩ = some (.int .i64 a0_8) ∧ w'.cell? ⟨g0_, 9, none⟩ = some (.int .i64 a0_9) ∧ w'.cell? ⟨g0_, 10, none⟩ = some (.int .i64 a0_10) ∧ w'.cell? ⟨g0_, 11, none⟩ = some (.int .i64 a0_11) ∧ w'.cell? ⟨g1_, 0, none⟩ = some (.int .i64 a2_0) ∧ w'.cell? ⟨g1_, 1, none⟩ = some (.int .i64 a2_1) ∧ w'.cell? ⟨g1_, 2, none⟩ = some (.int .i64 a2_2) ∧ w'.cell? ⟨g1_, 3, none⟩ = some (.int .i64 a2_3)) ∧ (Kd.R k57 57 w' w.heap.size (fun k_ => some k_ ≠ (s_.2.1 : Value).ownBlock ∧ k_ ≠ g1_) s_.1 y194) ∧ (Kd.R k57 57 w' w.heap.size (fun k_ => some k_ ≠ (s_.1 : Value).ownBlock ∧ k_ ≠ g1_) s_.2.1 y200) ∧ (w'.heap[g0_]? = some (.cells #[.int .i64 a0_0, .int .i64 a0_1, .int .i64 a0_2, .int .i64 a0_3, .int .i64 a0_4, .int .i64 a0_5, .int .i64 a0_6, .int .i64 a0_7, .int .i64 a0_8, .int .i64 a0_9, .int .i64 a0_10, .int .i64 a0_11] 23 (0, 0))) ∧ (w'.heap[g1_]? = some (.cells #[.int .i64 a2_0, .int .i64 a2_1, .int .i64 a2_2, .int .i64 a2_3] 57 (0, 0))) ∧ (w'.heap[g2_]? = some (.cells #[.int .i64 t190, .int .i64 t191] 25 (0, 0))) ∧ (w'.heap[s_.2.2]? = some (.cells #[.int .i64 0, .int .i64 0] 25 (0, 0))) ∧ (w.heap.size ≤ s_.2.2) ∧ (w.heap.size ≤ s_.2.2) ∧ (g0_ ≠ s_.2.2) ∧ (s_.2.2 ≠ g0_) ∧ (g1_ ≠ s_.2.2) ∧ (s_.2.2 ≠ g1_) ∧ (g2_ ≠ s_.2.2) ∧ (s_.2.2 ≠ g2_) ∧ (Below w.heap.size w w')) ?_ ?_
             rotate_left
             ·intro hJ1_5_11
              refine join_ (σ := Value × Value) 9 (bs 14 31) (fun s_ => [(51, s_.1), (53, s_.2)]) (fun s_ w' => (w'.cell? ⟨g0_, 0, none⟩ = some (.int .i64 a0_0) ∧ w'.cell? ⟨g0_, 1, none⟩ = some (.int .i64 a0_1) ∧ w'.cell? ⟨g0_, 2, none⟩ = some (.int .i64 a0_2) ∧ w'.cell? ⟨g0_, 3, none⟩ = some (.int .i64 a0_3) ∧ w'.cell? ⟨g0_, 4, none⟩ = some (.int .i64 a0_4) ∧ w'.cell? ⟨g0_, 5, none⟩ = some (.int .i64 a0_5) ∧ w'.cell? ⟨g0_, 6, none⟩ = some (.int .i64 a0_6) ∧ w'.cell? ⟨g0_, 7, none⟩ = some (.int .i64 a0_7) ∧ w'.cell? ⟨g0_, 8, none⟩ = some (.int .i64 a0_8) ∧ w'.cell? ⟨g0_, 9, none⟩ = some (.int .i64 a0_9) ∧ w'.cell? ⟨g0_, 10, none⟩ = some (.int .i64 a0_10) ∧ w'.cell? ⟨g0_, 11, none⟩ = some (.int .i64 a0_11) ∧ w'.cell? ⟨g1_, 0, none⟩ = some (.int .i64 a2_0) ∧ w'.cell? ⟨g1_, 1, none⟩ = some (.int .i64 a2_1) ∧ w'.cell? ⟨g1_, 2, none⟩ = some (.int .i64 a2_2) ∧ w'.cell? ⟨g1_, 3, none⟩ = some (.int .i64 a2_3)) ∧ (Kd.R k57 57 w' w.heap.size (fun k_ => k_ ≠ g1_) s_.2 y197) ∧ (w'.heap[g0_]? = some (.cells #[.int .i64 a0_0, .int .i64 a0_1, .int .i64 a0_2, .int .i64 a0_3, .int .i64 a0_4, .int .i64 a0_5, .int .i64 a0_6, .int .i64 a0_7, .int .i64 a0_8, .int .i64 a0_9, .int .i64 a0_10, .int .i64 a0_11] 23 (0, 0))) ∧ (w'.heap[g1_]? = some (.cells #[.int .i64 a2_0, .int .i64 a2_1, .int .i64 a2_2, .int .i64 a2_3] 57 (0, 0))) ∧ (w'.heap[g2_]? = some (.cells #[.int .i64 t190, .int .i64 t191] 25 (0, 0))) ∧ (Below w.heap.size w w')) ?_ ?_
              rotate_left
              ·intro hJ1_3
               refine join_ (σ := Value × Value) 9 (bs 14 55) (fun s_ => [(51, s_.1), (55, s_.2)]) (fun s_ w' => (w'.cell? ⟨g0_, 0, none⟩ = some (.int .i64 a0_0) ∧ w'.cell? ⟨g0_, 1, none⟩ = some (.int .i64 a0_1) ∧ w'.cell? ⟨g0_, 2, none⟩ = some (.int .i64 a0_2) ∧ w'.cell? ⟨g0_, 3, none⟩ = some (.int .i64 a0_3) ∧ w'.cell? ⟨g0_, 4, none⟩ = some (.int .i64 a0_4) ∧ w'.cell? ⟨g0_, 5, none⟩ = some (.int .i64 a0_5) ∧ w'.cell? ⟨g0_, 6, none⟩ = some (.int .i64 a0_6) ∧ w'.cell? ⟨g0_, 7, none⟩ = some (.int .i64 a0_7) ∧ w'.cell? ⟨g0_, 8, none⟩ = some (.int .i64 a0_8) ∧ w'.cell? ⟨g0_, 9, none⟩ = some (.int .i64 a0_9) ∧ w'.cell? ⟨g0_, 10, none⟩ = some (.int .i64 a0_10) ∧ w'.cell? ⟨g0_, 11, none⟩ = some (.int .i64 a0_11) ∧ w'.cell? ⟨g1_, 0, none⟩ = some (.int .i64 a2_0) ∧ w'.cell? ⟨g1_, 1, none⟩ = some (.int .i64 a2_1) ∧ w'.cell? ⟨g1_, 2, none⟩ = some (.int .i64 a2_2) ∧ w'.cell? ⟨g1_, 3, none⟩ = some (.int .i64 a2_3)) ∧ (Kd.R k57 57 w' w.heap.size (fun k_ => some k_ ≠ (s_.2 : Value).ownBlock ∧ k_ ≠ g1_) s_.1 y194) ∧ (Kd.R k57 57 w' w.heap.size (fun k_ => some k_ ≠ (s_.1 : Value).ownBlock ∧ k_ ≠ g1_) s_.2 y200) ∧ (w'.heap[g0_]? = some (.cells #[.int .i64 a0_0, .int .i64 a0_1, .int .i64 a0_2, .int .i64 a0_3, .int .i64 a0_4, .int .i64 a0_5, .int .i64 a0_6, .int .i64 a0_7, .int .i64 a0_8, .int .i64 a0_9, .int .i64 a0_10, .int .i64 a0_11] 23 (0, 0))) ∧ (w'.heap[g1_]? = some (.cells #[.int .i64 a2_0, .int .i64 a2_1, .int .i64 a2_2, .int .i64 a2_3] 57 (0, 0))) ∧ (w'.heap[g2_]? = some (.cells #[.int .i64 t190, .int .i64 t191] 25 (0, 0))) ∧ (Below w.heap.size w w')) ?_ ?_
               rotate_left
               ·intro hJ1_5
                refine join_ (σ := Value × Nat) 9 (bs 14 2071) (fun s_ => [(51, s_.1), (12, .pointer (some ⟨s_.2, 0, none⟩))]) (fun s_ w' => (w'.cell? ⟨g0_, 0, none⟩ = some (.int .i64 a0_0) ∧ w'.cell? ⟨g0_, 1, none⟩ = some (.int .i64 a0_1) ∧ w'.cell? ⟨g0_, 2, none⟩ = some (.int .i64 a0_2) ∧ w'.cell? ⟨g0_, 3, none⟩ = some (.int .i64 a0_3) ∧ w'.cell? ⟨g0_, 4, none⟩ = some (.int .i64 a0_4) ∧ w'.cell? ⟨g0_, 5, none⟩ = some (.int .i64 a0_5) ∧ w'.cell? ⟨g0_, 6, none⟩ = some (.int .i64 a0_6) ∧ w'.cell? ⟨g0_, 7, none⟩ = some (.int .i64 a0_7) ∧ w'.cell? ⟨g0_, 8, none⟩ = some (.int .i64 a0_8) ∧ w'.cell? ⟨g0_, 9, none⟩ = some (.int .i64 a0_9) ∧ w'.cell? ⟨g0_, 10, none⟩ = some (.int .i64 a0_10) ∧ w'.cell? ⟨g0_, 11, none⟩ = some (.int .i64 a0_11) ∧ w'.cell? ⟨g1_, 0, none⟩ = some (.int .i64 a2_0) ∧ w'.cell? ⟨g1_, 1, none⟩ = some (.int .i64 a2_1) ∧ w'.cell? ⟨g1_, 2, none⟩ = some (.int .i64 a2_2) ∧ w'.cell? ⟨g1_, 3, none⟩ = some (.int .i64 a2_3)) ∧ (Kd.R k57 57 w' w.heap.size (fun k_ => k_ ≠ g1_) s_.1 y194) ∧ (w'.heap[g0_]? = some (.cells #[.int .i64 a0_0, .int .i64 a0_1, .int .i64 a0_2, .int .i64 a0_3, .int .i64 a0_4, .int .i64 a0_5, .int .i64 a0_6, .int .i64 a0_7, .int .i64 a0_8, .int .i64 a0_9, .int .i64 a0_10, .int .i64 a0_11] 23 (0, 0))) ∧ (w'.heap[g1_]? = some (.cells #[.int .i64 a2_0, .int .i64 a2_1, .int .i64 a2_2, .int .i64 a2_3] 57 (0, 0))) ∧ (w'.heap[g2_]? = some (.cells #[.int .i64 t190, .int .i64 t191] 25 (0, 0))) ∧ (w'.heap[s_.2]? = some (.cells #[.int .i64 0, .int .i64 0] 25 (0, 0))) ∧ (w.heap.size ≤ s_.2) ∧ (w.heap.size ≤ s_.2) ∧ (g0_ ≠ s_.2) ∧ (s_.2 ≠ g0_) ∧ (g1_ ≠ s_.2) ∧ (s_.2 ≠ g1_) ∧ (g2_ ≠ s_.2) ∧ (s_.2 ≠ g2_) ∧ (Below w.heap.size w w')) ?_ ?_
                rotate_left
                ·intro hJ1_11
                 refine join_ (σ := Value × Nat) 9 (bs 14 2101) (fun s_ => [(55, s_.1), (12, .pointer (some ⟨s_.2, 0, none⟩))]) (fun s_ w' => (w'.cell? ⟨g0_, 0, none⟩ = some (.int .i64 a0_0) ∧ w'.cell? ⟨g0_, 1, none⟩ = some (.int .i64 a0_1) ∧ w'.cell? ⟨g0_, 2, none⟩ = some (.int .i64 a0_2) ∧ w'.cell? ⟨g0_, 3, none⟩ = some (.int .i64 a0_3) ∧ w'.cell? ⟨g0_, 4, none⟩ = some (.int .i64 a0_4) ∧ w'.cell? ⟨g0_, 5, none⟩ = some (.int .i64 a0_5) ∧ w'.cell? ⟨g0_, 6, none⟩ = some (.int .i64 a0_6) ∧ w'.cell? ⟨g0_, 7, none⟩ = some (.int .i64 a0_7) ∧ w'.cell? ⟨g0_, 8, none⟩ = some (.int .i64 a0_8) ∧ w'.cell? ⟨g0_, 9, none⟩ = some (.int .i64 a0_9) ∧ w'.cell? ⟨g0_, 10, none⟩ = some (.int .i64 a0_10) ∧ w'.cell? ⟨g0_, 11, none⟩ = some (.int .i64 a0_11) ∧ w'.cell? ⟨g1_, 0, none⟩ = some (.int .i64 a2_0) ∧ w'.cell? ⟨g1_, 1, none⟩ = some (.int .i64 a2_1) ∧ w'.cell? ⟨g1_, 2, none⟩ = some (.int .i64 a2_2) ∧ w'.cell? ⟨g1_, 3, none⟩ = some (.int .i64 a2_3)) ∧ (Kd.R k57 57 w' w.heap.size (fun k_ => k_ ≠ g1_) s_.1 y200) ∧ (w'.heap[g0_]? = some (.cells #[.int .i64 a0_0, .int .i64 a0_1, .int .i64 a0_2, .int .i64 a0_3, .int .i64 a0_4, .int .i64 a0_5, .int .i64 a0_6, .int .i64 a0_7, .int .i64 a0_8, .int .i64 a0_9, .int .i64 a0_10, .int .i64 a0_11] 23 (0, 0))) ∧ (w'.heap[g1_]? = some (.cells #[.int .i64 a2_0, .int .i64 a2_1, .int .i64 a2_2, .int .i64 a2_3] 57 (0, 0))) ∧ (w'.heap[g2_]? = some (.cells #[.int .i64 t190, .int .i64 t191] 25 (0, 0))) ∧ (w'.heap[s_.2]? = some (.cells #[.int .i64 0, .int .i64 0] 25 (0, 0))) ∧ (w.heap.size ≤ s_.2) ∧ (w.heap.size ≤ s_.2) ∧ (g0_ ≠ s_.2) ∧ (s_.2 ≠ g0_) ∧ (g1_ ≠ s_.2) ∧ (s_.2 ≠ g1_) ∧ (g2_ ≠ s_.2) ∧ (s_.2 ≠ g2_) ∧ (Below w.heap.size w w')) ?_ ?_
                 rotate_left
                 ·intro hJ5_11
                  refine join_ (σ := Value) 10 (bs 14 23) (fun s_ => [(51, s_)]) (fun s_ w' => (w'.cell? ⟨g0_, 0, none⟩ = some (.int .i64 a0_0) ∧ w'.cell? ⟨g0_, 1, none⟩ = some (.int .i64 a0_1) ∧ w'.cell? ⟨g0_, 2, none⟩ = some (.int .i64 a0_2) ∧ w'.cell? ⟨g0_, 3, none⟩ = some (.int .i64 a0_3) ∧ w'.cell? ⟨g0_, 4, none⟩ = some (.int .i64 a0_4) ∧ w'.cell? ⟨g0_, 5, none⟩ = some (.int .i64 a0_5) ∧ w'.cell? ⟨g0_, 6, none⟩ = some (.int .i64 a0_6) ∧ w'.cell? ⟨g0_, 7, none⟩ = some (.int .i64 a0_7) ∧ w'.cell? ⟨g0_, 8, none⟩ = some (.int .i64 a0_8) ∧ w'.cell? ⟨g0_, 9, none⟩ = some (.int .i64 a0_9) ∧ w'.cell? ⟨g0_, 10, none⟩ = some (.int .i64 a0_10) ∧ w'.cell? ⟨g0_, 11, none⟩ = some (.int .i64 a0_11) ∧ w'.cell? ⟨g1_, 0, none⟩ = some (.int .i64 a2_0) ∧ w'.cell? ⟨g1_, 1, none⟩ = some (.int .i64 a2_1) ∧ w'.cell? ⟨g1_, 2, none⟩ = some (.int .i64 a2_2) ∧ w'.cell? ⟨g1_, 3, none⟩ = some (.int .i64 a2_3)) ∧ (Kd.R k57 57 w' w.heap.size (fun k_ => k_ ≠ g1_) s_ y194) ∧ (w'.heap[g0_]? = some (.cells #[.int .i64 a0_0, .int .i64 a0_1, .int .i64 a0_2, .int .i64 a0_3, .int .i64 a0_4, .int .i64 a0_5, .int .i64 a0_6, .int .i64 a0_7, .int .i64 a0_8, .int .i64 a0_9, .int .i64 a0_10, .int .i64 a0_11] 23 (0, 0))) ∧ (w'.heap[g1_]? = some (.cells #[.int .i64 a2_0, .int .i64 a2_1, .int .i64 a2_2, .int .i64 a2_3] 57 (0, 0))) ∧ (w'.heap[g2_]? = some (.cells #[.int .i64 t190, .int .i64 t191] 25 (0, 0))) ∧ (Below w.heap.size w w')) ?_ ?_
                  rotate_left
                  ·intro hJ1
                   refine join_ (σ := Value) 10 (bs 14 53) (fun s_ => [(55, s_)]) (fun s_ w' => (w'.cell? ⟨g0_, 0, none⟩ = some (.int .i64 a0_0) ∧ w'.cell? ⟨g0_, 1, none⟩ = some (.int .i64 a0_1) ∧ w'.cell? ⟨g0_, 2, none⟩ = some (.int .i64 a0_2) ∧ w'.cell? ⟨g0_, 3, none⟩ = some (.int .i64 a0_3) ∧ w'.cell? ⟨g0_, 4, none⟩ = some (.int .i64 a0_4) ∧ w'.cell? ⟨g0_, 5, none⟩ = some (.int .i64 a0_5) ∧ w'.cell? ⟨g0_, 6, none⟩ = some (.int .i64 a0_6) ∧ w'.cell? ⟨g0_, 7, none⟩ = some (.int .i64 a0_7) ∧ w'.cell? ⟨g0_, 8, none⟩ = some (.int .i64 a0_8) ∧ w'.cell? ⟨g0_, 9, none⟩ = some (.int .i64 a0_9) ∧ w'.cell? ⟨g0_, 10, none⟩ = some (.int .i64 a0_10) ∧ w'.cell? ⟨g0_, 11, none⟩ = some (.int .i64 a0_11) ∧ w'.cell? ⟨g1_, 0, none⟩ = some (.int .i64 a2_0) ∧ w'.cell? ⟨g1_, 1, none⟩ = some (.int .i64 a2_1) ∧ w'.cell? ⟨g1_, 2, none⟩ = some (.int .i64 a2_2) ∧ w'.cell? ⟨g1_, 3, none⟩ = some (.int .i64 a2_3)) ∧ (Kd.R k57 57 w' w.heap.size (fun k_ => k_ ≠ g1_) s_ y200) ∧ (w'.heap[g0_]? = some (.cells #[.int .i64 a0_0, .int .i64 a0_1, .int .i64 a0_2, .int .i64 a0_3, .int .i64 a0_4, .int .i64 a0_5, .int .i64 a0_6, .int .i64 a0_7, .int .i64 a0_8, .int .i64 a0_9, .int .i64 a0_10, .int .i64 a0_11] 23 (0, 0))) ∧ (w'.heap[g1_]? = some (.cells #[.int .i64 a2_0, .int .i64 a2_1, .int .i64 a2_2, .int .i64 a2_3] 57 (0, 0))) ∧ (w'.heap[g2_]? = some (.cells #[.int .i64 t190, .int .i64 t191] 25 (0, 0))) ∧ (Below w.heap.size w w')) ?_ ?_
                   rotate_left
                   ·intro hJ5
                    refine join_ (σ := Nat) 10 (bs 14 2069) (fun s_ => [(12, .pointer (some ⟨s_, 0, none⟩))]) (fun s_ w' => (w'.cell? ⟨g0_, 0, none⟩ = some (.int .i64 a0_0) ∧ w'.cell? ⟨g0_, 1, none⟩ = some (.int .i64 a0_1) ∧ w'.cell? ⟨g0_, 2, none⟩ = some (.int .i64 a0_2) ∧ w'.cell? ⟨g0_, 3, none⟩ = some (.int .i64 a0_3) ∧ w'.cell? ⟨g0_, 4, none⟩ = some (.int .i64 a0_4) ∧ w'.cell? ⟨g0_, 5, none⟩ = some (.int .i64 a0_5) ∧ w'.cell? ⟨g0_, 6, none⟩ = some (.int .i64 a0_6) ∧ w'.cell? ⟨g0_, 7, none⟩ = some (.int .i64 a0_7) ∧ w'.cell? ⟨g0_, 8, none⟩ = some (.int .i64 a0_8) ∧ w'.cell? ⟨g0_, 9, none⟩ = some (.int .i64 a0_9) ∧ w'.cell? ⟨g0_, 10, none⟩ = some (.int .i64 a0_10) ∧ w'.cell? ⟨g0_, 11, none⟩ = some (.int .i64 a0_11) ∧ w'.cell? ⟨g1_, 0, none⟩ = some (.int .i64 a2_0) ∧ w'.cell? ⟨g1_, 1, none⟩ = some (.int .i64 a2_1) ∧ w'.cell? ⟨g1_, 2, none⟩ = some (.int .i64 a2_2) ∧ w'.cell? ⟨g1_, 3, none⟩ = some (.int .i64 a2_3)) ∧ (w'.heap[g0_]? = some (.cells #[.int .i64 a0_0, .int .i64 a0_1, .int .i64 a0_2, .int .i64 a0_3, .int .i64 a0_4, .int .i64 a0_5, .int .i64 a0_6, .int .i64 a0_7, .int .i64 a0_8, .int .i64 a0_9, .int .i64 a0_10, .int .i64 a0_11] 23 (0, 0))) ∧ (w'.heap[g1_]? = some (.cells #[.int .i64 a2_0, .int .i64 a2_1, .int .i64 a2_2, .int .i64 a2_3] 57 (0, 0))) ∧ (w'.heap[g2_]? = some (.cells #[.int .i64 t190, .int .i64 t191] 25 (0, 0))) ∧ (w'.heap[s_]? = some (.cells #[.int .i64 0, .int .i64 0] 25 (0, 0))) ∧ (w.heap.size ≤ s_) ∧ (w.heap.size ≤ s_) ∧ (g0_ ≠ s_) ∧ (s_ ≠ g0_) ∧ (g1_ ≠ s_) ∧ (s_ ≠ g1_) ∧ (g2_ ≠ s_) ∧ (s_ ≠ g2_) ∧ (Below w.heap.size w w')) ?_ ?_
                    rotate_left
                    ·intro hJ11
                     refine three_ (i := 1) (j := 5) (k := 11) (Ni := some 51) (Nj := some 55) (Nk := some 12) (bs 14 23) (bs 14 53) (bs 14 2069) rfl rfl rfl rfl rfl rfl (three_of HT_.out (by kernel_rfl)) (by decide) (by decide) (by decide) (fun K hK => ?_) (fun K hK => ?_) (fun K hK => ?_)
                     ·skip
                      refine Kd.R_lit_step k57 _ 57 ?hg (N := 51) ?hd (xs := ([] : List (S57))) (inner := []) (ok := fun _ => True) (okp := fun _ => True) ?hr ?hp (fun _ hk => hk) trivial (Below.refl _ _) (Nat.le_refl _) (by simp) ?_; (case hd => rfl); (case hg => rfl); (case hr => first | (go_simp; done) | (go_simp; rfl)); (case hp => exact (Reps.none _ _))
                      intro v195 w95 ho96 hb hg_ hnew_
                      clear hg_ hnew_
                      (first | rw [← Ny194.out] at ho96 | (simp only [Int.reduceToNat] at ho96; rw [← Ny194.out] at ho96))
                      have HO196 := mk (Kd.R_lower (Kd.R_newB ho96 (by exact B1_.1)) (below_size (by repeat first | exact HB.1 | apply pD | apply b1 | refine bT (by assumption) ?_ | apply bA)))
                      have n1_ := bb hb B0_.1
                      have n2_ := bb hb B1_.1
                      have n3_ := bb hb B2_.1
                      have n4_ := mk (below_step (by repeat first | exact HB.1 | apply pD | apply b1 | refine bT (by assumption) ?_ | apply bA) hb)
                      clear B0_ B1_ B2_ HB
                      have B0_ := n1_
                      have B1_ := n2_
                      have B2_ := n3_
                      have HB := n4_
                      clear n1_ n2_ n3_ n4_ hb ho96
                      refine hK.out _ _ (c12t B0_.1 ⟨bQ B1_.1 0, bQ B1_.1 1, bQ B1_.1 2, bQ B1_.1 3⟩) (fun hHeld => ?_)
                      clear hK K
                      refine norm_ (a' := ?_) ?_ ?_
                      rotate_left
                      ·show Act.put _ (some 51) _ = _
                       simp only [Act.put, List.setIfInBounds_toArray, List.set_cons_zero, List.set_cons_succ, i64_w, i32_w]
                       rfl
                      exact norm_ (by simp only [putAll, Act.put, List.setIfInBounds_toArray, List.set_cons_zero, List.set_cons_succ] <;> rfl) (hJ1 (v195) _ ⟨hHeld, (by (with_reducible repeat (first | apply Kd.R_alloc | apply Kd.R_drewN | apply Kd.R_drew)); exact Kd.R_mono HO196.1 (fun _ hk => hk.2)), (by exact B0_.1), (by exact B1_.1), (by exact B2_.1), (by repeat (first | (with_reducible first | exact HB.1 | apply bA | apply pD | apply b1 | apply bS E0_.1 | apply bS E1_.1 | apply bS E2_.1) | exact HB.1))⟩)
                     ·skip
                      refine Kd.R_lit_step k57 _ 57 ?hg (N := 55) ?hd (xs := ([(⟨a2_0, a2_1, a2_2, a2_3⟩ : S57)] : List (S57))) (inner := [.int .i64 a2_0, .int .i64 a2_1, .int .i64 a2_2, .int .i64 a2_3]) (ok := fun _ => True) (okp := fun _ => True) ?hr ?hp (fun _ hk => hk) trivial (Below.refl _ _) (Nat.le_refl _) (by simp) ?_; (case hd => rfl); (case hg => rfl); (case hr => first | (go_simp; done) | (go_simp; rfl)); (case hp => exact (Reps.c4 (show Kd.M k57 _ _ _ (⟨a2_0, a2_1, a2_2, a2_3⟩ : S57) [.int .i64 a2_0, .int .i64 a2_1, .int .i64 a2_2, .int .i64 a2_3] from (k57_mkM _ _ _ (⟨a2_0, a2_1, a2_2, a2_3⟩ : S57) )) (Reps.none _ _)))
                      intro v201 w95 ho96 hb hg_ hnew_
                      clear hg_ hnew_
                      (first | rw [← Ny200.out] at ho96 | (simp only [Int.reduceToNat] at ho96; rw [← Ny200.out] at ho96))
                      have HO202 := mk (Kd.R_lower (Kd.R_newB ho96 (by exact B1_.1)) (below_size (by repeat first | exact HB.1 | apply pD | apply b1 | refine bT (by assumption) ?_ | apply bA)))
                      have n1_ := bb hb B0_.1
                      have n2_ := bb hb B1_.1
                      have n3_ := bb hb B2_.1
                      have n4_ := mk (below_step (by repeat first | exact HB.1 | apply pD | apply b1 | refine bT (by assumption) ?_ | apply bA) hb)
                      clear B0_ B1_ B2_ HB
                      have B0_ := n1_
                      have B1_ := n2_
                      have B2_ := n3_
                      have HB := n4_
                      clear n1_ n2_ n3_ n4_ hb ho96
                      refine hK.out _ _ (c12t B0_.1 ⟨bQ B1_.1 0, bQ B1_.1 1, bQ B1_.1 2, bQ B1_.1 3⟩) (fun hHeld => ?_)
                      clear hK K
                      refine norm_ (a' := ?_) ?_ ?_
                      rotate_left
                      ·show Act.put _ (some 55) _ = _
                       simp only [Act.put, List.setIfInBounds_toArray, List.set_cons_zero, List.set_cons_succ, i64_w, i32_w]
                       rfl
                      exact norm_ (by simp only [putAll, Act.put, List.setIfInBounds_toArray, List.set_cons_zero, List.set_cons_succ] <;> rfl) (hJ5 (v201) _ ⟨hHeld, (by (with_reducible repeat (first | apply Kd.R_alloc | apply Kd.R_drewN | apply Kd.R_drew)); exact Kd.R_mono HO202.1 (fun _ hk => hk.2)), (by exact B0_.1), (by exact B1_.1), (by exact B2_.1), (by repeat (first | (with_reducible first | exact HB.1 | apply bA | apply pD | apply b1 | apply bS E0_.1 | apply bS E1_.1 | apply bS E2_.1) | exact HB.1))⟩)
                     skip
                     refine box_step ?hg (N := 12) ?hd (cs := #[.int .i64 0, .int .i64 0]) (t := 25) ?hr ?_; (case hd => rfl); (case hg => rfl); (case hr => first | (go_simp; done) | (go_simp; rfl))
                     intro g3_ hg w95 hbox hb
                     have n0_ := bb hb B0_.1
                     have n1_ := bb hb B1_.1
                     have n2_ := bb hb B2_.1
                     have n3_ := mk (below_step (by repeat first | exact HB.1 | apply pD | apply b1 | refine bT (by assumption) ?_ | apply bA) hb)
                     have B3_ := mk (hbox)
                     have W3_ := gl hg (by repeat first | exact HB.1 | apply pD | apply b1 | refine bT (by assumption) ?_ | apply bA)
                     have E3_ := gl hg (by repeat first | exact HB.1 | apply pD | apply b1 | refine bT (by assumption) ?_ | apply bA)
                     have N03_ := nl hg B0_.1
                     have N30_ := ng hg B0_.1
                     have N13_ := nl hg B1_.1
                     have N31_ := ng hg B1_.1
                     have N23_ := nl hg B2_.1
                     have N32_ := ng hg B2_.1
                     clear B0_ B1_ B2_ HB
                     have B0_ := n0_
                     have B1_ := n1_
                     have B2_ := n2_
                     have HB := n3_
                     clear n0_ n1_ n2_ n3_ hb hbox hg
                     refine hK.out _ _ (c12t B0_.1 ⟨bQ B1_.1 0, bQ B1_.1 1, bQ B1_.1 2, bQ B1_.1 3⟩) (fun hHeld => ?_)
                     clear hK K
                     refine norm_ (a' := ?_) ?_ ?_
                     rotate_left
                     ·show Act.put _ (some 12) _ = _
                      simp only [Act.put, List.setIfInBounds_toArray, List.set_cons_zero, List.set_cons_succ, i64_w, i32_w]
                      rfl
                     exact norm_ (by simp only [putAll, Act.put, List.setIfInBounds_toArray, List.set_cons_zero, List.set_cons_succ] <;> rfl) (hJ11 (g3_) _ ⟨hHeld, (by exact B0_.1), (by exact B1_.1), (by exact B2_.1), (by exact B3_.1), W3_.1, E3_.1, N03_.1, N30_.1, N13_.1, N31_.1, N23_.1, N32_.1, (by repeat (first | (with_reducible first | exact HB.1 | apply bA | apply pD | apply b1 | apply bS E0_.1 | apply bS E1_.1 | apply bS E2_.1 | apply bS E3_.1) | exact HB.1))⟩)
                    skip
                    rintro g3_ w96 ⟨hS_, h0_, h1_, h2_, h3_, h4_, h5_, h6_, h7_, h8_, h9_, h10_, h11_, h12_⟩
                    have n0_ : Aside0 (w96.heap[g0_]? = some (.cells #[.int .i64 a0_0, .int .i64 a0_1, .int .i64 a0_2, .int .i64 a0_3, .int .i64 a0_4, .int .i64 a0_5, .int .i64 a0_6, .int .i64 a0_7, .int .i64 a0_8, .int .i64 a0_9, .int .i64 a0_10, .int .i64 a0_11] 23 (0, 0))) := ⟨h0_⟩
                    have n1_ : Aside0 (w96.heap[g1_]? = some (.cells #[.int .i64 a2_0, .int .i64 a2_1, .int .i64 a2_2, .int .i64 a2_3] 57 (0, 0))) := ⟨h1_⟩
                    have n2_ : Aside0 (w96.heap[g2_]? = some (.cells #[.int .i64 t190, .int .i64 t191] 25 (0, 0))) := ⟨h2_⟩
                    have B3_ : Aside0 (w96.heap[g3_]? = some (.cells #[.int .i64 0, .int .i64 0] 25 (0, 0))) := ⟨h3_⟩
                    have W3_ : Aside0 (w.heap.size ≤ g3_) := ⟨h4_⟩
                    have E3_ : Aside0 (w.heap.size ≤ g3_) := ⟨h5_⟩
                    have N03_ : Aside0 (g0_ ≠ g3_) := ⟨h6_⟩
                    have N30_ : Aside0 (g3_ ≠ g0_) := ⟨h7_⟩
                    have N13_ : Aside0 (g1_ ≠ g3_) := ⟨h8_⟩
                    have N31_ : Aside0 (g3_ ≠ g1_) := ⟨h9_⟩
                    have N23_ : Aside0 (g2_ ≠ g3_) := ⟨h10_⟩
                    have N32_ : Aside0 (g3_ ≠ g2_) := ⟨h11_⟩
                    have n12_ : Aside0 (Below w.heap.size w w96) := ⟨h12_⟩
                    clear B0_ B1_ B2_ HB h0_ h1_ h2_ h3_ h4_ h5_ h6_ h7_ h8_ h9_ h10_ h11_ h12_
                    have B0_ := n0_
                    have B1_ := n1_
                    have B2_ := n2_
                    have HB := n12_
                    clear n0_ n1_ n2_ n12_
                    have hHeld := hS_
                    try dsimp only at hHeld
                    refine norm_ (a' := ?_) ?_ ?_
                    rotate_left
                    ·simp only [putAll, Act.put, List.setIfInBounds_toArray, List.set_cons_zero, List.set_cons_succ]
                     rfl
                    refine two_ (i := 1) (j := 5) (Ni := some 51) (Nj := some 55) (bs 14 2071) (bs 14 2101) rfl rfl rfl rfl (two_of HT_.out (by kernel_rfl)) (by decide) (by decide) (fun K hK => ?_) (fun K hK => ?_)
                    ·skip
                     refine Kd.R_lit_step k57 _ 57 ?hg (N := 51) ?hd (xs := ([] : List (S57))) (inner := []) (ok := fun _ => True) (okp := fun _ => True) ?hr ?hp (fun _ hk => hk) trivial (Below.refl _ _) (Nat.le_refl _) (by simp) ?_; (case hd => rfl); (case hg => rfl); (case hr => first | (go_simp; done) | (go_simp; rfl)); (case hp => exact (Reps.none _ _))
                     intro v195 w97 ho98 hb hg_ hnew_
                     clear hg_ hnew_
                     (first | rw [← Ny194.out] at ho98 | (simp only [Int.reduceToNat] at ho98; rw [← Ny194.out] at ho98))
                     have HO196 := mk (Kd.R_lower (Kd.R_newB ho98 (by exact B1_.1)) (below_size (by repeat first | exact HB.1 | apply pD | apply b1 | refine bT (by assumption) ?_ | apply bA)))
                     have n1_ := bb hb B0_.1
                     have n2_ := bb hb B1_.1
                     have n3_ := bb hb B2_.1
                     have n4_ := bb hb B3_.1
                     have n5_ := mk (below_step (by repeat first | exact HB.1 | apply pD | apply b1 | refine bT (by assumption) ?_ | apply bA) hb)
                     clear B0_ B1_ B2_ B3_ HB
                     have B0_ := n1_
                     have B1_ := n2_
                     have B2_ := n3_
                     have B3_ := n4_
                     have HB := n5_
                     clear n1_ n2_ n3_ n4_ n5_ hb ho98
                     refine hK.out _ _ (c12t B0_.1 ⟨bQ B1_.1 0, bQ B1_.1 1, bQ B1_.1 2, bQ B1_.1 3⟩) (fun hHeld => ?_)
                     clear hK K
                     refine norm_ (a' := ?_) ?_ ?_
                     rotate_left
                     ·show Act.put _ (some 51) _ = _
                      simp only [Act.put, List.setIfInBounds_toArray, List.set_cons_zero, List.set_cons_succ, i64_w, i32_w]
                      rfl
                     exact norm_ (by simp only [putAll, Act.put, List.setIfInBounds_toArray, List.set_cons_zero, List.set_cons_succ] <;> rfl) (hJ1_11 (v195, g3_) _ ⟨hHeld, (by (with_reducible repeat (first | apply Kd.R_alloc | apply Kd.R_drewN | apply Kd.R_drew)); exact Kd.R_mono HO196.1 (fun _ hk => hk.2)), (by exact B0_.1), (by exact B1_.1), (by exact B2_.1), (by exact B3_.1), W3_.1, E3_.1, N03_.1, N30_.1, N13_.1, N31_.1, N23_.1, N32_.1, (by repeat (first | (with_reducible first | exact HB.1 | apply bA | apply pD | apply b1 | apply bS E0_.1 | apply bS E1_.1 | apply bS E2_.1 | apply bS E3_.1) | exact HB.1))⟩)
                    skip
                    refine Kd.R_lit_step k57 _ 57 ?hg (N := 55) ?hd (xs := ([(⟨a2_0, a2_1, a2_2, a2_3⟩ : S57)] : List (S57))) (inner := [.int .i64 a2_0, .int .i64 a2_1, .int .i64 a2_2, .int .i64 a2_3]) (ok := fun _ => True) (okp := fun _ => True) ?hr ?hp (fun _ hk => hk) trivial (Below.refl _ _) (Nat.le_refl _) (by simp) ?_; (case hd => rfl); (case hg => rfl); (case hr => first | (go_simp; done) | (go_simp; rfl)); (case hp => exact (Reps.c4 (show Kd.M k57 _ _ _ (⟨a2_0, a2_1, a2_2, a2_3⟩ : S57) [.int .i64 a2_0, .int .i64 a2_1, .int .i64 a2_2, .int .i64 a2_3] from (k57_mkM _ _ _ (⟨a2_0, a2_1, a2_2, a2_3⟩ : S57) )) (Reps.none _ _)))
                    intro v201 w97 ho98 hb hg_ hnew_
                    clear hg_ hnew_
                    (first | rw [← Ny200.out] at ho98 | (simp only [Int.reduceToNat] at ho98; rw [← Ny200.out] at ho98))
                    have HO202 := mk (Kd.R_lower (Kd.R_newB ho98 (by exact B1_.1)) (below_size (by repeat first | exact HB.1 | apply pD | apply b1 | refine bT (by assumption) ?_ | apply bA)))
                    have n1_ := bb hb B0_.1
                    have n2_ := bb hb B1_.1
                    have n3_ := bb hb B2_.1
                    have n4_ := bb hb B3_.1
                    have n5_ := mk (below_step (by repeat first | exact HB.1 | apply pD | apply b1 | refine bT (by assumption) ?_ | apply bA) hb)
                    clear B0_ B1_ B2_ B3_ HB
                    have B0_ := n1_
                    have B1_ := n2_
                    have B2_ := n3_
                    have B3_ := n4_
                    have HB := n5_
                    clear n1_ n2_ n3_ n4_ n5_ hb ho98
                    refine hK.out _ _ (c12t B0_.1 ⟨bQ B1_.1 0, bQ B1_.1 1, bQ B1_.1 2, bQ B1_.1 3⟩) (fun hHeld => ?_)
                    clear hK K
                    refine norm_ (a' := ?_) ?_ ?_
                    rotate_left
                    ·show Act.put _ (some 55) _ = _
                     simp only [Act.put, List.setIfInBounds_toArray, List.set_cons_zero, List.set_cons_succ, i64_w, i32_w]
                     rfl
                    exact norm_ (by simp only [putAll, Act.put, List.setIfInBounds_toArray, List.set_cons_zero, List.set_cons_succ] <;> rfl) (hJ5_11 (v201, g3_) _ ⟨hHeld, (by (with_reducible repeat (first | apply Kd.R_alloc | apply Kd.R_drewN | apply Kd.R_drew)); exact Kd.R_mono HO202.1 (fun _ hk => hk.2)), (by exact B0_.1), (by exact B1_.1), (by exact B2_.1), (by exact B3_.1), W3_.1, E3_.1, N03_.1, N30_.1, N13_.1, N31_.1, N23_.1, N32_.1, (by repeat (first | (with_reducible first | exact HB.1 | apply bA | apply pD | apply b1 | apply bS E0_.1 | apply bS E1_.1 | apply bS E2_.1 | apply bS E3_.1) | exact HB.1))⟩)
                   skip
                   rintro v201 w97 ⟨hS_, h0_, h1_, h2_, h3_, h4_⟩
                   have HO202 : Aside0 (Kd.R k57 57 w97 w.heap.size (fun k_ => k_ ≠ g1_) v201 y200) := ⟨h0_⟩
                   have n1_ : Aside0 (w97.heap[g0_]? = some (.cells #[.int .i64 a0_0, .int .i64 a0_1, .int .i64 a0_2, .int .i64 a0_3, .int .i64 a0_4, .int .i64 a0_5, .int .i64 a0_6, .int .i64 a0_7, .int .i64 a0_8, .int .i64 a0_9, .int .i64 a0_10, .int .i64 a0_11] 23 (0, 0))) := ⟨h1_⟩
                   have n2_ : Aside0 (w97.heap[g1_]? = some (.cells #[.int .i64 a2_0, .int .i64 a2_1, .int .i64 a2_2, .int .i64 a2_3] 57 (0, 0))) := ⟨h2_⟩
                   have n3_ : Aside0 (w97.heap[g2_]? = some (.cells #[.int .i64 t190, .int .i64 t191] 25 (0, 0))) := ⟨h3_⟩
                   have n4_ : Aside0 (Below w.heap.size w w97) := ⟨h4_⟩
                   clear B0_ B1_ B2_ HB h0_ h1_ h2_ h3_ h4_
                   have B0_ := n1_
                   have B1_ := n2_
                   have B2_ := n3_
                   have HB := n4_
                   clear n1_ n2_ n3_ n4_
                   have hHeld := hS_
                   try dsimp only at hHeld
                   refine norm_ (a' := ?_) ?_ ?_
                   rotate_left
                   ·simp only [putAll, Act.put, List.setIfInBounds_toArray, List.set_cons_zero, List.set_cons_succ]
                    rfl
                   refine two_ (i := 1) (j := 11) (Ni := some 51) (Nj := some 12) (bs 14 55) (bs 14 2101) rfl rfl rfl rfl (two_of HT_.out (by kernel_rfl)) (by decide) (by decide) (fun K hK => ?_) (fun K hK => ?_)
                   ·skip
                    refine Kd.R_lit_step k57 _ 57 ?hg (N := 51) ?hd (xs := ([] : List (S57))) (inner := []) (ok := fun _ => True) (okp := fun _ => True) ?hr ?hp (fun _ hk => hk) trivial (Below.refl _ _) (Nat.le_refl _) (by simp) ?_; (case hd => rfl); (case hg => rfl); (case hr => first | (go_simp; done) | (go_simp; rfl)); (case hp => exact (Reps.none _ _))
                    intro v195 w98 ho99 hb hg_ hnew_
                    clear hg_ hnew_
                    (first | rw [← Ny194.out] at ho99 | (simp only [Int.reduceToNat] at ho99; rw [← Ny194.out] at ho99))
                    have n0_ := mk (Kd.R_elder' (by (with_reducible repeat (first | apply Kd.R_alloc | apply Kd.R_drewN | apply Kd.R_drew)); exact HO202.1) (Kd.R_base ho99) hb)
                    have HO196 := mk (Kd.R_lower (Kd.R_newB (Kd.R_new' ho99 (Kd.R_lt (by (with_reducible repeat (first | apply Kd.R_alloc | apply Kd.R_drewN | apply Kd.R_drew)); exact HO202.1))) (by exact B1_.1)) (below_size (by repeat first | exact HB.1 | apply pD | apply b1 | refine bT (by assumption) ?_ | apply bA)))
                    have n2_ := bb hb B0_.1
                    have n3_ := bb hb B1_.1
                    have n4_ := bb hb B2_.1
                    have n5_ := mk (below_step (by repeat first | exact HB.1 | apply pD | apply b1 | refine bT (by assumption) ?_ | apply bA) hb)
                    clear HO202 B0_ B1_ B2_ HB
                    have HO202 := n0_
                    have B0_ := n2_
                    have B1_ := n3_
                    have B2_ := n4_
                    have HB := n5_
                    clear n0_ n2_ n3_ n4_ n5_ hb ho99
                    refine hK.out _ _ (c12t B0_.1 ⟨bQ B1_.1 0, bQ B1_.1 1, bQ B1_.1 2, bQ B1_.1 3⟩) (fun hHeld => ?_)
                    clear hK K
                    refine norm_ (a' := ?_) ?_ ?_
                    rotate_left
                    ·show Act.put _ (some 51) _ = _
                     simp only [Act.put, List.setIfInBounds_toArray, List.set_cons_zero, List.set_cons_succ, i64_w, i32_w]
                     rfl
                    exact norm_ (by simp only [putAll, Act.put, List.setIfInBounds_toArray, List.set_cons_zero, List.set_cons_succ] <;> rfl) (hJ1_5 (_, _) _ ⟨hHeld, (by (with_reducible repeat (first | apply Kd.R_alloc | apply Kd.R_drewN | apply Kd.R_drew)); exact Kd.R_mono HO196.1 (fun _ hk => ⟨hk.1.2, hk.2⟩)), (by (with_reducible repeat (first | apply Kd.R_alloc | apply Kd.R_drewN | apply Kd.R_drew)); exact Kd.R_mono HO202.1 (fun _ hk => ⟨hk.2, hk.1⟩)), (by exact B0_.1), (by exact B1_.1), (by exact B2_.1), (by repeat (first | (with_reducible first | exact HB.1 | apply bA | apply pD | apply b1 | apply bS E0_.1 | apply bS E1_.1 | apply bS E2_.1) | exact HB.1))⟩)
                   skip
                   refine box_step ?hg (N := 12) ?hd (cs := #[.int .i64 0, .int .i64 0]) (t := 25) ?hr ?_; (case hd => rfl); (case hg => rfl); (case hr => first | (go_simp; done) | (go_simp; rfl))
                   intro g3_ hg w98 hbox hb
                   have n0_ := mk (Kd.R_below (by (with_reducible repeat (first | apply Kd.R_alloc | apply Kd.R_drewN | apply Kd.R_drew)); exact HO202.1) hb)
                   have n1_ := bb hb B0_.1
                   have n2_ := bb hb B1_.1
                   have n3_ := bb hb B2_.1
                   have n4_ := mk (below_step (by repeat first | exact HB.1 | apply pD | apply b1 | refine bT (by assumption) ?_ | apply bA) hb)
                   have B3_ := mk (hbox)
                   have W3_ := gl hg (by repeat first | exact HB.1 | apply pD | apply b1 | refine bT (by assumption) ?_ | apply bA)
                   have E3_ := gl hg (by repeat first | exact HB.1 | apply pD | apply b1 | refine bT (by assumption) ?_ | apply bA)
                   have N03_ := nl hg B0_.1
                   have N30_ := ng hg B0_.1
                   have N13_ := nl hg B1_.1
                   have N31_ := ng hg B1_.1
                   have N23_ := nl hg B2_.1
                   have N32_ := ng hg B2_.1
                   clear HO202 B0_ B1_ B2_ HB
                   have HO202 := n0_
                   have B0_ := n1_
                   have B1_ := n2_
                   have B2_ := n3_
                   have HB := n4_
                   clear n0_ n1_ n2_ n3_ n4_ hb hbox hg
                   refine hK.out _ _ (c12t B0_.1 ⟨bQ B1_.1 0, bQ B1_.1 1, bQ B1_.1 2, bQ B1_.1 3⟩) (fun hHeld => ?_)
                   clear hK K
                   refine norm_ (a' := ?_) ?_ ?_
                   rotate_left
                   ·show Act.put _ (some 12) _ = _
                    simp only [Act.put, List.setIfInBounds_toArray, List.set_cons_zero, List.set_cons_succ, i64_w, i32_w]
                    rfl
                   exact norm_ (by simp only [putAll, Act.put, List.setIfInBounds_toArray, List.set_cons_zero, List.set_cons_succ] <;> rfl) (hJ5_11 (v201, g3_) _ ⟨hHeld, (by (with_reducible repeat (first | apply Kd.R_alloc | apply Kd.R_drewN | apply Kd.R_drew)); exact HO202.1), (by exact B0_.1), (by exact B1_.1), (by exact B2_.1), (by exact B3_.1), W3_.1, E3_.1, N03_.1, N30_.1, N13_.1, N31_.1, N23_.1, N32_.1, (by repeat (first | (with_reducible first | exact HB.1 | apply bA | apply pD | apply b1 | apply bS E0_.1 | apply bS E1_.1 | apply bS E2_.1 | apply bS E3_.1) | exact HB.1))⟩)
                  skip
                  rintro v195 w97 ⟨hS_, h0_, h1_, h2_, h3_, h4_⟩
                  have HO196 : Aside0 (Kd.R k57 57 w97 w.heap.size (fun k_ => k_ ≠ g1_) v195 y194) := ⟨h0_⟩
                  have n1_ : Aside0 (w97.heap[g0_]? = some (.cells #[.int .i64 a0_0, .int .i64 a0_1, .int .i64 a0_2, .int .i64 a0_3, .int .i64 a0_4, .int .i64 a0_5, .int .i64 a0_6, .int .i64 a0_7, .int .i64 a0_8, .int .i64 a0_9, .int .i64 a0_10, .int .i64 a0_11] 23 (0, 0))) := ⟨h1_⟩
                  have n2_ : Aside0 (w97.heap[g1_]? = some (.cells #[.int .i64 a2_0, .int .i64 a2_1, .int .i64 a2_2, .int .i64 a2_3] 57 (0, 0))) := ⟨h2_⟩
                  have n3_ : Aside0 (w97.heap[g2_]? = some (.cells #[.int .i64 t190, .int .i64 t191] 25 (0, 0))) := ⟨h3_⟩
                  have n4_ : Aside0 (Below w.heap.size w w97) := ⟨h4_⟩
                  clear B0_ B1_ B2_ HB h0_ h1_ h2_ h3_ h4_
                  have B0_ := n1_
                  have B1_ := n2_
                  have B2_ := n3_
                  have HB := n4_
                  clear n1_ n2_ n3_ n4_
                  have hHeld := hS_
                  try dsimp only at hHeld
                  refine norm_ (a' := ?_) ?_ ?_
                  rotate_left
                  ·simp only [putAll, Act.put, List.setIfInBounds_toArray, List.set_cons_zero, List.set_cons_succ]
                   rfl
                  refine three_ (i := 3) (j := 5) (k := 11) (Ni := some 53) (Nj := some 55) (Nk := some 12) (bs 14 31) (bs 14 55) (bs 14 2071) rfl rfl rfl rfl rfl rfl (three_of HT_.out (by kernel_rfl)) (by decide) (by decide) (by decide) (fun K hK => ?_) (fun K hK => ?_) (fun K hK => ?_)
                  ·skip
                   refine Kd.R_append_rows_step k57 (w0 := w) w.heap.size (by rfl) (.tmp 51) (.tmp 52) 62 57 (.agg #[(.int .i64 0), (.int .i64 0), (.int .i64 0), (.int .i64 0)]) 32 rfl Try.underlying62 info57 rfl (by decide) (by omega) v195 y194 l1 _ _ _ (fun k_ => k_ ≠ g1_) (fun _ => False) rfl rfl ?aO ?aR (fun _ _ h => h) (fun _ h => h.elim) ?aF ?aB ?aS ?aL ?_
                   (case aR => repeat (first | exact (Kd.C_below HR1.out HB.1) | (with_reducible refine Kd.C_alloc ?_ _) | (with_reducible refine Kd.C_drewN ?_ _) | (with_reducible refine Kd.C_drew ?_)))
                   (case aB => exact (by repeat (first | (with_reducible first | exact HB.1 | apply bA | apply pD | apply b1 | apply bS E0_.1 | apply bS E1_.1 | apply bS E2_.1) | exact HB.1)))
                   (case aF => exact (fun k_ hk => Kd.freshB (by exact B1_.1) k_ hk))
                   (case aO => exact (by (with_reducible repeat (first | apply Kd.R_alloc | apply Kd.R_drewN | apply Kd.R_drew)); exact HO196.1))
                   (case aS => exact (below_size (by repeat first | exact HB.1 | apply pD | apply b1 | refine bT (by assumption) ?_ | apply bA)))
                   (case aL => have := LMc69.out; omega)
                   intro v198 w98 ho hb hg hat
                   rw [← Ny197.out] at ho
                   have n0_ := mk (blk_grown (by exact B0_.1) hg (Kd.R_ne HO196.1 B0_.1 (by decide)))
                   have n1_ := mk (blk_grown (by exact B1_.1) hg (Kd.R_away HO196.1 (fun _ hk => hk)))
                   have n2_ := mk (blk_grown (by exact B2_.1) hg (Kd.R_ne HO196.1 B2_.1 (by decide)))
                   have n3_ := mk (hb)
                   have HO199 := mk (ho)
                   clear B0_ B1_ B2_ HB HO196
                   have B0_ := n0_
                   have B1_ := n1_
                   have B2_ := n2_
                   have HB := n3_
                   clear n0_ n1_ n2_ n3_ ho hb hg hat
                   refine hK.out _ _ (c12t B0_.1 ⟨bQ B1_.1 0, bQ B1_.1 1, bQ B1_.1 2, bQ B1_.1 3⟩) (fun hHeld => ?_)
                   clear hK K
                   refine norm_ (a' := ?_) ?_ ?_
                   rotate_left
                   ·show Act.put _ (some 53) _ = _
                    simp only [Act.put, List.setIfInBounds_toArray, List.set_cons_zero, List.set_cons_succ, i64_w, i32_w]
                    rfl
                   exact norm_ (by simp only [putAll, Act.put, List.setIfInBounds_toArray, List.set_cons_zero, List.set_cons_succ] <;> rfl) (hJ1_3 (_, _) _ ⟨hHeld, (by (with_reducible repeat (first | apply Kd.R_alloc | apply Kd.R_drewN | apply Kd.R_drew)); exact HO199.1), (by exact B0_.1), (by exact B1_.1), (by exact B2_.1), (by repeat (first | (with_reducible first | exact HB.1 | apply bA | apply pD | apply b1 | apply bS E0_.1 | apply bS E1_.1 | apply bS E2_.1) | exact HB.1))⟩)
                  ·skip
                   refine Kd.R_lit_step k57 _ 57 ?hg (N := 55) ?hd (xs := ([(⟨a2_0, a2_1, a2_2, a2_3⟩ : S57)] : List (S57))) (inner := [.int .i64 a2_0, .int .i64 a2_1, .int .i64 a2_2, .int .i64 a2_3]) (ok := fun _ => True) (okp := fun _ => True) ?hr ?hp (fun _ hk => hk) trivial (Below.refl _ _) (Nat.le_refl _) (by simp) ?_; (case hd => rfl); (case hg => rfl); (case hr => first | (go_simp; done) | (go_simp; rfl)); (case hp => exact (Reps.c4 (show Kd.M k57 _ _ _ (⟨a2_0, a2_1, a2_2, a2_3⟩ : S57) [.int .i64 a2_0, .int .i64 a2_1, .int .i64 a2_2, .int .i64 a2_3] from (k57_mkM _ _ _ (⟨a2_0, a2_1, a2_2, a2_3⟩ : S57) )) (Reps.none _ _)))
                   intro v201 w98 ho99 hb hg_ hnew_
                   clear hg_ hnew_
                   (first | rw [← Ny200.out] at ho99 | (simp only [Int.reduceToNat] at ho99; rw [← Ny200.out] at ho99))
                   have n0_ := mk (Kd.R_elder' (by (with_reducible repeat (first | apply Kd.R_alloc | apply Kd.R_drewN | apply Kd.R_drew)); exact HO196.1) (Kd.R_base ho99) hb)
                   have HO202 := mk (Kd.R_lower (Kd.R_newB (Kd.R_new' ho99 (Kd.R_lt (by (with_reducible repeat (first | apply Kd.R_alloc | apply Kd.R_drewN | apply Kd.R_drew)); exact HO196.1))) (by exact B1_.1)) (below_size (by repeat first | exact HB.1 | apply pD | apply b1 | refine bT (by assumption) ?_ | apply bA)))
                   have n2_ := bb hb B0_.1
                   have n3_ := bb hb B1_.1
                   have n4_ := bb hb B2_.1
                   have n5_ := mk (below_step (by repeat first | exact HB.1 | apply pD | apply b1 | refine bT (by assumption) ?_ | apply bA) hb)
                   clear HO196 B0_ B1_ B2_ HB
                   have HO196 := n0_
                   have B0_ := n2_
                   have B1_ := n3_
                   have B2_ := n4_
                   have HB := n5_
                   clear n0_ n2_ n3_ n4_ n5_ hb ho99
                   refine hK.out _ _ (c12t B0_.1 ⟨bQ B1_.1 0, bQ B1_.1 1, bQ B1_.1 2, bQ B1_.1 3⟩) (fun hHeld => ?_)
                   clear hK K
                   refine norm_ (a' := ?_) ?_ ?_
                   rotate_left
                   ·show Act.put _ (some 55) _ = _
                    simp only [Act.put, List.setIfInBounds_toArray, List.set_cons_zero, List.set_cons_succ, i64_w, i32_w]
                    rfl
                   exact norm_ (by simp only [putAll, Act.put, List.setIfInBounds_toArray, List.set_cons_zero, List.set_cons_succ] <;> rfl) (hJ1_5 (_, _) _ ⟨hHeld, (by (with_reducible repeat (first | apply Kd.R_alloc | apply Kd.R_drewN | apply Kd.R_drew)); exact Kd.R_mono HO196.1 (fun _ hk => ⟨hk.2, hk.1⟩)), (by (with_reducible repeat (first | apply Kd.R_alloc | apply Kd.R_drewN | apply Kd.R_drew)); exact Kd.R_mono HO202.1 (fun _ hk => ⟨hk.1.2, hk.2⟩)), (by exact B0_.1), (by exact B1_.1), (by exact B2_.1), (by repeat (first | (with_reducible first | exact HB.1 | apply bA | apply pD | apply b1 | apply bS E0_.1 | apply bS E1_.1 | apply bS E2_.1) | exact HB.1))⟩)
                  skip
                  refine box_step ?hg (N := 12) ?hd (cs := #[.int .i64 0, .int .i64 0]) (t := 25) ?hr ?_; (case hd => rfl); (case hg => rfl); (case hr => first | (go_simp; done) | (go_simp; rfl))
                  intro g3_ hg w98 hbox hb
                  have n0_ := mk (Kd.R_below (by (with_reducible repeat (first | apply Kd.R_alloc | apply Kd.R_drewN | apply Kd.R_drew)); exact HO196.1) hb)
                  have n1_ := bb hb B0_.1
                  have n2_ := bb hb B1_.1
                  have n3_ := bb hb B2_.1
                  have n4_ := mk (below_step (by repeat first | exact HB.1 | apply pD | apply b1 | refine bT (by assumption) ?_ | apply bA) hb)
                  have B3_ := mk (hbox)
                  have W3_ := gl hg (by repeat first | exact HB.1 | apply pD | apply b1 | refine bT (by assumption) ?_ | apply bA)
                  have E3_ := gl hg (by repeat first | exact HB.1 | apply pD | apply b1 | refine bT (by assumption) ?_ | apply bA)
                  have N03_ := nl hg B0_.1
                  have N30_ := ng hg B0_.1
                  have N13_ := nl hg B1_.1
                  have N31_ := ng hg B1_.1
                  have N23_ := nl hg B2_.1
                  have N32_ := ng hg B2_.1
                  clear HO196 B0_ B1_ B2_ HB
                  have HO196 := n0_
                  have B0_ := n1_
                  have B1_ := n2_
                  have B2_ := n3_
                  have HB := n4_
                  clear n0_ n1_ n2_ n3_ n4_ hb hbox hg
                  refine hK.out _ _ (c12t B0_.1 ⟨bQ B1_.1 0, bQ B1_.1 1, bQ B1_.1 2, bQ B1_.1 3⟩) (fun hHeld => ?_)
                  clear hK K
                  refine norm_ (a' := ?_) ?_ ?_
                  rotate_left
                  ·show Act.put _ (some 12) _ = _
                   simp only [Act.put, List.setIfInBounds_toArray, List.set_cons_zero, List.set_cons_succ, i64_w, i32_w]
                   rfl
                  exact norm_ (by simp only [putAll, Act.put, List.setIfInBounds_toArray, List.set_cons_zero, List.set_cons_succ] <;> rfl) (hJ1_11 (v195, g3_) _ ⟨hHeld, (by (with_reducible repeat (first | apply Kd.R_alloc | apply Kd.R_drewN | apply Kd.R_drew)); exact HO196.1), (by exact B0_.1), (by exact B1_.1), (by exact B2_.1), (by exact B3_.1), W3_.1, E3_.1, N03_.1, N30_.1, N13_.1, N31_.1, N23_.1, N32_.1, (by repeat (first | (with_reducible first | exact HB.1 | apply bA | apply pD | apply b1 | apply bS E0_.1 | apply bS E1_.1 | apply bS E2_.1 | apply bS E3_.1) | exact HB.1))⟩)
                 skip
                 rintro ⟨v201, g3_⟩ w98 ⟨hS_, h0_, h1_, h2_, h3_, h4_, h5_, h6_, h7_, h8_, h9_, h10_, h11_, h12_, h13_⟩
                 have HO202 : Aside0 (Kd.R k57 57 w98 w.heap.size (fun k_ => k_ ≠ g1_) v201 y200) := ⟨h0_⟩
                 have n1_ : Aside0 (w98.heap[g0_]? = some (.cells #[.int .i64 a0_0, .int .i64 a0_1, .int .i64 a0_2, .int .i64 a0_3, .int .i64 a0_4, .int .i64 a0_5, .int .i64 a0_6, .int .i64 a0_7, .int .i64 a0_8, .int .i64 a0_9, .int .i64 a0_10, .int .i64 a0_11] 23 (0, 0))) := ⟨h1_⟩
                 have n2_ : Aside0 (w98.heap[g1_]? = some (.cells #[.int .i64 a2_0, .int .i64 a2_1, .int .i64 a2_2, .int .i64 a2_3] 57 (0, 0))) := ⟨h2_⟩
                 have n3_ : Aside0 (w98.heap[g2_]? = some (.cells #[.int .i64 t190, .int .i64 t191] 25 (0, 0))) := ⟨h3_⟩
                 have B3_ : Aside0 (w98.heap[g3_]? = some (.cells #[.int .i64 0, .int .i64 0] 25 (0, 0))) := ⟨h4_⟩
                 have W3_ : Aside0 (w.heap.size ≤ g3_) := ⟨h5_⟩
                 have E3_ : Aside0 (w.heap.size ≤ g3_) := ⟨h6_⟩
                 have N03_ : Aside0 (g0_ ≠ g3_) := ⟨h7_⟩
                 have N30_ : Aside0 (g3_ ≠ g0_) := ⟨h8_⟩
                 have N13_ : Aside0 (g1_ ≠ g3_) := ⟨h9_⟩
                 have N31_ : Aside0 (g3_ ≠ g1_) := ⟨h10_⟩
                 have N23_ : Aside0 (g2_ ≠ g3_) := ⟨h11_⟩
                 have N32_ : Aside0 (g3_ ≠ g2_) := ⟨h12_⟩
                 have n13_ : Aside0 (Below w.heap.size w w98) := ⟨h13_⟩
                 clear B0_ B1_ B2_ HB h0_ h1_ h2_ h3_ h4_ h5_ h6_ h7_ h8_ h9_ h10_ h11_ h12_ h13_
                 have B0_ := n1_
                 have B1_ := n2_
                 have B2_ := n3_
                 have HB := n13_
                 clear n1_ n2_ n3_ n13_
                 have hHeld := hS_
                 try dsimp only at hHeld
                 refine norm_ (a' := ?_) ?_ ?_
                 rotate_left
                 ·simp only [putAll, Act.put, List.setIfInBounds_toArray, List.set_cons_zero, List.set_cons_succ]
                  rfl
                 refine one_ (i := 1) (N := some 51) (bs 14 2103) rfl rfl (one_of HT_.out (by kernel_rfl)) (by decide) (fun K hK => ?_)
                 refine Kd.R_lit_step k57 _ 57 ?hg (N := 51) ?hd (xs := ([] : List (S57))) (inner := []) (ok := fun _ => True) (okp := fun _ => True) ?hr ?hp (fun _ hk => hk) trivial (Below.refl _ _) (Nat.le_refl _) (by simp) ?_; (case hd => rfl); (case hg => rfl); (case hr => first | (go_simp; done) | (go_simp; rfl)); (case hp => exact (Reps.none _ _))
                 intro v195 w99 ho100 hb hg_ hnew_
                 clear hg_ hnew_
                 (first | rw [← Ny194.out] at ho100 | (simp only [Int.reduceToNat] at ho100; rw [← Ny194.out] at ho100))
                 have n0_ := mk (Kd.R_elder' (by (with_reducible repeat (first | apply Kd.R_alloc | apply Kd.R_drewN | apply Kd.R_drew)); exact HO202.1) (Kd.R_base ho100) hb)
                 have HO196 := mk (Kd.R_lower (Kd.R_newB (Kd.R_new' ho100 (Kd.R_lt (by (with_reducible repeat (first | apply Kd.R_alloc | apply Kd.R_drewN | apply Kd.R_drew)); exact HO202.1))) (by exact B1_.1)) (below_size (by repeat first | exact HB.1 | apply pD | apply b1 | refine bT (by assumption) ?_ | apply bA)))
                 have n2_ := bb hb B0_.1
                 have n3_ := bb hb B1_.1
                 have n4_ := bb hb B2_.1
                 have n5_ := bb hb B3_.1
                 have n6_ := mk (below_step (by repeat first | exact HB.1 | apply pD | apply b1 | refine bT (by assumption) ?_ | apply bA) hb)
                 clear HO202 B0_ B1_ B2_ B3_ HB
                 have HO202 := n0_
                 have B0_ := n2_
                 have B1_ := n3_
                 have B2_ := n4_
                 have B3_ := n5_
                 have HB := n6_
                 clear n0_ n2_ n3_ n4_ n5_ n6_ hb ho100
                 refine hK.out _ _ (c12t B0_.1 ⟨bQ B1_.1 0, bQ B1_.1 1, bQ B1_.1 2, bQ B1_.1 3⟩) (fun hHeld => ?_)
                 clear hK K
                 refine norm_ (a' := ?_) ?_ ?_
                 rotate_left
                 ·show Act.put _ (some 51) _ = _
                  simp only [Act.put, List.setIfInBounds_toArray, List.set_cons_zero, List.set_cons_succ, i64_w, i32_w]
                  rfl
                 exact norm_ (by simp only [putAll, Act.put, List.setIfInBounds_toArray, List.set_cons_zero, List.set_cons_succ] <;> rfl) (hJ1_5_11 (v195, v201, g3_) _ ⟨hHeld, (by (with_reducible repeat (first | apply Kd.R_alloc | apply Kd.R_drewN | apply Kd.R_drew)); exact Kd.R_mono HO196.1 (fun _ hk => ⟨hk.1.2, hk.2⟩)), (by (with_reducible repeat (first | apply Kd.R_alloc | apply Kd.R_drewN | apply Kd.R_drew)); exact Kd.R_mono HO202.1 (fun _ hk => ⟨hk.2, hk.1⟩)), (by exact B0_.1), (by exact B1_.1), (by exact B2_.1), (by exact B3_.1), W3_.1, E3_.1, N03_.1, N30_.1, N13_.1, N31_.1, N23_.1, N32_.1, (by repeat (first | (with_reducible first | exact HB.1 | apply bA | apply pD | apply b1 | apply bS E0_.1 | apply bS E1_.1 | apply bS E2_.1 | apply bS E3_.1) | exact HB.1))⟩)
                skip
                rintro ⟨v195, g3_⟩ w98 ⟨hS_, h0_, h1_, h2_, h3_, h4_, h5_, h6_, h7_, h8_, h9_, h10_, h11_, h12_, h13_⟩
                have HO196 : Aside0 (Kd.R k57 57 w98 w.heap.size (fun k_ => k_ ≠ g1_) v195 y194) := ⟨h0_⟩
                have n1_ : Aside0 (w98.heap[g0_]? = some (.cells #[.int .i64 a0_0, .int .i64 a0_1, .int .i64 a0_2, .int .i64 a0_3, .int .i64 a0_4, .int .i64 a0_5, .int .i64 a0_6, .int .i64 a0_7, .int .i64 a0_8, .int .i64 a0_9, .int .i64 a0_10, .int .i64 a0_11] 23 (0, 0))) := ⟨h1_⟩
                have n2_ : Aside0 (w98.heap[g1_]? = some (.cells #[.int .i64 a2_0, .int .i64 a2_1, .int .i64 a2_2, .int .i64 a2_3] 57 (0, 0))) := ⟨h2_⟩
                have n3_ : Aside0 (w98.heap[g2_]? = some (.cells #[.int .i64 t190, .int .i64 t191] 25 (0, 0))) := ⟨h3_⟩
                have B3_ : Aside0 (w98.heap[g3_]? = some (.cells #[.int .i64 0, .int .i64 0] 25 (0, 0))) := ⟨h4_⟩
                have W3_ : Aside0 (w.heap.size ≤ g3_) := ⟨h5_⟩
                have E3_ : Aside0 (w.heap.size ≤ g3_) := ⟨h6_⟩
                have N03_ : Aside0 (g0_ ≠ g3_) := ⟨h7_⟩
                have N30_ : Aside0 (g3_ ≠ g0_) := ⟨h8_⟩
                have N13_ : Aside0 (g1_ ≠ g3_) := ⟨h9_⟩
                have N31_ : Aside0 (g3_ ≠ g1_) := ⟨h10_⟩
                have N23_ : Aside0 (g2_ ≠ g3_) := ⟨h11_⟩
                have N32_ : Aside0 (g3_ ≠ g2_) := ⟨h12_⟩
                have n13_ : Aside0 (Below w.heap.size w w98) := ⟨h13_⟩
                clear B0_ B1_ B2_ HB h0_ h1_ h2_ h3_ h4_ h5_ h6_ h7_ h8_ h9_ h10_ h11_ h12_ h13_
                have B0_ := n1_
                have B1_ := n2_
                have B2_ := n3_
                have HB := n13_
                clear n1_ n2_ n3_ n13_
                have hHeld := hS_
                try dsimp only at hHeld
                refine norm_ (a' := ?_) ?_ ?_
                rotate_left
                ·simp only [putAll, Act.put, List.setIfInBounds_toArray, List.set_cons_zero, List.set_cons_succ]
                 rfl
                refine two_ (i := 3) (j := 5) (Ni := some 53) (Nj := some 55) (bs 14 2079) (bs 14 2103) rfl rfl rfl rfl (two_of HT_.out (by kernel_rfl)) (by decide) (by decide) (fun K hK => ?_) (fun K hK => ?_)
                ·skip
                 refine Kd.R_append_rows_step k57 (w0 := w) w.heap.size (by rfl) (.tmp 51) (.tmp 52) 62 57 (.agg #[(.int .i64 0), (.int .i64 0), (.int .i64 0), (.int .i64 0)]) 32 rfl Try.underlying62 info57 rfl (by decide) (by omega) v195 y194 l1 _ _ _ (fun k_ => k_ ≠ g1_) (fun _ => False) rfl rfl ?aO ?aR (fun _ _ h => h) (fun _ h => h.elim) ?aF ?aB ?aS ?aL ?_
                 (case aR => repeat (first | exact (Kd.C_below HR1.out HB.1) | (with_reducible refine Kd.C_alloc ?_ _) | (with_reducible refine Kd.C_drewN ?_ _) | (with_reducible refine Kd.C_drew ?_)))
                 (case aB => exact (by repeat (first | (with_reducible first | exact HB.1 | apply bA | apply pD | apply b1 | apply bS E0_.1 | apply bS E1_.1 | apply bS E2_.1 | apply bS E3_.1) | exact HB.1)))
                 (case aF => exact (fun k_ hk => Kd.freshB (by exact B1_.1) k_ hk))
                 (case aO => exact (by (with_reducible repeat (first | apply Kd.R_alloc | apply Kd.R_drewN | apply Kd.R_drew)); exact HO196.1))
                 (case aS => exact (below_size (by repeat first | exact HB.1 | apply pD | apply b1 | refine bT (by assumption) ?_ | apply bA)))
                 (case aL => have := LMc69.out; omega)
                 intro v198 w99 ho hb hg hat
                 rw [← Ny197.out] at ho
                 have n0_ := mk (blk_grown (by exact B0_.1) hg (Kd.R_ne HO196.1 B0_.1 (by decide)))
                 have n1_ := mk (blk_grown (by exact B1_.1) hg (Kd.R_away HO196.1 (fun _ hk => hk)))
                 have n2_ := mk (blk_grown (by exact B2_.1) hg (Kd.R_ne HO196.1 B2_.1 (by decide)))
                 have n3_ := mk (blk_grown (by exact B3_.1) hg (Kd.R_ne HO196.1 B3_.1 (by decide)))
                 have n4_ := mk (hb)
                 have HO199 := mk (ho)
                 clear B0_ B1_ B2_ B3_ HB HO196
                 have B0_ := n0_
                 have B1_ := n1_
                 have B2_ := n2_
                 have B3_ := n3_
                 have HB := n4_
                 clear n0_ n1_ n2_ n3_ n4_ ho hb hg hat
                 refine hK.out _ _ (c12t B0_.1 ⟨bQ B1_.1 0, bQ B1_.1 1, bQ B1_.1 2, bQ B1_.1 3⟩) (fun hHeld => ?_)
                 clear hK K
                 refine norm_ (a' := ?_) ?_ ?_
                 rotate_left
                 ·show Act.put _ (some 53) _ = _
                  simp only [Act.put, List.setIfInBounds_toArray, List.set_cons_zero, List.set_cons_succ, i64_w, i32_w]
                  rfl
                 exact norm_ (by simp only [putAll, Act.put, List.setIfInBounds_toArray, List.set_cons_zero, List.set_cons_succ] <;> rfl) (hJ1_3_11 (v195, v198, g3_) _ ⟨hHeld, (by (with_reducible repeat (first | apply Kd.R_alloc | apply Kd.R_drewN | apply Kd.R_drew)); exact HO199.1), (by exact B0_.1), (by exact B1_.1), (by exact B2_.1), (by exact B3_.1), W3_.1, E3_.1, N03_.1, N30_.1, N13_.1, N31_.1, N23_.1, N32_.1, (by repeat (first | (with_reducible first | exact HB.1 | apply bA | apply pD | apply b1 | apply bS E0_.1 | apply bS E1_.1 | apply bS E2_.1 | apply bS E3_.1) | exact HB.1))⟩)
                skip
                refine Kd.R_lit_step k57 _ 57 ?hg (N := 55) ?hd (xs := ([(⟨a2_0, a2_1, a2_2, a2_3⟩ : S57)] : List (S57))) (inner := [.int .i64 a2_0, .int .i64 a2_1, .int .i64 a2_2, .int .i64 a2_3]) (ok := fun _ => True) (okp := fun _ => True) ?hr ?hp (fun _ hk => hk) trivial (Below.refl _ _) (Nat.le_refl _) (by simp) ?_; (case hd => rfl); (case hg => rfl); (case hr => first | (go_simp; done) | (go_simp; rfl)); (case hp => exact (Reps.c4 (show Kd.M k57 _ _ _ (⟨a2_0, a2_1, a2_2, a2_3⟩ : S57) [.int .i64 a2_0, .int .i64 a2_1, .int .i64 a2_2, .int .i64 a2_3] from (k57_mkM _ _ _ (⟨a2_0, a2_1, a2_2, a2_3⟩ : S57) )) (Reps.none _ _)))
                intro v201 w99 ho100 hb hg_ hnew_
                clear hg_ hnew_
                (first | rw [← Ny200.out] at ho100 | (simp only [Int.reduceToNat] at ho100; rw [← Ny200.out] at ho100))
                have n0_ := mk (Kd.R_elder' (by (with_reducible repeat (first | apply Kd.R_alloc | apply Kd.R_drewN | apply Kd.R_drew)); exact HO196.1) (Kd.R_base ho100) hb)
                have HO202 := mk (Kd.R_lower (Kd.R_newB (Kd.R_new' ho100 (Kd.R_lt (by (with_reducible repeat (first | apply Kd.R_alloc | apply Kd.R_drewN | apply Kd.R_drew)); exact HO196.1))) (by exact B1_.1)) (below_size (by repeat first | exact HB.1 | apply pD | apply b1 | refine bT (by assumption) ?_ | apply bA)))
                have n2_ := bb hb B0_.1
                have n3_ := bb hb B1_.1
                have n4_ := bb hb B2_.1
                have n5_ := bb hb B3_.1
                have n6_ := mk (below_step (by repeat first | exact HB.1 | apply pD | apply b1 | refine bT (by assumption) ?_ | apply bA) hb)
                clear HO196 B0_ B1_ B2_ B3_ HB
                have HO196 := n0_
                have B0_ := n2_
                have B1_ := n3_
                have B2_ := n4_
                have B3_ := n5_
                have HB := n6_
                clear n0_ n2_ n3_ n4_ n5_ n6_ hb ho100
                refine hK.out _ _ (c12t B0_.1 ⟨bQ B1_.1 0, bQ B1_.1 1, bQ B1_.1 2, bQ B1_.1 3⟩) (fun hHeld => ?_)
                clear hK K
                refine norm_ (a' := ?_) ?_ ?_
                rotate_left
                ·show Act.put _ (some 55) _ = _
                 simp only [Act.put, List.setIfInBounds_toArray, List.set_cons_zero, List.set_cons_succ, i64_w, i32_w]
                 rfl
                exact norm_ (by simp only [putAll, Act.put, List.setIfInBounds_toArray, List.set_cons_zero, List.set_cons_succ] <;> rfl) (hJ1_5_11 (v195, v201, g3_) _ ⟨hHeld, (by (with_reducible repeat (first | apply Kd.R_alloc | apply Kd.R_drewN | apply Kd.R_drew)); exact Kd.R_mono HO196.1 (fun _ hk => ⟨hk.2, hk.1⟩)), (by (with_reducible repeat (first | apply Kd.R_alloc | apply Kd.R_drewN | apply Kd.R_drew)); exact Kd.R_mono HO202.1 (fun _ hk => ⟨hk.1.2, hk.2⟩)), (by exact B0_.1), (by exact B1_.1), (by exact B2_.1), (by exact B3_.1), W3_.1, E3_.1, N03_.1, N30_.1, N13_.1, N31_.1, N23_.1, N32_.1, (by repeat (first | (with_reducible first | exact HB.1 | apply bA | apply pD | apply b1 | apply bS E0_.1 | apply bS E1_.1 | apply bS E2_.1 | apply bS E3_.1) | exact HB.1))⟩)
               skip
               rintro ⟨v195, v201⟩ w99 ⟨hS_, h0_, h1_, h2_, h3_, h4_, h5_⟩
               have HO196 : Aside0 (Kd.R k57 57 w99 w.heap.size (fun k_ => some k_ ≠ (v201 : Value).ownBlock ∧ k_ ≠ g1_) v195 y194) := ⟨h0_⟩
               have HO202 : Aside0 (Kd.R k57 57 w99 w.heap.size (fun k_ => some k_ ≠ (v195 : Value).ownBlock ∧ k_ ≠ g1_) v201 y200) := ⟨h1_⟩
               have n2_ : Aside0 (w99.heap[g0_]? = some (.cells #[.int .i64 a0_0, .int .i64 a0_1, .int .i64 a0_2, .int .i64 a0_3, .int .i64 a0_4, .int .i64 a0_5, .int .i64 a0_6, .int .i64 a0_7, .int .i64 a0_8, .int .i64 a0_9, .int .i64 a0_10, .int .i64 a0_11] 23 (0, 0))) := ⟨h2_⟩
               have n3_ : Aside0 (w99.heap[g1_]? = some (.cells #[.int .i64 a2_0, .int .i64 a2_1, .int .i64 a2_2, .int .i64 a2_3] 57 (0, 0))) := ⟨h3_⟩
               have n4_ : Aside0 (w99.heap[g2_]? = some (.cells #[.int .i64 t190, .int .i64 t191] 25 (0, 0))) := ⟨h4_⟩
               have n5_ : Aside0 (Below w.heap.size w w99) := ⟨h5_⟩
               clear B0_ B1_ B2_ HB h0_ h1_ h2_ h3_ h4_ h5_
               have B0_ := n2_
               have B1_ := n3_
               have B2_ := n4_
               have HB := n5_
               clear n2_ n3_ n4_ n5_
               have hHeld := hS_
               try dsimp only at hHeld
               refine norm_ (a' := ?_) ?_ ?_
               rotate_left
               ·simp only [putAll, Act.put, List.setIfInBounds_toArray, List.set_cons_zero, List.set_cons_succ]
                rfl
               refine two_ (i := 3) (j := 11) (Ni := some 53) (Nj := some 12) (bs 14 63) (bs 14 2103) rfl rfl rfl rfl (two_of HT_.out (by kernel_rfl)) (by decide) (by decide) (fun K hK => ?_) (fun K hK => ?_)
               ·skip
                refine Kd.R_append_rows_step k57 (w0 := w) w.heap.size (by rfl) (.tmp 51) (.tmp 52) 62 57 (.agg #[(.int .i64 0), (.int .i64 0), (.int .i64 0), (.int .i64 0)]) 32 rfl Try.underlying62 info57 rfl (by decide) (by omega) v195 y194 l1 _ _ _ (fun k_ => some k_ ≠ (v201 : Value).ownBlock ∧ k_ ≠ g1_) (fun _ => False) rfl rfl ?aO ?aR (fun _ _ h => h) (fun _ h => h.elim) ?aF ?aB ?aS ?aL ?_
                (case aR => repeat (first | exact (Kd.C_below HR1.out HB.1) | (with_reducible refine Kd.C_alloc ?_ _) | (with_reducible refine Kd.C_drewN ?_ _) | (with_reducible refine Kd.C_drew ?_)))
                (case aB => exact (by repeat (first | (with_reducible first | exact HB.1 | apply bA | apply pD | apply b1 | apply bS E0_.1 | apply bS E1_.1 | apply bS E2_.1) | exact HB.1)))
                (case aF => exact (fun k_ hk => ⟨Kd.fresh' (Kd.R_lt (by (with_reducible repeat (first | apply Kd.R_alloc | apply Kd.R_drewN | apply Kd.R_drew)); exact HO202.1)) k_ hk, Kd.freshB (by exact B1_.1) k_ hk⟩))
                (case aO => exact (by (with_reducible repeat (first | apply Kd.R_alloc | apply Kd.R_drewN | apply Kd.R_drew)); exact HO196.1))
                (case aS => exact (below_size (by repeat first | exact HB.1 | apply pD | apply b1 | refine bT (by assumption) ?_ | apply bA)))
                (case aL => have := LMc69.out; omega)
                intro v198 w100 ho hb hg hat
                rw [← Ny197.out] at ho
                have n0_ := mk (blk_grown (by exact B0_.1) hg (Kd.R_ne HO196.1 B0_.1 (by decide)))
                have n1_ := mk (blk_grown (by exact B1_.1) hg (Kd.R_away HO196.1 (fun _ hk => hk.2)))
                have n2_ := mk (blk_grown (by exact B2_.1) hg (Kd.R_ne HO196.1 B2_.1 (by decide)))
                have n3_ := mk (Kd.R_after (ok := (fun k_ => k_ ≠ g1_)) (by (with_reducible repeat (first | apply Kd.R_alloc | apply Kd.R_drewN | apply Kd.R_drew)); exact Kd.R_mono HO202.1 (fun _ hk => ⟨hk.2, hk.1⟩)) hg hat)
                have n4_ := mk (hb)
                have HO199 := mk (ho)
                clear B0_ B1_ B2_ HO202 HB HO196
                have B0_ := n0_
                have B1_ := n1_
                have B2_ := n2_
                have HO202 := n3_
                have HB := n4_
                clear n0_ n1_ n2_ n3_ n4_ ho hb hg hat
                refine hK.out _ _ (c12t B0_.1 ⟨bQ B1_.1 0, bQ B1_.1 1, bQ B1_.1 2, bQ B1_.1 3⟩) (fun hHeld => ?_)
                clear hK K
                refine norm_ (a' := ?_) ?_ ?_
                rotate_left
                ·show Act.put _ (some 53) _ = _
                 simp only [Act.put, List.setIfInBounds_toArray, List.set_cons_zero, List.set_cons_succ, i64_w, i32_w]
                 rfl
                exact norm_ (by simp only [putAll, Act.put, List.setIfInBounds_toArray, List.set_cons_zero, List.set_cons_succ] <;> rfl) (hJ1_3_5 (_, _, _) _ ⟨hHeld, (by (with_reducible repeat (first | apply Kd.R_alloc | apply Kd.R_drewN | apply Kd.R_drew)); exact HO199.1), (by (with_reducible repeat (first | apply Kd.R_alloc | apply Kd.R_drewN | apply Kd.R_drew)); exact Kd.R_mono HO202.1 (fun _ hk => ⟨hk.2, hk.1⟩)), (by exact B0_.1), (by exact B1_.1), (by exact B2_.1), (by repeat (first | (with_reducible first | exact HB.1 | apply bA | apply pD | apply b1 | apply bS E0_.1 | apply bS E1_.1 | apply bS E2_.1) | exact HB.1))⟩)
               skip
               refine box_step ?hg (N := 12) ?hd (cs := #[.int .i64 0, .int .i64 0]) (t := 25) ?hr ?_; (case hd => rfl); (case hg => rfl); (case hr => first | (go_simp; done) | (go_simp; rfl))
               intro g3_ hg w100 hbox hb
               have n0_ := mk (Kd.R_below (by (with_reducible repeat (first | apply Kd.R_alloc | apply Kd.R_drewN | apply Kd.R_drew)); exact HO196.1) hb)
               have n1_ := mk (Kd.R_below (by (with_reducible repeat (first | apply Kd.R_alloc | apply Kd.R_drewN | apply Kd.R_drew)); exact HO202.1) hb)
               have n2_ := bb hb B0_.1
               have n3_ := bb hb B1_.1
               have n4_ := bb hb B2_.1
               have n5_ := mk (below_step (by repeat first | exact HB.1 | apply pD | apply b1 | refine bT (by assumption) ?_ | apply bA) hb)
               have B3_ := mk (hbox)
               have W3_ := gl hg (by repeat first | exact HB.1 | apply pD | apply b1 | refine bT (by assumption) ?_ | apply bA)
               have E3_ := gl hg (by repeat first | exact HB.1 | apply pD | apply b1 | refine bT (by assumption) ?_ | apply bA)
               have N03_ := nl hg B0_.1
               have N30_ := ng hg B0_.1
               have N13_ := nl hg B1_.1
               have N31_ := ng hg B1_.1
               have N23_ := nl hg B2_.1
               have N32_ := ng hg B2_.1
               clear HO196 HO202 B0_ B1_ B2_ HB
               have HO196 := n0_
               have HO202 := n1_
               have B0_ := n2_
               have B1_ := n3_
               have B2_ := n4_
               have HB := n5_
               clear n0_ n1_ n2_ n3_ n4_ n5_ hb hbox hg
               refine hK.out _ _ (c12t B0_.1 ⟨bQ B1_.1 0, bQ B1_.1 1, bQ B1_.1 2, bQ B1_.1 3⟩) (fun hHeld => ?_)
               clear hK K
               refine norm_ (a' := ?_) ?_ ?_
               rotate_left
               ·show Act.put _ (some 12) _ = _
                simp only [Act.put, List.setIfInBounds_toArray, List.set_cons_zero, List.set_cons_succ, i64_w, i32_w]
                rfl
               exact norm_ (by simp only [putAll, Act.put, List.setIfInBounds_toArray, List.set_cons_zero, List.set_cons_succ] <;> rfl) (hJ1_5_11 (v195, v201, g3_) _ ⟨hHeld, (by (with_reducible repeat (first | apply Kd.R_alloc | apply Kd.R_drewN | apply Kd.R_drew)); exact HO196.1), (by (with_reducible repeat (first | apply Kd.R_alloc | apply Kd.R_drewN | apply Kd.R_drew)); exact HO202.1), (by exact B0_.1), (by exact B1_.1), (by exact B2_.1), (by exact B3_.1), W3_.1, E3_.1, N03_.1, N30_.1, N13_.1, N31_.1, N23_.1, N32_.1, (by repeat (first | (with_reducible first | exact HB.1 | apply bA | apply pD | apply b1 | apply bS E0_.1 | apply bS E1_.1 | apply bS E2_.1 | apply bS E3_.1) | exact HB.1))⟩)
              skip
              rintro ⟨v195, v198⟩ w98 ⟨hS_, h0_, h1_, h2_, h3_, h4_⟩
              have HO199 : Aside0 (Kd.R k57 57 w98 w.heap.size (fun k_ => k_ ≠ g1_) v198 y197) := ⟨h0_⟩
              have n1_ : Aside0 (w98.heap[g0_]? = some (.cells #[.int .i64 a0_0, .int .i64 a0_1, .int .i64 a0_2, .int .i64 a0_3, .int .i64 a0_4, .int .i64 a0_5, .int .i64 a0_6, .int .i64 a0_7, .int .i64 a0_8, .int .i64 a0_9, .int .i64 a0_10, .int .i64 a0_11] 23 (0, 0))) := ⟨h1_⟩
              have n2_ : Aside0 (w98.heap[g1_]? = some (.cells #[.int .i64 a2_0, .int .i64 a2_1, .int .i64 a2_2, .int .i64 a2_3] 57 (0, 0))) := ⟨h2_⟩
              have n3_ : Aside0 (w98.heap[g2_]? = some (.cells #[.int .i64 t190, .int .i64 t191] 25 (0, 0))) := ⟨h3_⟩
              have n4_ : Aside0 (Below w.heap.size w w98) := ⟨h4_⟩
              clear B0_ B1_ B2_ HB h0_ h1_ h2_ h3_ h4_
              have B0_ := n1_
              have B1_ := n2_
              have B2_ := n3_
              have HB := n4_
              clear n1_ n2_ n3_ n4_
              have hHeld := hS_
              try dsimp only at hHeld
              refine norm_ (a' := ?_) ?_ ?_
              rotate_left
              ·simp only [putAll, Act.put, List.setIfInBounds_toArray, List.set_cons_zero, List.set_cons_succ]
               rfl
              refine two_ (i := 5) (j := 11) (Ni := some 55) (Nj := some 12) (bs 14 63) (bs 14 2079) rfl rfl rfl rfl (two_of HT_.out (by kernel_rfl)) (by decide) (by decide) (fun K hK => ?_) (fun K hK => ?_)
              ·skip
               refine Kd.R_lit_step k57 _ 57 ?hg (N := 55) ?hd (xs := ([(⟨a2_0, a2_1, a2_2, a2_3⟩ : S57)] : List (S57))) (inner := [.int .i64 a2_0, .int .i64 a2_1, .int .i64 a2_2, .int .i64 a2_3]) (ok := fun _ => True) (okp := fun _ => True) ?hr ?hp (fun _ hk => hk) trivial (Below.refl _ _) (Nat.le_refl _) (by simp) ?_; (case hd => rfl); (case hg => rfl); (case hr => first | (go_simp; done) | (go_simp; rfl)); (case hp => exact (Reps.c4 (show Kd.M k57 _ _ _ (⟨a2_0, a2_1, a2_2, a2_3⟩ : S57) [.int .i64 a2_0, .int .i64 a2_1, .int .i64 a2_2, .int .i64 a2_3] from (k57_mkM _ _ _ (⟨a2_0, a2_1, a2_2, a2_3⟩ : S57) )) (Reps.none _ _)))
               intro v201 w99 ho100 hb hg_ hnew_
               clear hg_ hnew_
               (first | rw [← Ny200.out] at ho100 | (simp only [Int.reduceToNat] at ho100; rw [← Ny200.out] at ho100))
               have n0_ := mk (Kd.R_elder' (by (with_reducible repeat (first | apply Kd.R_alloc | apply Kd.R_drewN | apply Kd.R_drew)); exact HO199.1) (Kd.R_base ho100) hb)
               have HO202 := mk (Kd.R_lower (Kd.R_newB (Kd.R_new' ho100 (Kd.R_lt (by (with_reducible repeat (first | apply Kd.R_alloc | apply Kd.R_drewN | apply Kd.R_drew)); exact HO199.1))) (by exact B1_.1)) (below_size (by repeat first | exact HB.1 | apply pD | apply b1 | refine bT (by assumption) ?_ | apply bA)))
               have n2_ := bb hb B0_.1
               have n3_ := bb hb B1_.1
               have n4_ := bb hb B2_.1
               have n5_ := mk (below_step (by repeat first | exact HB.1 | apply pD | apply b1 | refine bT (by assumption) ?_ | apply bA) hb)
               clear HO199 B0_ B1_ B2_ HB
               have HO199 := n0_
               have B0_ := n2_
               have B1_ := n3_
               have B2_ := n4_
               have HB := n5_
               clear n0_ n2_ n3_ n4_ n5_ hb ho100
               refine hK.out _ _ (c12t B0_.1 ⟨bQ B1_.1 0, bQ B1_.1 1, bQ B1_.1 2, bQ B1_.1 3⟩) (fun hHeld => ?_)
               clear hK K
               refine norm_ (a' := ?_) ?_ ?_
               rotate_left
               ·show Act.put _ (some 55) _ = _
                simp only [Act.put, List.setIfInBounds_toArray, List.set_cons_zero, List.set_cons_succ, i64_w, i32_w]
                rfl
               exact norm_ (by simp only [putAll, Act.put, List.setIfInBounds_toArray, List.set_cons_zero, List.set_cons_succ] <;> rfl) (hJ1_3_5 (_, _, _) _ ⟨hHeld, (by (with_reducible repeat (first | apply Kd.R_alloc | apply Kd.R_drewN | apply Kd.R_drew)); exact Kd.R_mono HO199.1 (fun _ hk => ⟨hk.2, hk.1⟩)), (by (with_reducible repeat (first | apply Kd.R_alloc | apply Kd.R_drewN | apply Kd.R_drew)); exact Kd.R_mono HO202.1 (fun _ hk => ⟨hk.1.2, hk.2⟩)), (by exact B0_.1), (by exact B1_.1), (by exact B2_.1), (by repeat (first | (with_reducible first | exact HB.1 | apply bA | apply pD | apply b1 | apply bS E0_.1 | apply bS E1_.1 | apply bS E2_.1) | exact HB.1))⟩)
              skip
              refine box_step ?hg (N := 12) ?hd (cs := #[.int .i64 0, .int .i64 0]) (t := 25) ?hr ?_; (case hd => rfl); (case hg => rfl); (case hr => first | (go_simp; done) | (go_simp; rfl))
              intro g3_ hg w99 hbox hb
              have n0_ := mk (Kd.R_below (by (with_reducible repeat (first | apply Kd.R_alloc | apply Kd.R_drewN | apply Kd.R_drew)); exact HO199.1) hb)
              have n1_ := bb hb B0_.1
              have n2_ := bb hb B1_.1
              have n3_ := bb hb B2_.1
              have n4_ := mk (below_step (by repeat first | exact HB.1 | apply pD | apply b1 | refine bT (by assumption) ?_ | apply bA) hb)
              have B3_ := mk (hbox)
              have W3_ := gl hg (by repeat first | exact HB.1 | apply pD | apply b1 | refine bT (by assumption) ?_ | apply bA)
              have E3_ := gl hg (by repeat first | exact HB.1 | apply pD | apply b1 | refine bT (by assumption) ?_ | apply bA)
              have N03_ := nl hg B0_.1
              have N30_ := ng hg B0_.1
              have N13_ := nl hg B1_.1
              have N31_ := ng hg B1_.1
              have N23_ := nl hg B2_.1
              have N32_ := ng hg B2_.1
              clear HO199 B0_ B1_ B2_ HB
              have HO199 := n0_
              have B0_ := n1_
              have B1_ := n2_
              have B2_ := n3_
              have HB := n4_
              clear n0_ n1_ n2_ n3_ n4_ hb hbox hg
              refine hK.out _ _ (c12t B0_.1 ⟨bQ B1_.1 0, bQ B1_.1 1, bQ B1_.1 2, bQ B1_.1 3⟩) (fun hHeld => ?_)
              clear hK K
              refine norm_ (a' := ?_) ?_ ?_
              rotate_left
              ·show Act.put _ (some 12) _ = _
               simp only [Act.put, List.setIfInBounds_toArray, List.set_cons_zero, List.set_cons_succ, i64_w, i32_w]
               rfl
              exact norm_ (by simp only [putAll, Act.put, List.setIfInBounds_toArray, List.set_cons_zero, List.set_cons_succ] <;> rfl) (hJ1_3_11 (v195, v198, g3_) _ ⟨hHeld, (by (with_reducible repeat (first | apply Kd.R_alloc | apply Kd.R_drewN | apply Kd.R_drew)); exact HO199.1), (by exact B0_.1), (by exact B1_.1), (by exact B2_.1), (by exact B3_.1), W3_.1, E3_.1, N03_.1, N30_.1, N13_.1, N31_.1, N23_.1, N32_.1, (by repeat (first | (with_reducible first | exact HB.1 | apply bA | apply pD | apply b1 | apply bS E0_.1 | apply bS E1_.1 | apply bS E2_.1 | apply bS E3_.1) | exact HB.1))⟩)
             skip
             rintro ⟨v195, v201, g3_⟩ w100 ⟨hS_, h0_, h1_, h2_, h3_, h4_, h5_, h6_, h7_, h8_, h9_, h10_, h11_, h12_, h13_, h14_⟩
             have HO196 : Aside0 (Kd.R k57 57 w100 w.heap.size (fun k_ => some k_ ≠ (v201 : Value).ownBlock ∧ k_ ≠ g1_) v195 y194) := ⟨h0_⟩
             have HO202 : Aside0 (Kd.R k57 57 w100 w.heap.size (fun k_ => some k_ ≠ (v195 : Value).ownBlock ∧ k_ ≠ g1_) v201 y200) := ⟨h1_⟩
             have n2_ : Aside0 (w100.heap[g0_]? = some (.cells #[.int .i64 a0_0, .int .i64 a0_1, .int .i64 a0_2, .int .i64 a0_3, .int .i64 a0_4, .int .i64 a0_5, .int .i64 a0_6, .int .i64 a0_7, .int .i64 a0_8, .int .i64 a0_9, .int .i64 a0_10, .int .i64 a0_11] 23 (0, 0))) := ⟨h2_⟩
             have n3_ : Aside0 (w100.heap[g1_]? = some (.cells #[.int .i64 a2_0, .int .i64 a2_1, .int .i64 a2_2, .int .i64 a2_3] 57 (0, 0))) := ⟨h3_⟩
             have n4_ : Aside0 (w100.heap[g2_]? = some (.cells #[.int .i64 t190, .int .i64 t191] 25 (0, 0))) := ⟨h4_⟩
             have B3_ : Aside0 (w100.heap[g3_]? = some (.cells #[.int .i64 0, .int .i64 0] 25 (0, 0))) := ⟨h5_⟩
             have W3_ : Aside0 (w.heap.size ≤ g3_) := ⟨h6_⟩
             have E3_ : Aside0 (w.heap.size ≤ g3_) := ⟨h7_⟩
             have N03_ : Aside0 (g0_ ≠ g3_) := ⟨h8_⟩
             have N30_ : Aside0 (g3_ ≠ g0_) := ⟨h9_⟩
             have N13_ : Aside0 (g1_ ≠ g3_) := ⟨h10_⟩
             have N31_ : Aside0 (g3_ ≠ g1_) := ⟨h11_⟩
             have N23_ : Aside0 (g2_ ≠ g3_) := ⟨h12_⟩
             have N32_ : Aside0 (g3_ ≠ g2_) := ⟨h13_⟩
             have n14_ : Aside0 (Below w.heap.size w w100) := ⟨h14_⟩
             clear B0_ B1_ B2_ HB h0_ h1_ h2_ h3_ h4_ h5_ h6_ h7_ h8_ h9_ h10_ h11_ h12_ h13_ h14_
             have B0_ := n2_
             have B1_ := n3_
             have B2_ := n4_
             have HB := n14_
             clear n2_ n3_ n4_ n14_
             have hHeld := hS_
             try dsimp only at hHeld
             refine norm_ (a' := ?_) ?_ ?_
             rotate_left
             ·simp only [putAll, Act.put, List.setIfInBounds_toArray, List.set_cons_zero, List.set_cons_succ]
              rfl
             refine one_ (i := 3) (N := some 53) (bs 14 2111) rfl rfl (one_of HT_.out (by kernel_rfl)) (by decide) (fun K hK => ?_)
             refine Kd.R_append_rows_step k57 (w0 := w) w.heap.size (by rfl) (.tmp 51) (.tmp 52) 62 57 (.agg #[(.int .i64 0), (.int .i64 0), (.int .i64 0), (.int .i64 0)]) 32 rfl Try.underlying62 info57 rfl (by decide) (by omega) v195 y194 l1 _ _ _ (fun k_ => some k_ ≠ (v201 : Value).ownBlock ∧ k_ ≠ g1_) (fun _ => False) rfl rfl ?aO ?aR (fun _ _ h => h) (fun _ h => h.elim) ?aF ?aB ?aS ?aL ?_
             (case aR => repeat (first | exact (Kd.C_below HR1.out HB.1) | (with_reducible refine Kd.C_alloc ?_ _) | (with_reducible refine Kd.C_drewN ?_ _) | (with_reducible refine Kd.C_drew ?_)))
             (case aB => exact (by repeat (first | (with_reducible first | exact HB.1 | apply bA | apply pD | apply b1 | apply bS E0_.1 | apply bS E1_.1 | apply bS E2_.1 | apply bS E3_.1) | exact HB.1)))
             (case aF => exact (fun k_ hk => ⟨Kd.fresh' (Kd.R_lt (by (with_reducible repeat (first | apply Kd.R_alloc | apply Kd.R_drewN | apply Kd.R_drew)); exact HO202.1)) k_ hk, Kd.freshB (by exact B1_.1) k_ hk⟩))
             (case aO => exact (by (with_reducible repeat (first | apply Kd.R_alloc | apply Kd.R_drewN | apply Kd.R_drew)); exact HO196.1))
             (case aS => exact (below_size (by repeat first | exact HB.1 | apply pD | apply b1 | refine bT (by assumption) ?_ | apply bA)))
             (case aL => have := LMc69.out; omega)
             intro v198 w101 ho hb hg hat
             rw [← Ny197.out] at ho
             have n0_ := mk (blk_grown (by exact B0_.1) hg (Kd.R_ne HO196.1 B0_.1 (by decide)))
             have n1_ := mk (blk_grown (by exact B1_.1) hg (Kd.R_away HO196.1 (fun _ hk => hk.2)))
             have n2_ := mk (blk_grown (by exact B2_.1) hg (Kd.R_ne HO196.1 B2_.1 (by decide)))
             have n3_ := mk (Kd.R_after (ok := (fun k_ => k_ ≠ g1_)) (by (with_reducible repeat (first | apply Kd.R_alloc | apply Kd.R_drewN | apply Kd.R_drew)); exact Kd.R_mono HO202.1 (fun _ hk => ⟨hk.2, hk.1⟩)) hg hat)
             have n4_ := mk (blk_grown (by exact B3_.1) hg (Kd.R_ne HO196.1 B3_.1 (by decide)))
             have n5_ := mk (hb)
             have HO199 := mk (ho)
             clear B0_ B1_ B2_ HO202 B3_ HB HO196
             have B0_ := n0_
             have B1_ := n1_
             have B2_ := n2_
             have HO202 := n3_
             have B3_ := n4_
             have HB := n5_
             clear n0_ n1_ n2_ n3_ n4_ n5_ ho hb hg hat
             refine hK.out _ _ (c12t B0_.1 ⟨bQ B1_.1 0, bQ B1_.1 1, bQ B1_.1 2, bQ B1_.1 3⟩) (fun hHeld => ?_)
             clear hK K
             refine norm_ (a' := ?_) ?_ ?_
             rotate_left
             ·show Act.put _ (some 53) _ = _
              simp only [Act.put, List.setIfInBounds_toArray, List.set_cons_zero, List.set_cons_succ, i64_w, i32_w]
              rfl
             exact norm_ (by simp only [putAll, Act.put, List.setIfInBounds_toArray, List.set_cons_zero, List.set_cons_succ] <;> rfl) (hJ1_3_5_11 (v195, v198, v201, g3_) _ ⟨hHeld, (by (with_reducible repeat (first | apply Kd.R_alloc | apply Kd.R_drewN | apply Kd.R_drew)); exact HO199.1), (by (with_reducible repeat (first | apply Kd.R_alloc | apply Kd.R_drewN | apply Kd.R_drew)); exact Kd.R_mono HO202.1 (fun _ hk => ⟨hk.2, hk.1⟩)), (by exact B0_.1), (by exact B1_.1), (by exact B2_.1), (by exact B3_.1), W3_.1, E3_.1, N03_.1, N30_.1, N13_.1, N31_.1, N23_.1, N32_.1, (by repeat (first | (with_reducible first | exact HB.1 | apply bA | apply pD | apply b1 | apply bS E0_.1 | apply bS E1_.1 | apply bS E2_.1 | apply bS E3_.1) | exact HB.1))⟩)
            skip
            rintro ⟨v195, v198, g3_⟩ w99 ⟨hS_, h0_, h1_, h2_, h3_, h4_, h5_, h6_, h7_, h8_, h9_, h10_, h11_, h12_, h13_⟩
            have HO199 : Aside0 (Kd.R k57 57 w99 w.heap.size (fun k_ => k_ ≠ g1_) v198 y197) := ⟨h0_⟩
            have n1_ : Aside0 (w99.heap[g0_]? = some (.cells #[.int .i64 a0_0, .int .i64 a0_1, .int .i64 a0_2, .int .i64 a0_3, .int .i64 a0_4, .int .i64 a0_5, .int .i64 a0_6, .int .i64 a0_7, .int .i64 a0_8, .int .i64 a0_9, .int .i64 a0_10, .int .i64 a0_11] 23 (0, 0))) := ⟨h1_⟩
            have n2_ : Aside0 (w99.heap[g1_]? = some (.cells #[.int .i64 a2_0, .int .i64 a2_1, .int .i64 a2_2, .int .i64 a2_3] 57 (0, 0))) := ⟨h2_⟩
            have n3_ : Aside0 (w99.heap[g2_]? = some (.cells #[.int .i64 t190, .int .i64 t191] 25 (0, 0))) := ⟨h3_⟩
            have B3_ : Aside0 (w99.heap[g3_]? = some (.cells #[.int .i64 0, .int .i64 0] 25 (0, 0))) := ⟨h4_⟩
            have W3_ : Aside0 (w.heap.size ≤ g3_) := ⟨h5_⟩
            have E3_ : Aside0 (w.heap.size ≤ g3_) := ⟨h6_⟩
            have N03_ : Aside0 (g0_ ≠ g3_) := ⟨h7_⟩
            have N30_ : Aside0 (g3_ ≠ g0_) := ⟨h8_⟩
            have N13_ : Aside0 (g1_ ≠ g3_) := ⟨h9_⟩
            have N31_ : Aside0 (g3_ ≠ g1_) := ⟨h10_⟩
            have N23_ : Aside0 (g2_ ≠ g3_) := ⟨h11_⟩
            have N32_ : Aside0 (g3_ ≠ g2_) := ⟨h12_⟩
            have n13_ : Aside0 (Below w.heap.size w w99) := ⟨h13_⟩
            clear B0_ B1_ B2_ HB h0_ h1_ h2_ h3_ h4_ h5_ h6_ h7_ h8_ h9_ h10_ h11_ h12_ h13_
            have B0_ := n1_
            have B1_ := n2_
            have B2_ := n3_
            have HB := n13_
            clear n1_ n2_ n3_ n13_
            have hHeld := hS_
            try dsimp only at hHeld
            refine norm_ (a' := ?_) ?_ ?_
            rotate_left
            ·simp only [putAll, Act.put, List.setIfInBounds_toArray, List.set_cons_zero, List.set_cons_succ]
             rfl
            refine one_ (i := 5) (N := some 55) (bs 14 2111) rfl rfl (one_of HT_.out (by kernel_rfl)) (by decide) (fun K hK => ?_)
            refine Kd.R_lit_step k57 _ 57 ?hg (N := 55) ?hd (xs := ([(⟨a2_0, a2_1, a2_2, a2_3⟩ : S57)] : List (S57))) (inner := [.int .i64 a2_0, .int .i64 a2_1, .int .i64 a2_2, .int .i64 a2_3]) (ok := fun _ => True) (okp := fun _ => True) ?hr ?hp (fun _ hk => hk) trivial (Below.refl _ _) (Nat.le_refl _) (by simp) ?_; (case hd => rfl); (case hg => rfl); (case hr => first | (go_simp; done) | (go_simp; rfl)); (case hp => exact (Reps.c4 (show Kd.M k57 _ _ _ (⟨a2_0, a2_1, a2_2, a2_3⟩ : S57) [.int .i64 a2_0, .int .i64 a2_1, .int .i64 a2_2, .int .i64 a2_3] from (k57_mkM _ _ _ (⟨a2_0, a2_1, a2_2, a2_3⟩ : S57) )) (Reps.none _ _)))
            intro v201 w100 ho101 hb hg_ hnew_
            clear hg_ hnew_
            (first | rw [← Ny200.out] at ho101 | (simp only [Int.reduceToNat] at ho101; rw [← Ny200.out] at ho101))
            have n0_ := mk (Kd.R_elder' (by (with_reducible repeat (first | apply Kd.R_alloc | apply Kd.R_drewN | apply Kd.R_drew)); exact HO199.1) (Kd.R_base ho101) hb)
            have HO202 := mk (Kd.R_lower (Kd.R_newB (Kd.R_new' ho101 (Kd.R_lt (by (with_reducible repeat (first | apply Kd.R_alloc | apply Kd.R_drewN | apply Kd.R_drew)); exact HO199.1))) (by exact B1_.1)) (below_size (by repeat first | exact HB.1 | apply pD | apply b1 | refine bT (by assumption) ?_ | apply bA)))
            have n2_ := bb hb B0_.1
            have n3_ := bb hb B1_.1
            have n4_ := bb hb B2_.1
            have n5_ := bb hb B3_.1
            have n6_ := mk (below_step (by repeat first | exact HB.1 | apply pD | apply b1 | refine bT (by assumption) ?_ | apply bA) hb)
            clear HO199 B0_ B1_ B2_ B3_ HB
            have HO199 := n0_
            have B0_ := n2_
            have B1_ := n3_
            have B2_ := n4_
            have B3_ := n5_
            have HB := n6_
            clear n0_ n2_ n3_ n4_ n5_ n6_ hb ho101
            refine hK.out _ _ (c12t B0_.1 ⟨bQ B1_.1 0, bQ B1_.1 1, bQ B1_.1 2, bQ B1_.1 3⟩) (fun hHeld => ?_)
            clear hK K
            refine norm_ (a' := ?_) ?_ ?_
            rotate_left
            ·show Act.put _ (some 55) _ = _
             simp only [Act.put, List.setIfInBounds_toArray, List.set_cons_zero, List.set_cons_succ, i64_w, i32_w]
             rfl
            exact norm_ (by simp only [putAll, Act.put, List.setIfInBounds_toArray, List.set_cons_zero, List.set_cons_succ] <;> rfl) (hJ1_3_5_11 (v195, v198, v201, g3_) _ ⟨hHeld, (by (with_reducible repeat (first | apply Kd.R_alloc | apply Kd.R_drewN | apply Kd.R_drew)); exact Kd.R_mono HO199.1 (fun _ hk => ⟨hk.2, hk.1⟩)), (by (with_reducible repeat (first | apply Kd.R_alloc | apply Kd.R_drewN | apply Kd.R_drew)); exact Kd.R_mono HO202.1 (fun _ hk => ⟨hk.1.2, hk.2⟩)), (by exact B0_.1), (by exact B1_.1), (by exact B2_.1), (by exact B3_.1), W3_.1, E3_.1, N03_.1, N30_.1, N13_.1, N31_.1, N23_.1, N32_.1, (by repeat (first | (with_reducible first | exact HB.1 | apply bA | apply pD | apply b1 | apply bS E0_.1 | apply bS E1_.1 | apply bS E2_.1 | apply bS E3_.1) | exact HB.1))⟩)
           skip
           rintro ⟨v195, v198, v201⟩ w100 ⟨hS_, h0_, h1_, h2_, h3_, h4_, h5_⟩
           have HO199 : Aside0 (Kd.R k57 57 w100 w.heap.size (fun k_ => some k_ ≠ (v201 : Value).ownBlock ∧ k_ ≠ g1_) v198 y197) := ⟨h0_⟩
           have HO202 : Aside0 (Kd.R k57 57 w100 w.heap.size (fun k_ => some k_ ≠ (v198 : Value).ownBlock ∧ k_ ≠ g1_) v201 y200) := ⟨h1_⟩
           have n2_ : Aside0 (w100.heap[g0_]? = some (.cells #[.int .i64 a0_0, .int .i64 a0_1, .int .i64 a0_2, .int .i64 a0_3, .int .i64 a0_4, .int .i64 a0_5, .int .i64 a0_6, .int .i64 a0_7, .int .i64 a0_8, .int .i64 a0_9, .int .i64 a0_10, .int .i64 a0_11] 23 (0, 0))) := ⟨h2_⟩
           have n3_ : Aside0 (w100.heap[g1_]? = some (.cells #[.int .i64 a2_0, .int .i64 a2_1, .int .i64 a2_2, .int .i64 a2_3] 57 (0, 0))) := ⟨h3_⟩
           have n4_ : Aside0 (w100.heap[g2_]? = some (.cells #[.int .i64 t190, .int .i64 t191] 25 (0, 0))) := ⟨h4_⟩
           have n5_ : Aside0 (Below w.heap.size w w100) := ⟨h5_⟩
           clear B0_ B1_ B2_ HB h0_ h1_ h2_ h3_ h4_ h5_
           have B0_ := n2_
           have B1_ := n3_
           have B2_ := n4_
           have HB := n5_
           clear n2_ n3_ n4_ n5_
           have hHeld := hS_
           try dsimp only at hHeld
           obtain ⟨Ao102, co102, eo102⟩ := Kd.R_slice HO202.1
           (first | subst eo102 | (injection eo102 with f1_ f2_ f3_; have f4_ := f1_.symm; have f5_ := f3_.symm; clear f1_ f2_ f3_; subst f4_; subst f5_))
           refine norm_ (a' := ?_) ?_ ?_
           rotate_left
           ·simp only [putAll, Act.put, List.setIfInBounds_toArray, List.set_cons_zero, List.set_cons_succ]
            rfl
           refine two_ (i := 6) (j := 11) (Ni := some 56) (Nj := some 12) (bs 14 127) (bs 14 2111) rfl rfl rfl rfl (two_of HT_.out (by kernel_rfl)) (by decide) (by decide) (fun K hK => ?_) (fun K hK => ?_)
           ·skip
            refine Kd.R_append_rows_step k57 (w0 := w) w.heap.size (by rfl) (.tmp 53) (.tmp 55) 62 57 (.agg #[(.int .i64 0), (.int .i64 0), (.int .i64 0), (.int .i64 0)]) 32 rfl Try.underlying62 info57 rfl (by decide) (by omega) v198 y197 y200 _ _ _ (fun k_ => some k_ ≠ (.slice Ao102 y200.length co102 : Value).ownBlock ∧ k_ ≠ g1_) (fun _ => False) rfl rfl ?aO ?aR (fun _ _ h => h) (fun _ h => h.elim) ?aF ?aB ?aS ?aL ?_
            (case aR => repeat (first | exact (Kd.R_reads' HO202.1).2.2 | (with_reducible refine Kd.C_alloc ?_ _) | (with_reducible refine Kd.C_drewN ?_ _) | (with_reducible refine Kd.C_drew ?_)))
            (case aB => exact (by repeat (first | (with_reducible first | exact HB.1 | apply bA | apply pD | apply b1 | apply bS E0_.1 | apply bS E1_.1 | apply bS E2_.1) | exact HB.1)))
            (case aF => exact (fun k_ hk => ⟨Kd.fresh' (Kd.R_lt (by (with_reducible repeat (first | apply Kd.R_alloc | apply Kd.R_drewN | apply Kd.R_drew)); exact HO202.1)) k_ hk, Kd.freshB (by exact B1_.1) k_ hk⟩))
            (case aO => exact (by (with_reducible repeat (first | apply Kd.R_alloc | apply Kd.R_drewN | apply Kd.R_drew)); exact HO199.1))
            (case aS => exact (below_size (by repeat first | exact HB.1 | apply pD | apply b1 | refine bT (by assumption) ?_ | apply bA)))
            (case aL => have := LMc70.out; omega)
            intro v204 w101 ho hb hg hat
            rw [← Ny203.out] at ho
            have n0_ := mk (blk_grown (by exact B0_.1) hg (Kd.R_ne HO199.1 B0_.1 (by decide)))
            have n1_ := mk (blk_grown (by exact B1_.1) hg (Kd.R_away HO199.1 (fun _ hk => hk.2)))
            have n2_ := mk (blk_grown (by exact B2_.1) hg (Kd.R_ne HO199.1 B2_.1 (by decide)))
            have n3_ := mk (Kd.R_after (ok := (fun k_ => k_ ≠ g1_)) (by (with_reducible repeat (first | apply Kd.R_alloc | apply Kd.R_drewN | apply Kd.R_drew)); exact Kd.R_mono HO202.1 (fun _ hk => ⟨hk.2, hk.1⟩)) hg hat)
            have n4_ := mk (hb)
            have HO205 := mk (ho)
            clear B0_ B1_ B2_ HO202 HB HO199
            have B0_ := n0_
            have B1_ := n1_
            have B2_ := n2_
            have HO202 := n3_
            have HB := n4_
            clear n0_ n1_ n2_ n3_ n4_ ho hb hg hat
            refine hK.out _ _ (c12t B0_.1 ⟨bQ B1_.1 0, bQ B1_.1 1, bQ B1_.1 2, bQ B1_.1 3⟩) (fun hHeld => ?_)
            clear hK K
            refine norm_ (a' := ?_) ?_ ?_
            rotate_left
            ·show Act.put _ (some 56) _ = _
             simp only [Act.put, List.setIfInBounds_toArray, List.set_cons_zero, List.set_cons_succ, i64_w, i32_w]
             rfl
            exact norm_ (by simp only [putAll, Act.put, List.setIfInBounds_toArray, List.set_cons_zero, List.set_cons_succ] <;> rfl) (hJ1_3_5_6 (v195, v198, .slice Ao102 y200.length co102, v204) _ ⟨hHeld, (by (with_reducible repeat (first | apply Kd.R_alloc | apply Kd.R_drewN | apply Kd.R_drew)); exact Kd.R_mono HO202.1 (fun _ hk => ⟨hk.2, hk.1⟩)), (by (with_reducible repeat (first | apply Kd.R_alloc | apply Kd.R_drewN | apply Kd.R_drew)); exact HO205.1), (by exact B0_.1), (by exact B1_.1), (by exact B2_.1), (by repeat (first | (with_reducible first | exact HB.1 | apply bA | apply pD | apply b1 | apply bS E0_.1 | apply bS E1_.1 | apply bS E2_.1) | exact HB.1))⟩)
           skip
           refine box_step ?hg (N := 12) ?hd (cs := #[.int .i64 0, .int .i64 0]) (t := 25) ?hr ?_; (case hd => rfl); (case hg => rfl); (case hr => first | (go_simp; done) | (go_simp; rfl))
           intro g3_ hg w101 hbox hb
           have n0_ := mk (Kd.R_below (by (with_reducible repeat (first | apply Kd.R_alloc | apply Kd.R_drewN | apply Kd.R_drew)); exact HO199.1) hb)
           have n1_ := mk (Kd.R_below (by (with_reducible repeat (first | apply Kd.R_alloc | apply Kd.R_drewN | apply Kd.R_drew)); exact HO202.1) hb)
           have n2_ := bb hb B0_.1
           have n3_ := bb hb B1_.1
           have n4_ := bb hb B2_.1
           have n5_ := mk (below_step (by repeat first | exact HB.1 | apply pD | apply b1 | refine bT (by assumption) ?_ | apply bA) hb)
           have B3_ := mk (hbox)
           have W3_ := gl hg (by repeat first | exact HB.1 | apply pD | apply b1 | refine bT (by assumption) ?_ | apply bA)
           have E3_ := gl hg (by repeat first | exact HB.1 | apply pD | apply b1 | refine bT (by assumption) ?_ | apply bA)
           have N03_ := nl hg B0_.1
           have N30_ := ng hg B0_.1
           have N13_ := nl hg B1_.1
           have N31_ := ng hg B1_.1
           have N23_ := nl hg B2_.1
           have N32_ := ng hg B2_.1
           clear HO199 HO202 B0_ B1_ B2_ HB
           have HO199 := n0_
           have HO202 := n1_
           have B0_ := n2_
           have B1_ := n3_
           have B2_ := n4_
           have HB := n5_
           clear n0_ n1_ n2_ n3_ n4_ n5_ hb hbox hg
           refine hK.out _ _ (c12t B0_.1 ⟨bQ B1_.1 0, bQ B1_.1 1, bQ B1_.1 2, bQ B1_.1 3⟩) (fun hHeld => ?_)
           clear hK K
           refine norm_ (a' := ?_) ?_ ?_
           rotate_left
           ·show Act.put _ (some 12) _ = _
            simp only [Act.put, List.setIfInBounds_toArray, List.set_cons_zero, List.set_cons_succ, i64_w, i32_w]
            rfl
           exact norm_ (by simp only [putAll, Act.put, List.setIfInBounds_toArray, List.set_cons_zero, List.set_cons_succ] <;> rfl) (hJ1_3_5_11 (v195, v198, .slice Ao102 y200.length co102, g3_) _ ⟨hHeld, (by (with_reducible repeat (first | apply Kd.R_alloc | apply Kd.R_drewN | apply Kd.R_drew)); exact HO199.1), (by (with_reducible repeat (first | apply Kd.R_alloc | apply Kd.R_drewN | apply Kd.R_drew)); exact HO202.1), (by exact B0_.1), (by exact B1_.1), (by exact B2_.1), (by exact B3_.1), W3_.1, E3_.1, N03_.1, N30_.1, N13_.1, N31_.1, N23_.1, N32_.1, (by repeat (first | (with_reducible first | exact HB.1 | apply bA | apply pD | apply b1 | apply bS E0_.1 | apply bS E1_.1 | apply bS E2_.1 | apply bS E3_.1) | exact HB.1))⟩)
          skip
          rintro ⟨v195, v198, v201, g3_⟩ w101 ⟨hS_, h0_, h1_, h2_, h3_, h4_, h5_, h6_, h7_, h8_, h9_, h10_, h11_, h12_, h13_, h14_⟩
          have HO199 : Aside0 (Kd.R k57 57 w101 w.heap.size (fun k_ => some k_ ≠ (v201 : Value).ownBlock ∧ k_ ≠ g1_) v198 y197) := ⟨h0_⟩
          have HO202 : Aside0 (Kd.R k57 57 w101 w.heap.size (fun k_ => some k_ ≠ (v198 : Value).ownBlock ∧ k_ ≠ g1_) v201 y200) := ⟨h1_⟩
          have n2_ : Aside0 (w101.heap[g0_]? = some (.cells #[.int .i64 a0_0, .int .i64 a0_1, .int .i64 a0_2, .int .i64 a0_3, .int .i64 a0_4, .int .i64 a0_5, .int .i64 a0_6, .int .i64 a0_7, .int .i64 a0_8, .int .i64 a0_9, .int .i64 a0_10, .int .i64 a0_11] 23 (0, 0))) := ⟨h2_⟩
          have n3_ : Aside0 (w101.heap[g1_]? = some (.cells #[.int .i64 a2_0, .int .i64 a2_1, .int .i64 a2_2, .int .i64 a2_3] 57 (0, 0))) := ⟨h3_⟩
          have n4_ : Aside0 (w101.heap[g2_]? = some (.cells #[.int .i64 t190, .int .i64 t191] 25 (0, 0))) := ⟨h4_⟩
          have B3_ : Aside0 (w101.heap[g3_]? = some (.cells #[.int .i64 0, .int .i64 0] 25 (0, 0))) := ⟨h5_⟩
          have W3_ : Aside0 (w.heap.size ≤ g3_) := ⟨h6_⟩
          have E3_ : Aside0 (w.heap.size ≤ g3_) := ⟨h7_⟩
          have N03_ : Aside0 (g0_ ≠ g3_) := ⟨h8_⟩
          have N30_ : Aside0 (g3_ ≠ g0_) := ⟨h9_⟩
          have N13_ : Aside0 (g1_ ≠ g3_) := ⟨h10_⟩
          have N31_ : Aside0 (g3_ ≠ g1_) := ⟨h11_⟩
          have N23_ : Aside0 (g2_ ≠ g3_) := ⟨h12_⟩
          have N32_ : Aside0 (g3_ ≠ g2_) := ⟨h13_⟩
          have n14_ : Aside0 (Below w.heap.size w w101) := ⟨h14_⟩
          clear B0_ B1_ B2_ HB h0_ h1_ h2_ h3_ h4_ h5_ h6_ h7_ h8_ h9_ h10_ h11_ h12_ h13_ h14_
          have B0_ := n2_
          have B1_ := n3_
          have B2_ := n4_
          have HB := n14_
          clear n2_ n3_ n4_ n14_
          have hHeld := hS_
          try dsimp only at hHeld
          obtain ⟨Ao103, co103, eo103⟩ := Kd.R_slice HO202.1
          (first | subst eo103 | (injection eo103 with f1_ f2_ f3_; have f4_ := f1_.symm; have f5_ := f3_.symm; clear f1_ f2_ f3_; subst f4_; subst f5_))
          refine norm_ (a' := ?_) ?_ ?_
          rotate_left
          ·simp only [putAll, Act.put, List.setIfInBounds_toArray, List.set_cons_zero, List.set_cons_succ]
           rfl
          refine one_ (i := 6) (N := some 56) (bs 14 2175) rfl rfl (one_of HT_.out (by kernel_rfl)) (by decide) (fun K hK => ?_)
          refine Kd.R_append_rows_step k57 (w0 := w) w.heap.size (by rfl) (.tmp 53) (.tmp 55) 62 57 (.agg #[(.int .i64 0), (.int .i64 0), (.int .i64 0), (.int .i64 0)]) 32 rfl Try.underlying62 info57 rfl (by decide) (by omega) v198 y197 y200 _ _ _ (fun k_ => some k_ ≠ (.slice Ao103 y200.length co103 : Value).ownBlock ∧ k_ ≠ g1_) (fun _ => False) rfl rfl ?aO ?aR (fun _ _ h => h) (fun _ h => h.elim) ?aF ?aB ?aS ?aL ?_
          (case aR => repeat (first | exact (Kd.R_reads' HO202.1).2.2 | (with_reducible refine Kd.C_alloc ?_ _) | (with_reducible refine Kd.C_drewN ?_ _) | (with_reducible refine Kd.C_drew ?_)))
          (case aB => exact (by repeat (first | (with_reducible first | exact HB.1 | apply bA | apply pD | apply b1 | apply bS E0_.1 | apply bS E1_.1 | apply bS E2_.1 | apply bS E3_.1) | exact HB.1)))
          (case aF => exact (fun k_ hk => ⟨Kd.fresh' (Kd.R_lt (by (with_reducible repeat (first | apply Kd.R_alloc | apply Kd.R_drewN | apply Kd.R_drew)); exact HO202.1)) k_ hk, Kd.freshB (by exact B1_.1) k_ hk⟩))
          (case aO => exact (by (with_reducible repeat (first | apply Kd.R_alloc | apply Kd.R_drewN | apply Kd.R_drew)); exact HO199.1))
          (case aS => exact (below_size (by repeat first | exact HB.1 | apply pD | apply b1 | refine bT (by assumption) ?_ | apply bA)))
          (case aL => have := LMc70.out; omega)
          intro v204 w102 ho hb hg hat
          rw [← Ny203.out] at ho
          have n0_ := mk (blk_grown (by exact B0_.1) hg (Kd.R_ne HO199.1 B0_.1 (by decide)))
          have n1_ := mk (blk_grown (by exact B1_.1) hg (Kd.R_away HO199.1 (fun _ hk => hk.2)))
          have n2_ := mk (blk_grown (by exact B2_.1) hg (Kd.R_ne HO199.1 B2_.1 (by decide)))
          have n3_ := mk (Kd.R_after (ok := (fun k_ => k_ ≠ g1_)) (by (with_reducible repeat (first | apply Kd.R_alloc | apply Kd.R_drewN | apply Kd.R_drew)); exact Kd.R_mono HO202.1 (fun _ hk => ⟨hk.2, hk.1⟩)) hg hat)
          have n4_ := mk (blk_grown (by exact B3_.1) hg (Kd.R_ne HO199.1 B3_.1 (by decide)))
          have n5_ := mk (hb)
          have HO205 := mk (ho)
          clear B0_ B1_ B2_ HO202 B3_ HB HO199
          have B0_ := n0_
          have B1_ := n1_
          have B2_ := n2_
          have HO202 := n3_
          have B3_ := n4_
          have HB := n5_
          clear n0_ n1_ n2_ n3_ n4_ n5_ ho hb hg hat
          refine hK.out _ _ (c12t B0_.1 ⟨bQ B1_.1 0, bQ B1_.1 1, bQ B1_.1 2, bQ B1_.1 3⟩) (fun hHeld => ?_)
          clear hK K
          refine norm_ (a' := ?_) ?_ ?_
          rotate_left
          ·show Act.put _ (some 56) _ = _
           simp only [Act.put, List.setIfInBounds_toArray, List.set_cons_zero, List.set_cons_succ, i64_w, i32_w]
           rfl
          exact norm_ (by simp only [putAll, Act.put, List.setIfInBounds_toArray, List.set_cons_zero, List.set_cons_succ] <;> rfl) (hJ1_3_5_6_11 (v195, v198, .slice Ao103 y200.length co103, v204, g3_) _ ⟨hHeld, (by (with_reducible repeat (first | apply Kd.R_alloc | apply Kd.R_drewN | apply Kd.R_drew)); exact Kd.R_mono HO202.1 (fun _ hk => ⟨hk.2, hk.1⟩)), (by (with_reducible repeat (first | apply Kd.R_alloc | apply Kd.R_drewN | apply Kd.R_drew)); exact HO205.1), (by exact B0_.1), (by exact B1_.1), (by exact B2_.1), (by exact B3_.1), W3_.1, E3_.1, N03_.1, N30_.1, N13_.1, N31_.1, N23_.1, N32_.1, (by repeat (first | (with_reducible first | exact HB.1 | apply bA | apply pD | apply b1 | apply bS E0_.1 | apply bS E1_.1 | apply bS E2_.1 | apply bS E3_.1) | exact HB.1))⟩)
         skip
         rintro ⟨v195, v198, v201, v204⟩ w102 ⟨hS_, h0_, h1_, h2_, h3_, h4_, h5_⟩
         have HO202 : Aside0 (Kd.R k57 57 w102 w.heap.size (fun k_ => some k_ ≠ (v204 : Value).ownBlock ∧ k_ ≠ g1_) v201 y200) := ⟨h0_⟩
         have HO205 : Aside0 (Kd.R k57 57 w102 w.heap.size (fun k_ => some k_ ≠ (v201 : Value).ownBlock ∧ k_ ≠ g1_) v204 y203) := ⟨h1_⟩
         have n2_ : Aside0 (w102.heap[g0_]? = some (.cells #[.int .i64 a0_0, .int .i64 a0_1, .int .i64 a0_2, .int .i64 a0_3, .int .i64 a0_4, .int .i64 a0_5, .int .i64 a0_6, .int .i64 a0_7, .int .i64 a0_8, .int .i64 a0_9, .int .i64 a0_10, .int .i64 a0_11] 23 (0, 0))) := ⟨h2_⟩
         have n3_ : Aside0 (w102.heap[g1_]? = some (.cells #[.int .i64 a2_0, .int .i64 a2_1, .int .i64 a2_2, .int .i64 a2_3] 57 (0, 0))) := ⟨h3_⟩
         have n4_ : Aside0 (w102.heap[g2_]? = some (.cells #[.int .i64 t190, .int .i64 t191] 25 (0, 0))) := ⟨h4_⟩
         have n5_ : Aside0 (Below w.heap.size w w102) := ⟨h5_⟩
         clear B0_ B1_ B2_ HB h0_ h1_ h2_ h3_ h4_ h5_
         have B0_ := n2_
         have B1_ := n3_
         have B2_ := n4_
         have HB := n5_
         clear n2_ n3_ n4_ n5_
         have hHeld := hS_
         try dsimp only at hHeld
         obtain ⟨Ao103, co103, eo103⟩ := Kd.R_slice HO205.1
         (first | subst eo103 | (injection eo103 with f1_ f2_ f3_; have f4_ := f1_.symm; have f5_ := f3_.symm; clear f1_ f2_ f3_; subst f4_; subst f5_))
         refine norm_ (a' := ?_) ?_ ?_
         rotate_left
         ·simp only [putAll, Act.put, List.setIfInBounds_toArray, List.set_cons_zero, List.set_cons_succ]
          rfl
         refine two_ (i := 7) (j := 11) (Ni := some 57) (Nj := some 12) (bs 14 255) (bs 14 2175) rfl rfl rfl rfl (two_of HT_.out (by kernel_rfl)) (by decide) (by decide) (fun K hK => ?_) (fun K hK => ?_)
         ·skip
          refine goes_ Try.func37 (by kernel_rfl) rfl #[.agg #[.int .i64 a0_0, .int .i64 a0_1, .int .i64 a0_2, .int .i64 a0_3, .int .i64 a0_4, .int .i64 a0_5, .int .i64 a0_6, .int .i64 a0_7, .int .i64 a0_8, .int .i64 a0_9, .int .i64 a0_10, .int .i64 a0_11], .slice Ao103 y203.length co103] (by rfl) rfl rfl (by (try simp only [List.map_toArray, List.map_cons, List.map_nil]); first | done | rfl | (simp only [List.length_drop, List.length_take]; rfl)) ?_
          with_reducible refine (probe_Best.calls k1 a0_0 a0_1 a0_2 a0_3 a0_4 a0_5 a0_6 a0_7 a0_8 a0_9 a0_10 a0_11 _ _ y203 t206 t207 t208 _ ?side1 ?side2 A71.1).mono ?_
          (case side1 => repeat (first | exact (Kd.R_reads' HO205.1).2.2 | (with_reducible refine Kd.C_alloc ?_ _) | (with_reducible refine Kd.C_drewN ?_ _) | (with_reducible refine Kd.C_drew ?_)))
          (case side2 => exact (Kd.R_reads' HO205.1).2.1)
          rintro e w104 ⟨rfl, hb⟩
          refine ⟨_, rfl, ?_⟩
          have n0_ := mk (Kd.R_below (by (with_reducible repeat (first | apply Kd.R_alloc | apply Kd.R_drewN | apply Kd.R_drew)); exact HO202.1) hb)
          have n1_ := mk (Kd.R_below (by (with_reducible repeat (first | apply Kd.R_alloc | apply Kd.R_drewN | apply Kd.R_drew)); exact HO205.1) hb)
          have n2_ := bb hb B0_.1
          have n3_ := bb hb B1_.1
          have n4_ := bb hb B2_.1
          have n5_ := mk (below_step (by repeat first | exact HB.1 | apply pD | apply b1 | refine bT (by assumption) ?_ | apply bA) hb)
          clear HO202 HO205 B0_ B1_ B2_ HB
          have HO202 := n0_
          have HO205 := n1_
          have B0_ := n2_
          have B1_ := n3_
          have B2_ := n4_
          have HB := n5_
          clear n0_ n1_ n2_ n3_ n4_ n5_
          (try clear hb)
          (try clear hb2)
          (try clear hk)
          (try clear hi)
          refine hK.out _ _ (c12t B0_.1 ⟨bQ B1_.1 0, bQ B1_.1 1, bQ B1_.1 2, bQ B1_.1 3⟩) (fun hHeld => ?_)
          clear hK K
          refine norm_ (a' := ?_) ?_ ?_
          rotate_left
          ·show Act.put _ (some 57) _ = _
           simp only [Act.put, List.setIfInBounds_toArray, List.set_cons_zero, List.set_cons_succ, i64_w, i32_w]
           rfl
          refine pure_ (i := 8) (N := some 49) (v := ?_) (a' := ?_) (bs 14 511) rfl rfl (any_of HT_.out (by kernel_rfl)) (fun _ _ _ h => h) (Or.inl ⟨by rfl, ?_⟩) ?_ ?_
          rotate_left
          ·intro w'
           go_simp
           with_reducible rfl
          rotate_left
          ·simp only [Act.put, List.setIfInBounds_toArray, List.set_cons_zero, List.set_cons_succ, i64_w, i32_w]
           rfl
          refine pure_ (i := 9) (N := some 58) (v := ?_) (a' := ?_) (bs 14 1023) rfl rfl (any_of HT_.out (by kernel_rfl)) (fun _ _ _ h => h) (Or.inl ⟨by rfl, ?_⟩) ?_ ?_
          rotate_left
          ·intro w'
           go_simp
           with_reducible rfl
          rotate_left
          ·simp only [Act.put, List.setIfInBounds_toArray, List.set_cons_zero, List.set_cons_succ, i64_w, i32_w]
           rfl
          refine pure_ (i := 10) (N := some 59) (v := ?_) (a' := ?_) (bs 14 2047) rfl rfl (any_of HT_.out (by kernel_rfl)) (fun _ _ _ h => h) (Or.inl ⟨by rfl, ?_⟩) ?_ ?_
          rotate_left
          ·intro w'
           go_simp
           with_reducible rfl
          rotate_left
          ·simp only [Act.put, List.setIfInBounds_toArray, List.set_cons_zero, List.set_cons_succ, i64_w, i32_w]
           rfl
          exact norm_ (by simp only [putAll, Act.put, List.setIfInBounds_toArray, List.set_cons_zero, List.set_cons_succ] <;> rfl) (hJ1_3_5_6_7 (v195, v198, v201, .slice Ao103 y203.length co103) _ ⟨hHeld, (by (with_reducible repeat (first | apply Kd.R_alloc | apply Kd.R_drewN | apply Kd.R_drew)); exact HO202.1), (by (with_reducible repeat (first | apply Kd.R_alloc | apply Kd.R_drewN | apply Kd.R_drew)); exact HO205.1), (by exact B0_.1), (by exact B1_.1), (by exact B2_.1), (by repeat (first | (with_reducible first | exact HB.1 | apply bA | apply pD | apply b1 | apply bS E0_.1 | apply bS E1_.1 | apply bS E2_.1) | exact HB.1))⟩)
         skip
         refine box_step ?hg (N := 12) ?hd (cs := #[.int .i64 0, .int .i64 0]) (t := 25) ?hr ?_; (case hd => rfl); (case hg => rfl); (case hr => first | (go_simp; done) | (go_simp; rfl))
         intro g3_ hg w103 hbox hb
         have n0_ := mk (Kd.R_below (by (with_reducible repeat (first | apply Kd.R_alloc | apply Kd.R_drewN | apply Kd.R_drew)); exact HO202.1) hb)
         have n1_ := mk (Kd.R_below (by (with_reducible repeat (first | apply Kd.R_alloc | apply Kd.R_drewN | apply Kd.R_drew)); exact HO205.1) hb)
         have n2_ := bb hb B0_.1
         have n3_ := bb hb B1_.1
         have n4_ := bb hb B2_.1
         have n5_ := mk (below_step (by repeat first | exact HB.1 | apply pD | apply b1 | refine bT (by assumption) ?_ | apply bA) hb)
         have B3_ := mk (hbox)
         have W3_ := gl hg (by repeat first | exact HB.1 | apply pD | apply b1 | refine bT (by assumption) ?_ | apply bA)
         have E3_ := gl hg (by repeat first | exact HB.1 | apply pD | apply b1 | refine bT (by assumption) ?_ | apply bA)
         have N03_ := nl hg B0_.1
         have N30_ := ng hg B0_.1
         have N13_ := nl hg B1_.1
         have N31_ := ng hg B1_.1
         have N23_ := nl hg B2_.1
         have N32_ := ng hg B2_.1
         clear HO202 HO205 B0_ B1_ B2_ HB
         have HO202 := n0_
         have HO205 := n1_
         have B0_ := n2_
         have B1_ := n3_
         have B2_ := n4_
         have HB := n5_
         clear n0_ n1_ n2_ n3_ n4_ n5_ hb hbox hg
         refine hK.out _ _ (c12t B0_.1 ⟨bQ B1_.1 0, bQ B1_.1 1, bQ B1_.1 2, bQ B1_.1 3⟩) (fun hHeld => ?_)
         clear hK K
         refine norm_ (a' := ?_) ?_ ?_
         rotate_left
         ·show Act.put _ (some 12) _ = _
          simp only [Act.put, List.setIfInBounds_toArray, List.set_cons_zero, List.set_cons_succ, i64_w, i32_w]
          rfl
         exact norm_ (by simp only [putAll, Act.put, List.setIfInBounds_toArray, List.set_cons_zero, List.set_cons_succ] <;> rfl) (hJ1_3_5_6_11 (v195, v198, v201, .slice Ao103 y203.length co103, g3_) _ ⟨hHeld, (by (with_reducible repeat (first | apply Kd.R_alloc | apply Kd.R_drewN | apply Kd.R_drew)); exact HO202.1), (by (with_reducible repeat (first | apply Kd.R_alloc | apply Kd.R_drewN | apply Kd.R_drew)); exact HO205.1), (by exact B0_.1), (by exact B1_.1), (by exact B2_.1), (by exact B3_.1), W3_.1, E3_.1, N03_.1, N30_.1, N13_.1, N31_.1, N23_.1, N32_.1, (by repeat (first | (with_reducible first | exact HB.1 | apply bA | apply pD | apply b1 | apply bS E0_.1 | apply bS E1_.1 | apply bS E2_.1 | apply bS E3_.1) | exact HB.1))⟩)
        skip
        rintro ⟨v195, v198, v201, v204, g3_⟩ w103 ⟨hS_, h0_, h1_, h2_, h3_, h4_, h5_, h6_, h7_, h8_, h9_, h10_, h11_, h12_, h13_, h14_⟩
        have HO202 : Aside0 (Kd.R k57 57 w103 w.heap.size (fun k_ => some k_ ≠ (v204 : Value).ownBlock ∧ k_ ≠ g1_) v201 y200) := ⟨h0_⟩
        have HO205 : Aside0 (Kd.R k57 57 w103 w.heap.size (fun k_ => some k_ ≠ (v201 : Value).ownBlock ∧ k_ ≠ g1_) v204 y203) := ⟨h1_⟩
        have n2_ : Aside0 (w103.heap[g0_]? = some (.cells #[.int .i64 a0_0, .int .i64 a0_1, .int .i64 a0_2, .int .i64 a0_3, .int .i64 a0_4, .int .i64 a0_5, .int .i64 a0_6, .int .i64 a0_7, .int .i64 a0_8, .int .i64 a0_9, .int .i64 a0_10, .int .i64 a0_11] 23 (0, 0))) := ⟨h2_⟩
        have n3_ : Aside0 (w103.heap[g1_]? = some (.cells #[.int .i64 a2_0, .int .i64 a2_1, .int .i64 a2_2, .int .i64 a2_3] 57 (0, 0))) := ⟨h3_⟩
        have n4_ : Aside0 (w103.heap[g2_]? = some (.cells #[.int .i64 t190, .int .i64 t191] 25 (0, 0))) := ⟨h4_⟩
        have B3_ : Aside0 (w103.heap[g3_]? = some (.cells #[.int .i64 0, .int .i64 0] 25 (0, 0))) := ⟨h5_⟩
        have W3_ : Aside0 (w.heap.size ≤ g3_) := ⟨h6_⟩
        have E3_ : Aside0 (w.heap.size ≤ g3_) := ⟨h7_⟩
        have N03_ : Aside0 (g0_ ≠ g3_) := ⟨h8_⟩
        have N30_ : Aside0 (g3_ ≠ g0_) := ⟨h9_⟩
        have N13_ : Aside0 (g1_ ≠ g3_) := ⟨h10_⟩
        have N31_ : Aside0 (g3_ ≠ g1_) := ⟨h11_⟩
        have N23_ : Aside0 (g2_ ≠ g3_) := ⟨h12_⟩
        have N32_ : Aside0 (g3_ ≠ g2_) := ⟨h13_⟩
        have n14_ : Aside0 (Below w.heap.size w w103) := ⟨h14_⟩
        clear B0_ B1_ B2_ HB h0_ h1_ h2_ h3_ h4_ h5_ h6_ h7_ h8_ h9_ h10_ h11_ h12_ h13_ h14_
        have B0_ := n2_
        have B1_ := n3_
        have B2_ := n4_
        have HB := n14_
        clear n2_ n3_ n4_ n14_
        have hHeld := hS_
        try dsimp only at hHeld
        obtain ⟨Ao104, co104, eo104⟩ := Kd.R_slice HO205.1
        (first | subst eo104 | (injection eo104 with f1_ f2_ f3_; have f4_ := f1_.symm; have f5_ := f3_.symm; clear f1_ f2_ f3_; subst f4_; subst f5_))
        refine norm_ (a' := ?_) ?_ ?_
        rotate_left
        ·simp only [putAll, Act.put, List.setIfInBounds_toArray, List.set_cons_zero, List.set_cons_succ]
         rfl
        refine one_ (i := 7) (N := some 57) (bs 14 2303) rfl rfl (one_of HT_.out (by kernel_rfl)) (by decide) (fun K hK => ?_)
        refine goes_ Try.func37 (by kernel_rfl) rfl #[.agg #[.int .i64 a0_0, .int .i64 a0_1, .int .i64 a0_2, .int .i64 a0_3, .int .i64 a0_4, .int .i64 a0_5, .int .i64 a0_6, .int .i64 a0_7, .int .i64 a0_8, .int .i64 a0_9, .int .i64 a0_10, .int .i64 a0_11], .slice Ao104 y203.length co104] (by rfl) rfl rfl (by (try simp only [List.map_toArray, List.map_cons, List.map_nil]); first | done | rfl | (simp only [List.length_drop, List.length_take]; rfl)) ?_
        with_reducible refine (probe_Best.calls k1 a0_0 a0_1 a0_2 a0_3 a0_4 a0_5 a0_6 a0_7 a0_8 a0_9 a0_10 a0_11 _ _ y203 t206 t207 t208 _ ?side1 ?side2 A71.1).mono ?_
        (case side1 => repeat (first | exact (Kd.R_reads' HO205.1).2.2 | (with_reducible refine Kd.C_alloc ?_ _) | (with_reducible refine Kd.C_drewN ?_ _) | (with_reducible refine Kd.C_drew ?_)))
        (case side2 => exact (Kd.R_reads' HO205.1).2.1)
        rintro e w105 ⟨rfl, hb⟩
        refine ⟨_, rfl, ?_⟩
        have n0_ := mk (Kd.R_below (by (with_reducible repeat (first | apply Kd.R_alloc | apply Kd.R_drewN | apply Kd.R_drew)); exact HO202.1) hb)
        have n1_ := mk (Kd.R_below (by (with_reducible repeat (first | apply Kd.R_alloc | apply Kd.R_drewN | apply Kd.R_drew)); exact HO205.1) hb)
        have n2_ := bb hb B0_.1
        have n3_ := bb hb B1_.1
        have n4_ := bb hb B2_.1
        have n5_ := bb hb B3_.1
        have n6_ := mk (below_step (by repeat first | exact HB.1 | apply pD | apply b1 | refine bT (by assumption) ?_ | apply bA) hb)
        clear HO202 HO205 B0_ B1_ B2_ B3_ HB
        have HO202 := n0_
        have HO205 := n1_
        have B0_ := n2_
        have B1_ := n3_
        have B2_ := n4_
        have B3_ := n5_
        have HB := n6_
        clear n0_ n1_ n2_ n3_ n4_ n5_ n6_
        (try clear hb)
        (try clear hb2)
        (try clear hk)
        (try clear hi)
        refine hK.out _ _ (c12t B0_.1 ⟨bQ B1_.1 0, bQ B1_.1 1, bQ B1_.1 2, bQ B1_.1 3⟩) (fun hHeld => ?_)
        clear hK K
        refine norm_ (a' := ?_) ?_ ?_
        rotate_left
        ·show Act.put _ (some 57) _ = _
         simp only [Act.put, List.setIfInBounds_toArray, List.set_cons_zero, List.set_cons_succ, i64_w, i32_w]
         rfl
        refine pure_ (i := 8) (N := some 49) (v := ?_) (a' := ?_) (bs 14 2559) rfl rfl (any_of HT_.out (by kernel_rfl)) (fun _ _ _ h => h) (Or.inl ⟨by rfl, ?_⟩) ?_ ?_
        rotate_left
        ·intro w'
         go_simp
         with_reducible rfl
        rotate_left
        ·simp only [Act.put, List.setIfInBounds_toArray, List.set_cons_zero, List.set_cons_succ, i64_w, i32_w]
         rfl
        refine pure_ (i := 9) (N := some 58) (v := ?_) (a' := ?_) (bs 14 3071) rfl rfl (any_of HT_.out (by kernel_rfl)) (fun _ _ _ h => h) (Or.inl ⟨by rfl, ?_⟩) ?_ ?_
        rotate_left
        ·intro w'
         go_simp
         with_reducible rfl
        rotate_left
        ·simp only [Act.put, List.setIfInBounds_toArray, List.set_cons_zero, List.set_cons_succ, i64_w, i32_w]
         rfl
        refine pure_ (i := 10) (N := some 59) (v := ?_) (a' := ?_) (bs 14 4095) rfl rfl (any_of HT_.out (by kernel_rfl)) (fun _ _ _ h => h) (Or.inl ⟨by rfl, ?_⟩) ?_ ?_
        rotate_left
        ·intro w'
         go_simp
         with_reducible rfl
        rotate_left
        ·simp only [Act.put, List.setIfInBounds_toArray, List.set_cons_zero, List.set_cons_succ, i64_w, i32_w]
         rfl
        exact norm_ (by simp only [putAll, Act.put, List.setIfInBounds_toArray, List.set_cons_zero, List.set_cons_succ] <;> rfl) (hJ1_3_5_6_7_11 (v195, v198, v201, .slice Ao104 y203.length co104, g3_) _ ⟨hHeld, (by (with_reducible repeat (first | apply Kd.R_alloc | apply Kd.R_drewN | apply Kd.R_drew)); exact HO202.1), (by (with_reducible repeat (first | apply Kd.R_alloc | apply Kd.R_drewN | apply Kd.R_drew)); exact HO205.1), (by exact B0_.1), (by exact B1_.1), (by exact B2_.1), (by exact B3_.1), W3_.1, E3_.1, N03_.1, N30_.1, N13_.1, N31_.1, N23_.1, N32_.1, (by repeat (first | (with_reducible first | exact HB.1 | apply bA | apply pD | apply b1 | apply bS E0_.1 | apply bS E1_.1 | apply bS E2_.1 | apply bS E3_.1) | exact HB.1))⟩)
       skip
       rintro ⟨v195, v198, v201, v204⟩ w104 ⟨hS_, h0_, h1_, h2_, h3_, h4_, h5_⟩
       have HO202 : Aside0 (Kd.R k57 57 w104 w.heap.size (fun k_ => some k_ ≠ (v204 : Value).ownBlock ∧ k_ ≠ g1_) v201 y200) := ⟨h0_⟩
       have HO205 : Aside0 (Kd.R k57 57 w104 w.heap.size (fun k_ => some k_ ≠ (v201 : Value).ownBlock ∧ k_ ≠ g1_) v204 y203) := ⟨h1_⟩
       have n2_ : Aside0 (w104.heap[g0_]? = some (.cells #[.int .i64 a0_0, .int .i64 a0_1, .int .i64 a0_2, .int .i64 a0_3, .int .i64 a0_4, .int .i64 a0_5, .int .i64 a0_6, .int .i64 a0_7, .int .i64 a0_8, .int .i64 a0_9, .int .i64 a0_10, .int .i64 a0_11] 23 (0, 0))) := ⟨h2_⟩
       have n3_ : Aside0 (w104.heap[g1_]? = some (.cells #[.int .i64 a2_0, .int .i64 a2_1, .int .i64 a2_2, .int .i64 a2_3] 57 (0, 0))) := ⟨h3_⟩
       have n4_ : Aside0 (w104.heap[g2_]? = some (.cells #[.int .i64 t190, .int .i64 t191] 25 (0, 0))) := ⟨h4_⟩
       have n5_ : Aside0 (Below w.heap.size w w104) := ⟨h5_⟩
       clear B0_ B1_ B2_ HB h0_ h1_ h2_ h3_ h4_ h5_
       have B0_ := n2_
       have B1_ := n3_
       have B2_ := n4_
       have HB := n5_
       clear n2_ n3_ n4_ n5_
       have hHeld := hS_
       try dsimp only at hHeld
       refine norm_ (a' := ?_) ?_ ?_
       rotate_left
       ·simp only [putAll, Act.put, List.setIfInBounds_toArray, List.set_cons_zero, List.set_cons_succ]
        rfl
       refine one_ (i := 11) (N := some 12) (bs 14 4095) rfl rfl (one_of HT_.out (by kernel_rfl)) (by decide) (fun K hK => ?_)
       refine box_step ?hg (N := 12) ?hd (cs := #[.int .i64 0, .int .i64 0]) (t := 25) ?hr ?_; (case hd => rfl); (case hg => rfl); (case hr => first | (go_simp; done) | (go_simp; rfl))
       intro g3_ hg w105 hbox hb
       have n0_ := mk (Kd.R_below (by (with_reducible repeat (first | apply Kd.R_alloc | apply Kd.R_drewN | apply Kd.R_drew)); exact HO202.1) hb)
       have n1_ := mk (Kd.R_below (by (with_reducible repeat (first | apply Kd.R_alloc | apply Kd.R_drewN | apply Kd.R_drew)); exact HO205.1) hb)
       have n2_ := bb hb B0_.1
       have n3_ := bb hb B1_.1
       have n4_ := bb hb B2_.1
       have n5_ := mk (below_step (by repeat first | exact HB.1 | apply pD | apply b1 | refine bT (by assumption) ?_ | apply bA) hb)
       have B3_ := mk (hbox)
       have W3_ := gl hg (by repeat first | exact HB.1 | apply pD | apply b1 | refine bT (by assumption) ?_ | apply bA)
       have E3_ := gl hg (by repeat first | exact HB.1 | apply pD | apply b1 | refine bT (by assumption) ?_ | apply bA)
       have N03_ := nl hg B0_.1
       have N30_ := ng hg B0_.1
       have N13_ := nl hg B1_.1
       have N31_ := ng hg B1_.1
       have N23_ := nl hg B2_.1
       have N32_ := ng hg B2_.1
       clear HO202 HO205 B0_ B1_ B2_ HB
       have HO202 := n0_
       have HO205 := n1_
       have B0_ := n2_
       have B1_ := n3_
       have B2_ := n4_
       have HB := n5_
       clear n0_ n1_ n2_ n3_ n4_ n5_ hb hbox hg
       refine hK.out _ _ (c12t B0_.1 ⟨bQ B1_.1 0, bQ B1_.1 1, bQ B1_.1 2, bQ B1_.1 3⟩) (fun hHeld => ?_)
       clear hK K
       refine norm_ (a' := ?_) ?_ ?_
       rotate_left
       ·show Act.put _ (some 12) _ = _
        simp only [Act.put, List.setIfInBounds_toArray, List.set_cons_zero, List.set_cons_succ, i64_w, i32_w]
        rfl
       exact norm_ (by simp only [putAll, Act.put, List.setIfInBounds_toArray, List.set_cons_zero, List.set_cons_succ] <;> rfl) (hJ1_3_5_6_7_11 (v195, v198, v201, v204, g3_) _ ⟨hHeld, (by (with_reducible repeat (first | apply Kd.R_alloc | apply Kd.R_drewN | apply Kd.R_drew)); exact HO202.1), (by (with_reducible repeat (first | apply Kd.R_alloc | apply Kd.R_drewN | apply Kd.R_drew)); exact HO205.1), (by exact B0_.1), (by exact B1_.1), (by exact B2_.1), (by exact B3_.1), W3_.1, E3_.1, N03_.1, N30_.1, N13_.1, N31_.1, N23_.1, N32_.1, (by repeat (first | (with_reducible first | exact HB.1 | apply bA | apply pD | apply b1 | apply bS E0_.1 | apply bS E1_.1 | apply bS E2_.1 | apply bS E3_.1) | exact HB.1))⟩)
      rintro ⟨v195, v198, v201, v204, g3_⟩ w105 ⟨hS_, h0_, h1_, h2_, h3_, h4_, h5_, h6_, h7_, h8_, h9_, h10_, h11_, h12_, h13_, h14_⟩
      have HO202 : Aside0 (Kd.R k57 57 w105 w.heap.size (fun k_ => some k_ ≠ (v204 : Value).ownBlock ∧ k_ ≠ g1_) v201 y200) := ⟨h0_⟩
      have HO205 : Aside0 (Kd.R k57 57 w105 w.heap.size (fun k_ => some k_ ≠ (v201 : Value).ownBlock ∧ k_ ≠ g1_) v204 y203) := ⟨h1_⟩
      have n2_ : Aside0 (w105.heap[g0_]? = some (.cells #[.int .i64 a0_0, .int .i64 a0_1, .int .i64 a0_2, .int .i64 a0_3, .int .i64 a0_4, .int .i64 a0_5, .int .i64 a0_6, .int .i64 a0_7, .int .i64 a0_8, .int .i64 a0_9, .int .i64 a0_10, .int .i64 a0_11] 23 (0, 0))) := ⟨h2_⟩
      have n3_ : Aside0 (w105.heap[g1_]? = some (.cells #[.int .i64 a2_0, .int .i64 a2_1, .int .i64 a2_2, .int .i64 a2_3] 57 (0, 0))) := ⟨h3_⟩
      have n4_ : Aside0 (w105.heap[g2_]? = some (.cells #[.int .i64 t190, .int .i64 t191] 25 (0, 0))) := ⟨h4_⟩
      have B3_ : Aside0 (w105.heap[g3_]? = some (.cells #[.int .i64 0, .int .i64 0] 25 (0, 0))) := ⟨h5_⟩
      have W3_ : Aside0 (w.heap.size ≤ g3_) := ⟨h6_⟩
      have E3_ : Aside0 (w.heap.size ≤ g3_) := ⟨h7_⟩
      have N03_ : Aside0 (g0_ ≠ g3_) := ⟨h8_⟩
      have N30_ : Aside0 (g3_ ≠ g0_) := ⟨h9_⟩
      have N13_ : Aside0 (g1_ ≠ g3_) := ⟨h10_⟩
      have N31_ : Aside0 (g3_ ≠ g1_) := ⟨h11_⟩
      have N23_ : Aside0 (g2_ ≠ g3_) := ⟨h12_⟩
      have N32_ : Aside0 (g3_ ≠ g2_) := ⟨h13_⟩
      have n14_ : Aside0 (Below w.heap.size w w105) := ⟨h14_⟩
      clear B0_ B1_ B2_ HB h0_ h1_ h2_ h3_ h4_ h5_ h6_ h7_ h8_ h9_ h10_ h11_ h12_ h13_ h14_
      have B0_ := n2_
      have B1_ := n3_
      have B2_ := n4_
      have HB := n14_
      clear n2_ n3_ n4_ n14_
      have hHeld := hS_
      try dsimp only at hHeld
      refine norm_ (a' := ?_) ?_ ?_
      rotate_left
      ·simp only [putAll, Act.put, List.setIfInBounds_toArray, List.set_cons_zero, List.set_cons_succ]
       rfl
      refine one_ (i := 12) (N := none) (bs 14 8191) rfl rfl (one_of HT_.out (by kernel_rfl)) (by decide) (fun K hK => ?_)
      have hs106 : w105.cell? ⟨g3_, 0, none⟩ = some (.int .i64 0) := bQ B3_.1 0
      have hfs106 := blk_frozen B3_.1 0
      have hns106_0 := N03_.1
      have hns106_1 := N13_.1
      have hns106_2 := N23_.1
      have hms106_0 := N30_.1
      have hms106_1 := N31_.1
      have hms106_2 := N32_.1
      have hs107 : w105.cell? ⟨g3_, 1, none⟩ = some (.int .i64 0) := bQ B3_.1 1
      have hfs107 := blk_frozen B3_.1 1
      have hns107_0 := N03_.1
      have hns107_1 := N13_.1
      have hns107_2 := N23_.1
      have hms107_0 := N30_.1
      have hms107_1 := N31_.1
      have hms107_2 := N32_.1
      refine skip_ (w1 := ?_) (by rfl) rfl ?_ ?_
      rotate_left
      ·go_simp
       rfl
      refine hK.out _ _ ⟨((cell_far (p := ⟨g3_, _, none⟩) N03_.1 _).trans (((cell_far (p := ⟨g3_, _, none⟩) N03_.1 _).trans (hHeld.1)))), ((cell_far (p := ⟨g3_, _, none⟩) N03_.1 _).trans (((cell_far (p := ⟨g3_, _, none⟩) N03_.1 _).trans (hHeld.2.1)))), ((cell_far (p := ⟨g3_, _, none⟩) N03_.1 _).trans (((cell_far (p := ⟨g3_, _, none⟩) N03_.1 _).trans (hHeld.2.2.1)))), ((cell_far (p := ⟨g3_, _, none⟩) N03_.1 _).trans (((cell_far (p := ⟨g3_, _, none⟩) N03_.1 _).trans (hHeld.2.2.2.1)))), ((cell_far (p := ⟨g3_, _, none⟩) N03_.1 _).trans (((cell_far (p := ⟨g3_, _, none⟩) N03_.1 _).trans (hHeld.2.2.2.2.1)))), ((cell_far (p := ⟨g3_, _, none⟩) N03_.1 _).trans (((cell_far (p := ⟨g3_, _, none⟩) N03_.1 _).trans (hHeld.2.2.2.2.2.1)))), ((cell_far (p := ⟨g3_, _, none⟩) N03_.1 _).trans (((cell_far (p := ⟨g3_, _, none⟩) N03_.1 _).trans (hHeld.2.2.2.2.2.2.1)))), ((cell_far (p := ⟨g3_, _, none⟩) N03_.1 _).trans (((cell_far (p := ⟨g3_, _, none⟩) N03_.1 _).trans (hHeld.2.2.2.2.2.2.2.1)))), ((cell_far (p := ⟨g3_, _, none⟩) N03_.1 _).trans (((cell_far (p := ⟨g3_, _, none⟩) N03_.1 _).trans (hHeld.2.2.2.2.2.2.2.2.1)))), ((cell_far (p := ⟨g3_, _, none⟩) N03_.1 _).trans (((cell_far (p := ⟨g3_, _, none⟩) N03_.1 _).trans (hHeld.2.2.2.2.2.2.2.2.2.1)))), ((cell_far (p := ⟨g3_, _, none⟩) N03_.1 _).trans (((cell_far (p := ⟨g3_, _, none⟩) N03_.1 _).trans (hHeld.2.2.2.2.2.2.2.2.2.2.1)))), ((cell_far (p := ⟨g3_, _, none⟩) N03_.1 _).trans (((cell_far (p := ⟨g3_, _, none⟩) N03_.1 _).trans (hHeld.2.2.2.2.2.2.2.2.2.2.2.1)))), ((cell_far (p := ⟨g3_, _, none⟩) N13_.1 _).trans (((cell_far (p := ⟨g3_, _, none⟩) N13_.1 _).trans (hHeld.2.2.2.2.2.2.2.2.2.2.2.2.1)))), ((cell_far (p := ⟨g3_, _, none⟩) N13_.1 _).trans (((cell_far (p := ⟨g3_, _, none⟩) N13_.1 _).trans (hHeld.2.2.2.2.2.2.2.2.2.2.2.2.2.1)))), ((cell_far (p := ⟨g3_, _, none⟩) N13_.1 _).trans (((cell_far (p := ⟨g3_, _, none⟩) N13_.1 _).trans (hHeld.2.2.2.2.2.2.2.2.2.2.2.2.2.2.1)))), ((cell_far (p := ⟨g3_, _, none⟩) N13_.1 _).trans (((cell_far (p := ⟨g3_, _, none⟩) N13_.1 _).trans (hHeld.2.2.2.2.2.2.2.2.2.2.2.2.2.2.2))))⟩ (fun hHeld => ?_)
      clear hK K
      refine pure_ (i := 13) (N := some 13) (v := ?_) (a' := ?_) (bs 14 16383) rfl rfl (any_of HT_.out (by kernel_rfl)) (fun _ _ _ h => h) (Or.inl ⟨by rfl, ?_⟩) ?_ ?_
      rotate_left
      ·intro w'
       go_simp
       with_reducible rfl
      rotate_left
      ·simp only [Act.put, List.setIfInBounds_toArray, List.set_cons_zero, List.set_cons_succ, i64_w, i32_w]
       rfl
      refine done_ (done_of HT_.out (by kernel_rfl)) ?_
      try go_wp2
      have n0_ : Aside0 (Kd.R k57 57 ((w105.setCell ⟨g3_, 0, none⟩ (.int .i64 t206)).setCell ⟨g3_, 1, none⟩ (.int .i64 t207)) w.heap.size (fun k_ => some k_ ≠ (v204 : Value).ownBlock ∧ k_ ≠ g1_) v201 y200) := ⟨by (with_reducible repeat (first | apply Kd.R_alloc | apply Kd.R_drewN | apply Kd.R_drew)); exact Kd.R_mono (Kd.R_far (p := ⟨g3_, 1, none⟩) (Kd.R_far (p := ⟨g3_, 0, none⟩) (Kd.R_types HO202.1 B3_.1 (by decide)) (fun _ hk => hk.2) (.int .i64 t206)) (fun _ hk => hk.2) (.int .i64 t207)) (fun _ hk => ⟨hk.1.1, hk.1.2⟩)⟩
      have n1_ : Aside0 (Kd.R k57 57 ((w105.setCell ⟨g3_, 0, none⟩ (.int .i64 t206)).setCell ⟨g3_, 1, none⟩ (.int .i64 t207)) w.heap.size (fun k_ => some k_ ≠ (v201 : Value).ownBlock ∧ k_ ≠ g1_) v204 y203) := ⟨by (with_reducible repeat (first | apply Kd.R_alloc | apply Kd.R_drewN | apply Kd.R_drew)); exact Kd.R_mono (Kd.R_far (p := ⟨g3_, 1, none⟩) (Kd.R_far (p := ⟨g3_, 0, none⟩) (Kd.R_types HO205.1 B3_.1 (by decide)) (fun _ hk => hk.2) (.int .i64 t206)) (fun _ hk => hk.2) (.int .i64 t207)) (fun _ hk => ⟨hk.1.1, hk.1.2⟩)⟩
      have n2_ : Aside0 (((w105.setCell ⟨g3_, 0, none⟩ (.int .i64 t206)).setCell ⟨g3_, 1, none⟩ (.int .i64 t207)).heap[g0_]? = some (.cells #[.int .i64 a0_0, .int .i64 a0_1, .int .i64 a0_2, .int .i64 a0_3, .int .i64 a0_4, .int .i64 a0_5, .int .i64 a0_6, .int .i64 a0_7, .int .i64 a0_8, .int .i64 a0_9, .int .i64 a0_10, .int .i64 a0_11] 23 (0, 0))) := ⟨by (with_reducible repeat (first | refine blk_drewN ?_ _ | refine blk_drew ?_ | refine blk_alloc ?_ _)); refine blk_far ?_ N03_.1 _; (with_reducible repeat (first | refine blk_drewN ?_ _ | refine blk_drew ?_ | refine blk_alloc ?_ _)); refine blk_far ?_ N03_.1 _; (with_reducible repeat (first | refine blk_drewN ?_ _ | refine blk_drew ?_ | refine blk_alloc ?_ _)); exact B0_.1⟩
      have n3_ : Aside0 (((w105.setCell ⟨g3_, 0, none⟩ (.int .i64 t206)).setCell ⟨g3_, 1, none⟩ (.int .i64 t207)).heap[g1_]? = some (.cells #[.int .i64 a2_0, .int .i64 a2_1, .int .i64 a2_2, .int .i64 a2_3] 57 (0, 0))) := ⟨by (with_reducible repeat (first | refine blk_drewN ?_ _ | refine blk_drew ?_ | refine blk_alloc ?_ _)); refine blk_far ?_ N13_.1 _; (with_reducible repeat (first | refine blk_drewN ?_ _ | refine blk_drew ?_ | refine blk_alloc ?_ _)); refine blk_far ?_ N13_.1 _; (with_reducible repeat (first | refine blk_drewN ?_ _ | refine blk_drew ?_ | refine blk_alloc ?_ _)); exact B1_.1⟩
      have n4_ : Aside0 (((w105.setCell ⟨g3_, 0, none⟩ (.int .i64 t206)).setCell ⟨g3_, 1, none⟩ (.int .i64 t207)).heap[g2_]? = some (.cells #[.int .i64 t190, .int .i64 t191] 25 (0, 0))) := ⟨by (with_reducible repeat (first | refine blk_drewN ?_ _ | refine blk_drew ?_ | refine blk_alloc ?_ _)); refine blk_far ?_ N23_.1 _; (with_reducible repeat (first | refine blk_drewN ?_ _ | refine blk_drew ?_ | refine blk_alloc ?_ _)); refine blk_far ?_ N23_.1 _; (with_reducible repeat (first | refine blk_drewN ?_ _ | refine blk_drew ?_ | refine blk_alloc ?_ _)); exact B2_.1⟩
      have n5_ : Aside0 (((w105.setCell ⟨g3_, 0, none⟩ (.int .i64 t206)).setCell ⟨g3_, 1, none⟩ (.int .i64 t207)).heap[g3_]? = some (.cells #[.int .i64 t206, .int .i64 t207] 25 (0, 0))) := ⟨by (with_reducible repeat (first | refine blk_drewN ?_ _ | refine blk_drew ?_ | refine blk_alloc ?_ _)); refine blk_put (cs := #[.int .i64 t206, .int .i64 0]) ?_ 1 _ rfl; (with_reducible repeat (first | refine blk_drewN ?_ _ | refine blk_drew ?_ | refine blk_alloc ?_ _)); refine blk_put (cs := #[.int .i64 0, .int .i64 0]) ?_ 0 _ rfl; (with_reducible repeat (first | refine blk_drewN ?_ _ | refine blk_drew ?_ | refine blk_alloc ?_ _)); exact B3_.1⟩
      have n6_ : Aside0 (Below w.heap.size w ((w105.setCell ⟨g3_, 0, none⟩ (.int .i64 t206)).setCell ⟨g3_, 1, none⟩ (.int .i64 t207))) := ⟨by repeat (first | (with_reducible first | exact HB.1 | apply bA | apply pD | apply b1 | apply bS E0_.1 | apply bS E1_.1 | apply bS E2_.1 | apply bS E3_.1) | exact HB.1)⟩
      (try clear HO202)
      (try clear HO205)
      (try clear B0_)
      (try clear B1_)
      (try clear B2_)
      (try clear B3_)
      (try clear HB)
      generalize ((w105.setCell ⟨g3_, 0, none⟩ (.int .i64 t206)).setCell ⟨g3_, 1, none⟩ (.int .i64 t207)) = w108 at n0_ n1_ n2_ n3_ n4_ n5_ n6_ ⊢
      have HO202 := n0_
      have HO205 := n1_
      have B0_ := n2_
      have B1_ := n3_
      have B2_ := n4_
      have B3_ := n5_
      have HB := n6_
      clear n0_ n1_ n2_ n3_ n4_ n5_ n6_
      have n0_ := mk (Kd.R_drew HO202.1)
      have n1_ := mk (Kd.R_drew HO205.1)
      have n2_ := mk (blk_drew B0_.1)
      have n3_ := mk (blk_drew B1_.1)
      have n4_ := mk (blk_drew B2_.1)
      have n5_ := mk (blk_drew B3_.1)
      have n6_ := mk (below_drew1 HB.1)
      clear HO202 HO205 B0_ B1_ B2_ B3_ HB
      have HO202 := n0_
      have HO205 := n1_
      have B0_ := n2_
      have B1_ := n3_
      have B2_ := n4_
      have B3_ := n5_
      have HB := n6_
      clear n0_ n1_ n2_ n3_ n4_ n5_ n6_
      by_cases c72 : t192 = true
      ·subst c72
       have H1 : (if t208 = true then ((clepsydraref03_Wide.f t206 t207).bind fun t210 => ((clepsydraref03_Wide.f t190 t191).bind fun t211 => (some (decide (t210 ≤ t211))))) else (some false)) = some r := by rw [if_pos rfl] at H; exact H
       clear H
       have H := H1
       clear H1
       by_cases c73 : t208 = true
       ·subst c73
        have H1 : ((clepsydraref03_Wide.f t206 t207).bind fun t210 => ((clepsydraref03_Wide.f t190 t191).bind fun t211 => (some (decide (t210 ≤ t211))))) = some r := by rw [if_pos rfl] at H; exact H
        clear H
        have H := H1
        clear H1
        replace H := Option.bind_eq_some_iff.mp H
        obtain ⟨t210, A740, H⟩ := H
        replace H : ((clepsydraref03_Wide.f t190 t191).bind fun t211 => (some (decide (t210 ≤ t211)))) = some r := H
        have A74 := mk A740
        clear A740
        replace H := Option.bind_eq_some_iff.mp H
        obtain ⟨t211, A750, H⟩ := H
        replace H : (some (decide (t210 ≤ t211))) = some r := H
        have A75 := mk A750
        clear A750
        obtain rfl := Option.some.inj H
        refine start_ (n := 13) (S := fun w' => w'.cell? ⟨g3_, 0, none⟩ = some (.int .i64 t206) ∧ w'.cell? ⟨g3_, 1, none⟩ = some (.int .i64 t207) ∧ w'.cell? ⟨g2_, 0, none⟩ = some (.int .i64 t190) ∧ w'.cell? ⟨g2_, 1, none⟩ = some (.int .i64 t191)) (ds := []) (bs 13 0) (by kernel_rfl) rfl rfl ⟨bQ B3_.1 0, bQ B3_.1 1, bQ B2_.1 0, bQ B2_.1 1⟩ (fun hHeld => ?_); refine with_tabW clepsydralaw10_ProbeNarrows.tab14 clepsydralaw10_ProbeNarrows.bits14 (fun HT_ HW_ => ?_)
        generalize w108.drew = w91 at HO202 HO205 B0_ B1_ B2_ B3_ HB hHeld ⊢
        refine pure_ (i := 0) (N := some 60) (v := ?_) (a' := ?_) (bs 13 1) rfl rfl (any_of HT_.out (by kernel_rfl)) (fun _ _ _ h => h) (Or.inl ⟨by rfl, ?_⟩) ?_ ?_
        rotate_left
        ·intro w'
         go_simp
         with_reducible rfl
        rotate_left
        ·simp only [Act.put, List.setIfInBounds_toArray, List.set_cons_zero, List.set_cons_succ, i64_w, i32_w]
         rfl
        refine pure_ (i := 1) (N := some 61) (v := ?_) (a' := ?_) (bs 13 3) rfl rfl (any_of HT_.out (by kernel_rfl)) (fun _ _ _ h => h) (Or.inl ⟨by rfl, ?_⟩) ?_ ?_
        rotate_left
        ·intro w'
         go_simp
         with_reducible rfl
        rotate_left
        ·simp only [Act.put, List.setIfInBounds_toArray, List.set_cons_zero, List.set_cons_succ, i64_w, i32_w]
         rfl
        refine pure_ (i := 2) (N := some 62) (v := ?_) (a' := ?_) (bs 13 7) rfl rfl (any_of HT_.out (by kernel_rfl)) (fun _ _ _ h => h) (Or.inl ⟨by rfl, ?_⟩) ?_ ?_
        rotate_left
        ·intro w'
         go_simp
         with_reducible rfl
        rotate_left
        ·simp only [Act.put, List.setIfInBounds_toArray, List.set_cons_zero, List.set_cons_succ, i64_w, i32_w]
         rfl
        refine pure_ (i := 3) (N := some 63) (v := ?_) (a' := ?_) (bs 13 15) rfl rfl (any_of HT_.out (by kernel_rfl)) (fun _ _ _ h => h) (Or.inl ⟨by rfl, ?_⟩) ?_ ?_
        rotate_left
        ·intro w'
         go_simp
         with_reducible rfl
        rotate_left
        ·simp only [Act.put, List.setIfInBounds_toArray, List.set_cons_zero, List.set_cons_succ, i64_w, i32_w]
         rfl
        refine pure_ (i := 4) (N := some 64) (v := ?_) (a' := ?_) (bs 13 31) rfl rfl (any_of HT_.out (by kernel_rfl)) (fun _ _ _ h => h) (Or.inl ⟨by rfl, ?_⟩) ?_ ?_
        rotate_left
        ·intro w'
         go_simp
         with_reducible rfl
        rotate_left
        ·simp only [Act.put, List.setIfInBounds_toArray, List.set_cons_zero, List.set_cons_succ, i64_w, i32_w]
         rfl
        refine take_ (i := 5) (N := some 65) (v := ?_) (a' := ?_) (bs 13 63) rfl rfl (take_ofW HT_.out HW_.out (by kernel_rfl)) (fun _ _ _ h => h) (Or.inl ⟨by rfl, ?_⟩) hHeld ?_ ?_
        rotate_left
        ·rintro w' ⟨s0, s1, s2, s3⟩
         go_simp
         with_reducible rfl
        rotate_left
        ·simp only [Act.put, List.setIfInBounds_toArray, List.set_cons_zero, List.set_cons_succ, i64_w, i32_w]
         rfl
        refine take_ (i := 7) (N := some 67) (v := ?_) (a' := ?_) (bs 13 191) rfl rfl (take_ofW HT_.out HW_.out (by kernel_rfl)) (fun _ _ _ h => h) (Or.inl ⟨by rfl, ?_⟩) hHeld ?_ ?_
        rotate_left
        ·rintro w' ⟨s0, s1, s2, s3⟩
         go_simp
         with_reducible rfl
        rotate_left
        ·simp only [Act.put, List.setIfInBounds_toArray, List.set_cons_zero, List.set_cons_succ, i64_w, i32_w]
         rfl
        refine one_ (i := 6) (N := some 66) (bs 13 255) rfl rfl (one_of HT_.out (by kernel_rfl)) (by decide) (fun K hK => ?_)
        refine goes_ Try.func36 (by kernel_rfl) rfl #[.agg #[.int .i64 t206, .int .i64 t207]] (by rfl) rfl rfl (by (try simp only [List.map_toArray, List.map_cons, List.map_nil]); first | done | rfl | (simp only [List.length_drop, List.length_take]; rfl)) ?_
        with_reducible refine (clepsydraref03_Wide.calls t206 t207 t210 _ A74.1).mono ?_
        rintro e w92 ⟨rfl, hb⟩
        refine ⟨_, rfl, ?_⟩
        have n0_ := mk (Kd.R_below (by (with_reducible repeat (first | apply Kd.R_alloc | apply Kd.R_drewN | apply Kd.R_drew)); exact HO202.1) hb)
        have n1_ := mk (Kd.R_below (by (with_reducible repeat (first | apply Kd.R_alloc | apply Kd.R_drewN | apply Kd.R_drew)); exact HO205.1) hb)
        have n2_ := bb hb B0_.1
        have n3_ := bb hb B1_.1
        have n4_ := bb hb B2_.1
        have n5_ := bb hb B3_.1
        have n6_ := mk (below_step (by repeat first | exact HB.1 | apply pD | apply b1 | refine bT (by assumption) ?_ | apply bA) hb)
        clear HO202 HO205 B0_ B1_ B2_ B3_ HB
        have HO202 := n0_
        have HO205 := n1_
        have B0_ := n2_
        have B1_ := n3_
        have B2_ := n4_
        have B3_ := n5_
        have HB := n6_
        clear n0_ n1_ n2_ n3_ n4_ n5_ n6_
        (try clear hb)
        (try clear hb2)
        (try clear hk)
        (try clear hi)
        refine hK.out _ _ ⟨bQ B3_.1 0, bQ B3_.1 1, bQ B2_.1 0, bQ B2_.1 1⟩ (fun hHeld => ?_)
        clear hK K
        refine norm_ (a' := ?_) ?_ ?_
        rotate_left
        ·show Act.put _ (some 66) _ = _
         simp only [Act.put, List.setIfInBounds_toArray, List.set_cons_zero, List.set_cons_succ, i64_w, i32_w]
         rfl
        refine one_ (i := 8) (N := some 68) (bs 13 511) rfl rfl (one_of HT_.out (by kernel_rfl)) (by decide) (fun K hK => ?_)
        refine goes_ Try.func36 (by kernel_rfl) rfl #[.agg #[.int .i64 t190, .int .i64 t191]] (by rfl) rfl rfl (by (try simp only [List.map_toArray, List.map_cons, List.map_nil]); first | done | rfl | (simp only [List.length_drop, List.length_take]; rfl)) ?_
        with_reducible refine (clepsydraref03_Wide.calls t190 t191 t211 _ A75.1).mono ?_
        rintro e w93 ⟨rfl, hb⟩
        refine ⟨_, rfl, ?_⟩
        have n0_ := mk (Kd.R_below (by (with_reducible repeat (first | apply Kd.R_alloc | apply Kd.R_drewN | apply Kd.R_drew)); exact HO202.1) hb)
        have n1_ := mk (Kd.R_below (by (with_reducible repeat (first | apply Kd.R_alloc | apply Kd.R_drewN | apply Kd.R_drew)); exact HO205.1) hb)
        have n2_ := bb hb B0_.1
        have n3_ := bb hb B1_.1
        have n4_ := bb hb B2_.1
        have n5_ := bb hb B3_.1
        have n6_ := mk (below_step (by repeat first | exact HB.1 | apply pD | apply b1 | refine bT (by assumption) ?_ | apply bA) hb)
        clear HO202 HO205 B0_ B1_ B2_ B3_ HB
        have HO202 := n0_
        have HO205 := n1_
        have B0_ := n2_
        have B1_ := n3_
        have B2_ := n4_
        have B3_ := n5_
        have HB := n6_
        clear n0_ n1_ n2_ n3_ n4_ n5_ n6_
        (try clear hb)
        (try clear hb2)
        (try clear hk)
        (try clear hi)
        refine hK.out _ _ ⟨bQ B3_.1 0, bQ B3_.1 1, bQ B2_.1 0, bQ B2_.1 1⟩ (fun hHeld => ?_)
        clear hK K
        refine norm_ (a' := ?_) ?_ ?_
        rotate_left
        ·show Act.put _ (some 68) _ = _
         simp only [Act.put, List.setIfInBounds_toArray, List.set_cons_zero, List.set_cons_succ, i64_w, i32_w]
         rfl
        refine pure_ (i := 9) (N := some 69) (v := ?_) (a' := ?_) (bs 13 1023) rfl rfl (any_of HT_.out (by kernel_rfl)) (fun _ _ _ h => h) (Or.inl ⟨by rfl, ?_⟩) ?_ ?_
        rotate_left
        ·intro w'
         go_simp
         with_reducible rfl
        rotate_left
        ·simp only [Act.put, List.setIfInBounds_toArray, List.set_cons_zero, List.set_cons_succ, i64_w, i32_w]
         rfl
        refine pure_ (i := 10) (N := some 70) (v := ?_) (a' := ?_) (bs 13 2047) rfl rfl (any_of HT_.out (by kernel_rfl)) (fun _ _ _ h => h) (Or.inl ⟨by rfl, ?_⟩) ?_ ?_
        rotate_left
        ·intro w'
         go_simp
         with_reducible rfl
        rotate_left
        ·simp only [Act.put, List.setIfInBounds_toArray, List.set_cons_zero, List.set_cons_succ, i64_w, i32_w]
         rfl
        refine pure_ (i := 11) (N := some 71) (v := ?_) (a' := ?_) (bs 13 4095) rfl rfl (any_of HT_.out (by kernel_rfl)) (fun _ _ _ h => h) (Or.inl ⟨by rfl, ?_⟩) ?_ ?_
        rotate_left
        ·intro w'
         go_simp
         with_reducible rfl
        rotate_left
        ·simp only [Act.put, List.setIfInBounds_toArray, List.set_cons_zero, List.set_cons_succ, i64_w, i32_w]
         rfl
        refine pure_ (i := 12) (N := some 6) (v := ?_) (a' := ?_) (bs 13 8191) rfl rfl (any_of HT_.out (by kernel_rfl)) (fun _ _ _ h => h) (Or.inl ⟨by rfl, ?_⟩) ?_ ?_
        rotate_left
        ·intro w'
         go_simp
         with_reducible rfl
        rotate_left
        ·simp only [Act.put, List.setIfInBounds_toArray, List.set_cons_zero, List.set_cons_succ, i64_w, i32_w]
         rfl
        refine done_ (done_of HT_.out (by kernel_rfl)) ?_
        try go_wp2
        go_ret
        exact ⟨by first | rfl | (simp [errW_none, errW_some] <;> rfl) | (simp [*, errW_none, errW_some] <;> rfl), by repeat (first | (with_reducible first | exact HB.1 | apply bA | apply pD | apply b1 | apply bS E0_.1 | apply bS E1_.1 | apply bS E2_.1 | apply bS E3_.1) | exact HB.1)⟩
       replace c73 := Bool.eq_false_iff.mpr c73
       subst c73
       have H1 : (some false) = some r := by rw [if_neg (show ¬ (false = true) by decide)] at H; exact H
       clear H
       have H := H1
       clear H1
       exact absurd ((Option.some.inj H).trans hT.out) (by decide)
      replace c72 := Bool.eq_false_iff.mpr c72
      subst c72
      have H1 : (some true) = some r := by rw [if_neg (show ¬ (false = true) by decide)] at H; exact H
      clear H
      have H := H1
      clear H1
      obtain rfl := Option.some.inj H
      refine start_ (n := 13) (S := fun w' => True) (ds := []) (bs 13 0) (by kernel_rfl) rfl rfl trivial (fun hHeld => ?_); refine with_tabW clepsydralaw10_ProbeNarrows.tab14 clepsydralaw10_ProbeNarrows.bits14 (fun HT_ HW_ => ?_)
      generalize w108.drew = w109 at HO202 HO205 B0_ B1_ B2_ B3_ HB hHeld ⊢
      refine pure_ (i := 0) (N := some 60) (v := ?_) (a' := ?_) (bs 13 1) rfl rfl (any_of HT_.out (by kernel_rfl)) (fun _ _ _ h => h) (Or.inl ⟨by rfl, ?_⟩) ?_ ?_
      rotate_left
      ·intro w'
       go_simp
       with_reducible rfl
      rotate_left
      ·simp only [Act.put, List.setIfInBounds_toArray, List.set_cons_zero, List.set_cons_succ, i64_w, i32_w]
       rfl
      refine pure_ (i := 1) (N := some 61) (v := ?_) (a' := ?_) (bs 13 3) rfl rfl (any_of HT_.out (by kernel_rfl)) (fun _ _ _ h => h) (Or.inl ⟨by rfl, ?_⟩) ?_ ?_
      rotate_left
      ·intro w'
       go_simp
       with_reducible rfl
      rotate_left
      ·simp only [Act.put, List.setIfInBounds_toArray, List.set_cons_zero, List.set_cons_succ, i64_w, i32_w]
       rfl
      refine pure_ (i := 2) (N := some 62) (v := ?_) (a' := ?_) (bs 13 7) rfl rfl (any_of HT_.out (by kernel_rfl)) (fun _ _ _ h => h) (Or.inl ⟨by rfl, ?_⟩) ?_ ?_
      rotate_left
      ·intro w'
       go_simp
       with_reducible rfl
      rotate_left
      ·simp only [Act.put, List.setIfInBounds_toArray, List.set_cons_zero, List.set_cons_succ, i64_w, i32_w]
       rfl
      refine pure_ (i := 3) (N := some 63) (v := undef) (a' := ?_) (bs 13 15) rfl rfl (any_of HT_.out (by kernel_rfl)) (fun _ _ _ h => h) (Or.inr ⟨by rfl, rfl⟩) ?_ ?_
      rotate_left
      ·simp only [Act.put, List.setIfInBounds_toArray, List.set_cons_zero, List.set_cons_succ, i64_w, i32_w]
       rfl
      refine pure_ (i := 4) (N := some 64) (v := undef) (a' := ?_) (bs 13 31) rfl rfl (any_of HT_.out (by kernel_rfl)) (fun _ _ _ h => h) (Or.inr ⟨by rfl, rfl⟩) ?_ ?_
      rotate_left
      ·simp only [Act.put, List.setIfInBounds_toArray, List.set_cons_zero, List.set_cons_succ, i64_w, i32_w]
       rfl
      refine pure_ (i := 5) (N := some 65) (v := undef) (a' := ?_) (bs 13 63) rfl rfl (any_of HT_.out (by kernel_rfl)) (fun _ _ _ h => h) (Or.inr ⟨by rfl, rfl⟩) ?_ ?_
      rotate_left
      ·simp only [Act.put, List.setIfInBounds_toArray, List.set_cons_zero, List.set_cons_succ, i64_w, i32_w]
       rfl
      refine pure_ (i := 6) (N := some 66) (v := undef) (a' := ?_) (bs 13 127) rfl rfl (any_of HT_.out (by kernel_rfl)) (fun _ _ _ h => h) (Or.inr ⟨by rfl, rfl⟩) ?_ ?_
      rotate_left
      ·simp only [Act.put, List.setIfInBounds_toArray, List.set_cons_zero, List.set_cons_succ, i64_w, i32_w]
       rfl
      refine pure_ (i := 7) (N := some 67) (v := undef) (a' := ?_) (bs 13 255) rfl rfl (any_of HT_.out (by kernel_rfl)) (fun _ _ _ h => h) (Or.inr ⟨by rfl, rfl⟩) ?_ ?_
      rotate_left
      ·simp only [Act.put, List.setIfInBounds_toArray, List.set_cons_zero, List.set_cons_succ, i64_w, i32_w]
       rfl
      refine pure_ (i := 8) (N := some 68) (v := undef) (a' := ?_) (bs 13 511) rfl rfl (any_of HT_.out (by kernel_rfl)) (fun _ _ _ h => h) (Or.inr ⟨by rfl, rfl⟩) ?_ ?_
      rotate_left
      ·simp only [Act.put, List.setIfInBounds_toArray, List.set_cons_zero, List.set_cons_succ, i64_w, i32_w]
       rfl
      refine pure_ (i := 9) (N := some 69) (v := undef) (a' := ?_) (bs 13 1023) rfl rfl (any_of HT_.out (by kernel_rfl)) (fun _ _ _ h => h) (Or.inr ⟨by rfl, rfl⟩) ?_ ?_
      rotate_left
      ·simp only [Act.put, List.setIfInBounds_toArray, List.set_cons_zero, List.set_cons_succ, i64_w, i32_w]
       rfl
      refine pure_ (i := 10) (N := some 70) (v := undef) (a' := ?_) (bs 13 2047) rfl rfl (any_of HT_.out (by kernel_rfl)) (fun _ _ _ h => h) (Or.inr ⟨by rfl, rfl⟩) ?_ ?_
      rotate_left
      ·simp only [Act.put, List.setIfInBounds_toArray, List.set_cons_zero, List.set_cons_succ, i64_w, i32_w]
       rfl
      refine pure_ (i := 11) (N := some 71) (v := ?_) (a' := ?_) (bs 13 4095) rfl rfl (any_of HT_.out (by kernel_rfl)) (fun _ _ _ h => h) (Or.inl ⟨by rfl, ?_⟩) ?_ ?_
      rotate_left
      ·intro w'
       go_simp
       with_reducible rfl
      rotate_left
      ·simp only [Act.put, List.setIfInBounds_toArray, List.set_cons_zero, List.set_cons_succ, i64_w, i32_w]
       rfl
      refine pure_ (i := 12) (N := some 6) (v := ?_) (a' := ?_) (bs 13 8191) rfl rfl (any_of HT_.out (by kernel_rfl)) (fun _ _ _ h => h) (Or.inl ⟨by rfl, ?_⟩) ?_ ?_
      rotate_left
      ·intro w'
       go_simp
       with_reducible rfl
      rotate_left
      ·simp only [Act.put, List.setIfInBounds_toArray, List.set_cons_zero, List.set_cons_succ, i64_w, i32_w]
       rfl
      refine done_ (done_of HT_.out (by kernel_rfl)) ?_
      try go_wp2
      go_ret
      exact ⟨by first | rfl | (simp [errW_none, errW_some] <;> rfl) | (simp [*, errW_none, errW_some] <;> rfl), by repeat (first | (with_reducible first | exact HB.1 | apply bA | apply pD | apply b1 | apply bS E0_.1 | apply bS E1_.1 | apply bS E2_.1 | apply bS E3_.1) | exact HB.1)⟩
     rw [if_neg c70] at H
     exact absurd H (by simp)
    rw [if_neg c69] at H
    exact absurd H (by simp)
 replace c5 := Bool.eq_false_iff.mpr c5
 subst c5
 have H1 : (some false) = some r := by rw [if_neg (show ¬ (false = true) by decide)] at H; exact H
 clear H
 have H := H1
 clear H1
 exact absurd ((Option.some.inj H).trans hT.out) (by decide)

end Go.Proofs.Ytigpigfoahlfjaa.Q
