/- The calls of these Go functions answer what the Lean functions beside them answer; written by a program (wip/pr2.py, out of the print of the loaded program); under no condition but those that stand in the theorems. -/
import Derived.Test.YtigpigfoahlfjaaQx0
import Derived.Test.YtigpigfoahlfjaaQx9
import Derived.Test.YtigpigfoahlfjaaQx10
import Derived.Test.YtigpigfoahlfjaaQx30
namespace Go.Proofs.Ytigpigfoahlfjaa.Q
open Go.RowKit Go.Proofs.YtigpigfoahlfjaaW.PrintWords Go.Proofs.YtigpigfoahlfjaaW.PrintLast Go.Proofs.YtigpigfoahlfjaaW.PrintMore
attribute [local go_sem] max2_int min2_int max_two min_two max_three min_three max_four min_four   -- for this text's walks alone
set_option linter.unusedVariables false
set_option linter.unusedSimpArgs false

/-! ### clepsydraref10_Ahead: function 52 -/
def clepsydraref10_Ahead.f (k : Nat) (a0_0 : Int) (a0_1 : Int) (a0_2 : Int) (a0_3 : Int) (a0_4 : Int) (a0_5 : Int) (a0_6 : Int) (a0_7 : Int) (a0_8 : Int) (a0_9 : Int) (a0_10 : Int) (a0_11 : Int) (a1 : Int) (a2 : Int) (a3 : Int) (a4 : Int) : Option (Int × Int) := (clepsydraref01_Sub.f a2 a1).bind fun t461 => ((clepsydraref01_Sub.f a3 a4).bind fun t462 => ((clepsydraref01_Sub.f a0_5 a0_6).bind fun t463 => ((clepsydraref01_Mul.f k 2 a0_4).bind fun t464 => ((clepsydraref01_Sub.f t461 a0_5).bind fun t465 => ((clepsydraref01_Sub.f t461 t463).bind fun t466 => ((clepsydraref03_Shift.f k t465 t466 (wrap64 (-t464)) t464).bind fun bt467 => ((clepsydraref01_Add.f k (([t462, t463] : List Int))).bind fun t473 => ((clepsydraref01_Add.f k (([t462, a0_5] : List Int))).bind fun t477 => ((clepsydraref03_Shift.f k t473 t477 (wrap64 (-t464)) t464).bind fun bt478 => ((clepsydraref03_Meet.f k (([(⟨bt467.1, bt467.2⟩ : S25), (⟨bt478.1, bt478.2⟩ : S25)] : List (S25)))).bind fun bt484 => (some (bt484.1, bt484.2))))))))))))
theorem clepsydraref10_Ahead.mono : ∀ a0 a1 a2 a3 a4 a5 a6 a7 a8 a9 a10 a11 a12 a13 a14 a15 k, LeO (clepsydraref10_Ahead.f k a0 a1 a2 a3 a4 a5 a6 a7 a8 a9 a10 a11 a12 a13 a14 a15) (clepsydraref10_Ahead.f (k + 1) a0 a1 a2 a3 a4 a5 a6 a7 a8 a9 a10 a11 a12 a13 a14 a15) := by
 intro a0 a1 a2 a3 a4 a5 a6 a7 a8 a9 a10 a11 a12 a13 a14 a15 k
 unfold clepsydraref10_Ahead.f
 repeat' first
   | (with_reducible exact clepsydraref01_Add.mono _ _)
   | (with_reducible exact clepsydraref01_Mul.mono _ _ _)
   | (with_reducible exact clepsydraref03_Meet.mono _ _)
   | (with_reducible exact clepsydraref03_Shift.mono _ _ _ _ _)
   | (with_reducible exact LeO.refl _)
   | (with_reducible exact LeO.none _)
   | (with_reducible refine LeO.ite ?_ ?_)
   | (with_reducible refine LeO.bind ?_ (fun _ => ?_))
   | exact clepsydraref01_Add.mono _ _
   | exact clepsydraref01_Mul.mono _ _ _
   | exact clepsydraref03_Meet.mono _ _
   | exact clepsydraref03_Shift.mono _ _ _ _ _
   | exact LeO.none _
   | refine LeO.ite ?_ ?_
   | refine LeO.bind ?_ (fun _ => ?_)
def clepsydraref10_Ahead.T6 : Bool × List (List Nat × List Nat) := (true, [([], []), ([], []), ([0, 1], [0, 1]), ([2], [2]), ([], []), ([], []), ([5], [5]), ([4, 6], [4, 6]), ([7, 3], [7]), ([3, 8], [3, 8]), ([], []), ([10], [10]), ([], []), ([9, 11, 12, 8], [9, 11, 12]), ([], []), ([14, 13, 13, 0, 1, 2, 3, 4, 5, 6, 7, 8, 9, 10, 11, 12, 13, 14], [13, 14])])
def clepsydraref10_Ahead.B6 : List Nat := [0, 0, 3, 7, 0, 0, 32, 112, 255, 511, 0, 1024, 0, 8191, 0, 32767]
theorem clepsydraref10_Ahead.tab6 : rtab .any (opsOf Try.f52 6) = clepsydraref10_Ahead.T6 := by kernel_rfl
theorem clepsydraref10_Ahead.bits6 : waitsOk clepsydraref10_Ahead.T6.2 clepsydraref10_Ahead.B6 = true := by kernel_rfl
set_option maxHeartbeats 8000000 in
set_option maxRecDepth 100000 in
theorem clepsydraref10_Ahead.calls (k : Nat) (a0_0 : Int) (a0_1 : Int) (a0_2 : Int) (a0_3 : Int) (a0_4 : Int) (a0_5 : Int) (a0_6 : Int) (a0_7 : Int) (a0_8 : Int) (a0_9 : Int) (a0_10 : Int) (a0_11 : Int) (a1 : Int) (a2 : Int) (a3 : Int) (a4 : Int) (r1 : Int) (r2 : Int) (w : World) (h : clepsydraref10_Ahead.f k a0_0 a0_1 a0_2 a0_3 a0_4 a0_5 a0_6 a0_7 a0_8 a0_9 a0_10 a0_11 a1 a2 a3 a4 = some (r1, r2)) :
  Calls Try.prog 52 #[.agg #[.int .i64 a0_0, .int .i64 a0_1, .int .i64 a0_2, .int .i64 a0_3, .int .i64 a0_4, .int .i64 a0_5, .int .i64 a0_6, .int .i64 a0_7, .int .i64 a0_8, .int .i64 a0_9, .int .i64 a0_10, .int .i64 a0_11], .int .i64 a1, .int .i64 a2, .int .i64 a3, .int .i64 a4] w fun e w' => e = .returned (.agg #[.int .i64 r1, .int .i64 r2]) ∧ Below w.heap.size w w' := by
 have hu23 := Try.underlying23
 have hu25 := Try.underlying25
 have HB := Aside0.mk (Below.refl w.heap.size w)
 have H : ((clepsydraref01_Sub.f a2 a1).bind fun t461 => ((clepsydraref01_Sub.f a3 a4).bind fun t462 => ((clepsydraref01_Sub.f a0_5 a0_6).bind fun t463 => ((clepsydraref01_Mul.f k 2 a0_4).bind fun t464 => ((clepsydraref01_Sub.f t461 a0_5).bind fun t465 => ((clepsydraref01_Sub.f t461 t463).bind fun t466 => ((clepsydraref03_Shift.f k t465 t466 (wrap64 (-t464)) t464).bind fun bt467 => ((clepsydraref01_Add.f k (([t462, t463] : List Int))).bind fun t473 => ((clepsydraref01_Add.f k (([t462, a0_5] : List Int))).bind fun t477 => ((clepsydraref03_Shift.f k t473 t477 (wrap64 (-t464)) t464).bind fun bt478 => ((clepsydraref03_Meet.f k (([(⟨bt467.1, bt467.2⟩ : S25), (⟨bt478.1, bt478.2⟩ : S25)] : List (S25)))).bind fun bt484 => (some (bt484.1, bt484.2))))))))))))) = some (r1, r2) := h
 clear h
 replace H := Option.bind_eq_some_iff.mp H
 obtain ⟨t461, A60, H⟩ := H
 replace H : ((clepsydraref01_Sub.f a3 a4).bind fun t462 => ((clepsydraref01_Sub.f a0_5 a0_6).bind fun t463 => ((clepsydraref01_Mul.f k 2 a0_4).bind fun t464 => ((clepsydraref01_Sub.f t461 a0_5).bind fun t465 => ((clepsydraref01_Sub.f t461 t463).bind fun t466 => ((clepsydraref03_Shift.f k t465 t466 (wrap64 (-t464)) t464).bind fun bt467 => ((clepsydraref01_Add.f k (([t462, t463] : List Int))).bind fun t473 => ((clepsydraref01_Add.f k (([t462, a0_5] : List Int))).bind fun t477 => ((clepsydraref03_Shift.f k t473 t477 (wrap64 (-t464)) t464).bind fun bt478 => ((clepsydraref03_Meet.f k (([(⟨bt467.1, bt467.2⟩ : S25), (⟨bt478.1, bt478.2⟩ : S25)] : List (S25)))).bind fun bt484 => (some (bt484.1, bt484.2)))))))))))) = some (r1, r2) := H
 have A6 := Aside0.mk A60
 clear A60
 replace H := Option.bind_eq_some_iff.mp H
 obtain ⟨t462, A70, H⟩ := H
 replace H : ((clepsydraref01_Sub.f a0_5 a0_6).bind fun t463 => ((clepsydraref01_Mul.f k 2 a0_4).bind fun t464 => ((clepsydraref01_Sub.f t461 a0_5).bind fun t465 => ((clepsydraref01_Sub.f t461 t463).bind fun t466 => ((clepsydraref03_Shift.f k t465 t466 (wrap64 (-t464)) t464).bind fun bt467 => ((clepsydraref01_Add.f k (([t462, t463] : List Int))).bind fun t473 => ((clepsydraref01_Add.f k (([t462, a0_5] : List Int))).bind fun t477 => ((clepsydraref03_Shift.f k t473 t477 (wrap64 (-t464)) t464).bind fun bt478 => ((clepsydraref03_Meet.f k (([(⟨bt467.1, bt467.2⟩ : S25), (⟨bt478.1, bt478.2⟩ : S25)] : List (S25)))).bind fun bt484 => (some (bt484.1, bt484.2))))))))))) = some (r1, r2) := H
 have A7 := Aside0.mk A70
 clear A70
 replace H := Option.bind_eq_some_iff.mp H
 obtain ⟨t463, A80, H⟩ := H
 replace H : ((clepsydraref01_Mul.f k 2 a0_4).bind fun t464 => ((clepsydraref01_Sub.f t461 a0_5).bind fun t465 => ((clepsydraref01_Sub.f t461 t463).bind fun t466 => ((clepsydraref03_Shift.f k t465 t466 (wrap64 (-t464)) t464).bind fun bt467 => ((clepsydraref01_Add.f k (([t462, t463] : List Int))).bind fun t473 => ((clepsydraref01_Add.f k (([t462, a0_5] : List Int))).bind fun t477 => ((clepsydraref03_Shift.f k t473 t477 (wrap64 (-t464)) t464).bind fun bt478 => ((clepsydraref03_Meet.f k (([(⟨bt467.1, bt467.2⟩ : S25), (⟨bt478.1, bt478.2⟩ : S25)] : List (S25)))).bind fun bt484 => (some (bt484.1, bt484.2)))))))))) = some (r1, r2) := H
 have A8 := Aside0.mk A80
 clear A80
 replace H := Option.bind_eq_some_iff.mp H
 obtain ⟨t464, A90, H⟩ := H
 replace H : ((clepsydraref01_Sub.f t461 a0_5).bind fun t465 => ((clepsydraref01_Sub.f t461 t463).bind fun t466 => ((clepsydraref03_Shift.f k t465 t466 (wrap64 (-t464)) t464).bind fun bt467 => ((clepsydraref01_Add.f k (([t462, t463] : List Int))).bind fun t473 => ((clepsydraref01_Add.f k (([t462, a0_5] : List Int))).bind fun t477 => ((clepsydraref03_Shift.f k t473 t477 (wrap64 (-t464)) t464).bind fun bt478 => ((clepsydraref03_Meet.f k (([(⟨bt467.1, bt467.2⟩ : S25), (⟨bt478.1, bt478.2⟩ : S25)] : List (S25)))).bind fun bt484 => (some (bt484.1, bt484.2))))))))) = some (r1, r2) := H
 have A9 := Aside0.mk A90
 clear A90
 replace H := Option.bind_eq_some_iff.mp H
 obtain ⟨t465, A100, H⟩ := H
 replace H : ((clepsydraref01_Sub.f t461 t463).bind fun t466 => ((clepsydraref03_Shift.f k t465 t466 (wrap64 (-t464)) t464).bind fun bt467 => ((clepsydraref01_Add.f k (([t462, t463] : List Int))).bind fun t473 => ((clepsydraref01_Add.f k (([t462, a0_5] : List Int))).bind fun t477 => ((clepsydraref03_Shift.f k t473 t477 (wrap64 (-t464)) t464).bind fun bt478 => ((clepsydraref03_Meet.f k (([(⟨bt467.1, bt467.2⟩ : S25), (⟨bt478.1, bt478.2⟩ : S25)] : List (S25)))).bind fun bt484 => (some (bt484.1, bt484.2)))))))) = some (r1, r2) := H
 have A10 := Aside0.mk A100
 clear A100
 replace H := Option.bind_eq_some_iff.mp H
 obtain ⟨t466, A110, H⟩ := H
 replace H : ((clepsydraref03_Shift.f k t465 t466 (wrap64 (-t464)) t464).bind fun bt467 => ((clepsydraref01_Add.f k (([t462, t463] : List Int))).bind fun t473 => ((clepsydraref01_Add.f k (([t462, a0_5] : List Int))).bind fun t477 => ((clepsydraref03_Shift.f k t473 t477 (wrap64 (-t464)) t464).bind fun bt478 => ((clepsydraref03_Meet.f k (([(⟨bt467.1, bt467.2⟩ : S25), (⟨bt478.1, bt478.2⟩ : S25)] : List (S25)))).bind fun bt484 => (some (bt484.1, bt484.2))))))) = some (r1, r2) := H
 have A11 := Aside0.mk A110
 clear A110
 replace H := Option.bind_eq_some_iff.mp H
 obtain ⟨⟨t467, t468⟩, A120, H⟩ := H
 replace H : ((clepsydraref01_Add.f k (([t462, t463] : List Int))).bind fun t473 => ((clepsydraref01_Add.f k (([t462, a0_5] : List Int))).bind fun t477 => ((clepsydraref03_Shift.f k t473 t477 (wrap64 (-t464)) t464).bind fun bt478 => ((clepsydraref03_Meet.f k (([(⟨t467, t468⟩ : S25), (⟨bt478.1, bt478.2⟩ : S25)] : List (S25)))).bind fun bt484 => (some (bt484.1, bt484.2)))))) = some (r1, r2) := H
 have A12 := Aside0.mk A120
 clear A120
 obtain ⟨y470, hy470⟩ : ∃ y_ : List Int, y_ = (([t462, t463] : List Int)) := ⟨_, rfl⟩
 replace H : ((clepsydraref01_Add.f k y470).bind fun t473 => ((clepsydraref01_Add.f k (([t462, a0_5] : List Int))).bind fun t477 => ((clepsydraref03_Shift.f k t473 t477 (wrap64 (-t464)) t464).bind fun bt478 => ((clepsydraref03_Meet.f k (([(⟨t467, t468⟩ : S25), (⟨bt478.1, bt478.2⟩ : S25)] : List (S25)))).bind fun bt484 => (some (bt484.1, bt484.2)))))) = some (r1, r2) := by first | (rw [hy470]; with_reducible exact H) | (have H2_ := (Option.bind_some _ _).symm.trans H; rw [hy470]; with_reducible exact H2_) | (have H2_ := (Option.bind_some _ _).symm.trans H; with_reducible exact H2_) | with_reducible exact H | (rw [hy470]; exact H) | exact H
 have Ny470 := Aside0.mk hy470
 clear hy470
 replace H := Option.bind_eq_some_iff.mp H
 obtain ⟨t473, A130, H⟩ := H
 replace H : ((clepsydraref01_Add.f k (([t462, a0_5] : List Int))).bind fun t477 => ((clepsydraref03_Shift.f k t473 t477 (wrap64 (-t464)) t464).bind fun bt478 => ((clepsydraref03_Meet.f k (([(⟨t467, t468⟩ : S25), (⟨bt478.1, bt478.2⟩ : S25)] : List (S25)))).bind fun bt484 => (some (bt484.1, bt484.2))))) = some (r1, r2) := H
 have A13 := Aside0.mk A130
 clear A130
 obtain ⟨y474, hy474⟩ : ∃ y_ : List Int, y_ = (([t462, a0_5] : List Int)) := ⟨_, rfl⟩
 replace H : ((clepsydraref01_Add.f k y474).bind fun t477 => ((clepsydraref03_Shift.f k t473 t477 (wrap64 (-t464)) t464).bind fun bt478 => ((clepsydraref03_Meet.f k (([(⟨t467, t468⟩ : S25), (⟨bt478.1, bt478.2⟩ : S25)] : List (S25)))).bind fun bt484 => (some (bt484.1, bt484.2))))) = some (r1, r2) := by first | (rw [hy474]; with_reducible exact H) | (have H2_ := (Option.bind_some _ _).symm.trans H; rw [hy474]; with_reducible exact H2_) | (have H2_ := (Option.bind_some _ _).symm.trans H; with_reducible exact H2_) | with_reducible exact H | (rw [hy474]; exact H) | exact H
 have Ny474 := Aside0.mk hy474
 clear hy474
 replace H := Option.bind_eq_some_iff.mp H
 obtain ⟨t477, A140, H⟩ := H
 replace H : ((clepsydraref03_Shift.f k t473 t477 (wrap64 (-t464)) t464).bind fun bt478 => ((clepsydraref03_Meet.f k (([(⟨t467, t468⟩ : S25), (⟨bt478.1, bt478.2⟩ : S25)] : List (S25)))).bind fun bt484 => (some (bt484.1, bt484.2)))) = some (r1, r2) := H
 have A14 := Aside0.mk A140
 clear A140
 replace H := Option.bind_eq_some_iff.mp H
 obtain ⟨⟨t478, t479⟩, A150, H⟩ := H
 replace H : ((clepsydraref03_Meet.f k (([(⟨t467, t468⟩ : S25), (⟨t478, t479⟩ : S25)] : List (S25)))).bind fun bt484 => (some (bt484.1, bt484.2))) = some (r1, r2) := H
 have A15 := Aside0.mk A150
 clear A150
 obtain ⟨y481, hy481⟩ : ∃ y_ : List (S25), y_ = (([(⟨t467, t468⟩ : S25), (⟨t478, t479⟩ : S25)] : List (S25))) := ⟨_, rfl⟩
 replace H : ((clepsydraref03_Meet.f k y481).bind fun bt484 => (some (bt484.1, bt484.2))) = some (r1, r2) := by first | (rw [hy481]; with_reducible exact H) | (have H2_ := (Option.bind_some _ _).symm.trans H; rw [hy481]; with_reducible exact H2_) | (have H2_ := (Option.bind_some _ _).symm.trans H; with_reducible exact H2_) | with_reducible exact H | (rw [hy481]; exact H) | exact H
 have Ny481 := Aside0.mk hy481
 clear hy481
 replace H := Option.bind_eq_some_iff.mp H
 obtain ⟨⟨t484, t485⟩, A160, H⟩ := H
 replace H : (some (t484, t485)) = some (r1, r2) := H
 have A16 := Aside0.mk A160
 clear A160
 simp only [Option.some.injEq, Prod.mk.injEq] at H
 obtain ⟨rfl, rfl⟩ := H
 go_enter Try.func52, Try.ntmps52
 try go_wp2_with (first | ((with_reducible refine gate_dst (N := 5) rfl ?_); refine box_event ?hg (N := 5) ?hd (cs := #[.int .i64 a0_0, .int .i64 a0_1, .int .i64 a0_2, .int .i64 a0_3, .int .i64 a0_4, .int .i64 a0_5, .int .i64 a0_6, .int .i64 a0_7, .int .i64 a0_8, .int .i64 a0_9, .int .i64 a0_10, .int .i64 a0_11]) (t := 23) ?hr ?_; (case hd => rfl); (case hg => rfl); (case hr => first | (go_simp; done) | (go_simp; rfl)); intro gb459 hg w17 hbox hb; have n0_ := Aside0.mk (below_step (by repeat (first | (with_reducible first | exact HB.out | apply below_alloc | apply pw_below_drewN | apply below_drew1) | exact HB.out)) hb); have n1_ := Aside0.mk (hbox); have n2_ := Aside0.mk ((by rw [hg]; exact (below_size (by repeat (first | (with_reducible first | exact HB.out | apply below_alloc | apply pw_below_drewN | apply below_drew1) | exact HB.out))) : w.heap.size ≤ gb459)); have n3_ := Aside0.mk ((by rw [hg]; exact (below_size (by repeat (first | (with_reducible first | exact HB.out | apply below_alloc | apply pw_below_drewN | apply below_drew1) | exact HB.out))) : w.heap.size ≤ gb459)); clear HB; have HB := n0_; have BK459 := n1_; have GW459 := n2_; have GE459 := n3_; clear n0_ n1_ n2_ n3_; clear hb hbox hg) | ((with_reducible refine gate_dst (N := 10) rfl ?_); refine box_event ?hg (N := 10) ?hd (cs := #[.int .i64 0, .int .i64 0]) (t := 25) ?hr ?_; (case hd => rfl); (case hg => rfl); (case hr => first | (go_simp; done) | (go_simp; rfl)); intro gb460 hg w18 hbox hb; have n0_ := Aside0.mk (blk_below (g := gb459) (o := .cells #[.int .i64 a0_0, .int .i64 a0_1, .int .i64 a0_2, .int .i64 a0_3, .int .i64 a0_4, .int .i64 a0_5, .int .i64 a0_6, .int .i64 a0_7, .int .i64 a0_8, .int .i64 a0_9, .int .i64 a0_10, .int .i64 a0_11] 23 (0, 0)) (by (with_reducible repeat (first | refine blk_drewN ?_ _ | refine blk_drew ?_ | refine blk_alloc ?_ _)); exact BK459.out) hb); have n1_ := Aside0.mk (below_step (by repeat (first | (with_reducible first | exact HB.out | apply below_alloc | apply pw_below_drewN | apply below_drew1 | refine below_set ?_ GE459.out) | exact HB.out)) hb); have n2_ := Aside0.mk (hbox); have n3_ := Aside0.mk ((by rw [hg]; exact (below_size (by repeat (first | (with_reducible first | exact HB.out | apply below_alloc | apply pw_below_drewN | apply below_drew1 | refine below_set ?_ GE459.out) | exact HB.out))) : w.heap.size ≤ gb460)); have n4_ := Aside0.mk ((by rw [hg]; exact (below_size (by repeat (first | (with_reducible first | exact HB.out | apply below_alloc | apply pw_below_drewN | apply below_drew1 | refine below_set ?_ GE459.out) | exact HB.out))) : w.heap.size ≤ gb460)); have n5_ := Aside0.mk ((by rw [hg]; exact Nat.ne_of_lt (blk_lt (g := gb459) (o := .cells #[.int .i64 a0_0, .int .i64 a0_1, .int .i64 a0_2, .int .i64 a0_3, .int .i64 a0_4, .int .i64 a0_5, .int .i64 a0_6, .int .i64 a0_7, .int .i64 a0_8, .int .i64 a0_9, .int .i64 a0_10, .int .i64 a0_11] 23 (0, 0)) (by (with_reducible repeat (first | refine blk_drewN ?_ _ | refine blk_drew ?_ | refine blk_alloc ?_ _)); exact BK459.out)) : gb459 ≠ gb460)); have n6_ := Aside0.mk ((by rw [hg]; exact Nat.ne_of_gt (blk_lt (g := gb459) (o := .cells #[.int .i64 a0_0, .int .i64 a0_1, .int .i64 a0_2, .int .i64 a0_3, .int .i64 a0_4, .int .i64 a0_5, .int .i64 a0_6, .int .i64 a0_7, .int .i64 a0_8, .int .i64 a0_9, .int .i64 a0_10, .int .i64 a0_11] 23 (0, 0)) (by (with_reducible repeat (first | refine blk_drewN ?_ _ | refine blk_drew ?_ | refine blk_alloc ?_ _)); exact BK459.out)) : gb460 ≠ gb459)); clear BK459; clear HB; have BK459 := n0_; have HB := n1_; have BK460 := n2_; have GW460 := n3_; have GE460 := n4_; have NB459_460 := n5_; have NB460_459 := n6_; clear n0_ n1_ n2_ n3_ n4_ n5_ n6_; clear hb hbox hg) | ((with_reducible refine gate_callee (f := 43) rfl ?_); refine goesL_ (some 19) rfl rfl Try.func43 (by kernel_rfl) rfl #[.int .i64 a2, .int .i64 a1] rfl (by (try simp only [List.map_toArray, List.map_cons, List.map_nil]); first | done | rfl | (simp only [List.length_drop, List.length_take]; rfl)) ?_; (with_reducible refine (clepsydraref01_Sub.calls a2 a1 t461 _ A6.out).mono ?_); rintro e w' ⟨rfl, ⟨nd, rfl⟩⟩; refine ⟨_, rfl, ?_⟩; (try ((repeat rw [World.drewN_drewN]); rw [drewN_self w18]; generalize hq_ : World.drewN w18 _ = w18; have n0_ : Aside0 (w18.heap[gb459]? = some (.cells #[.int .i64 a0_0, .int .i64 a0_1, .int .i64 a0_2, .int .i64 a0_3, .int .i64 a0_4, .int .i64 a0_5, .int .i64 a0_6, .int .i64 a0_7, .int .i64 a0_8, .int .i64 a0_9, .int .i64 a0_10, .int .i64 a0_11] 23 (0, 0))) := ⟨by rw [← hq_]; exact (by (with_reducible repeat (first | refine blk_drewN ?_ _ | refine blk_drew ?_ | refine blk_alloc ?_ _)); exact BK459.out)⟩; have n1_ : Aside0 (w18.heap[gb460]? = some (.cells #[.int .i64 0, .int .i64 0] 25 (0, 0))) := ⟨by rw [← hq_]; exact (by (with_reducible repeat (first | refine blk_drewN ?_ _ | refine blk_drew ?_ | refine blk_alloc ?_ _)); exact BK460.out)⟩; have n2_ : Aside0 (Below w.heap.size w w18) := ⟨by rw [← hq_]; exact (by repeat (first | (with_reducible first | exact HB.out | apply below_alloc | apply pw_below_drewN | apply below_drew1 | refine below_set ?_ GE459.out | refine below_set ?_ GE460.out) | exact HB.out))⟩; clear BK459 BK460 HB hq_; have BK459 := n0_; have BK460 := n1_; have HB := n2_; clear n0_ n1_ n2_))) | ((with_reducible refine gate_callee (f := 43) rfl ?_); refine goesL_ (some 22) rfl rfl Try.func43 (by kernel_rfl) rfl #[.int .i64 a3, .int .i64 a4] rfl (by (try simp only [List.map_toArray, List.map_cons, List.map_nil]); first | done | rfl | (simp only [List.length_drop, List.length_take]; rfl)) ?_; (with_reducible refine (clepsydraref01_Sub.calls a3 a4 t462 _ A7.out).mono ?_); rintro e w' ⟨rfl, ⟨nd, rfl⟩⟩; refine ⟨_, rfl, ?_⟩; (try ((repeat rw [World.drewN_drewN]); rw [drewN_self w18]; generalize hq_ : World.drewN w18 _ = w18; have n0_ : Aside0 (w18.heap[gb459]? = some (.cells #[.int .i64 a0_0, .int .i64 a0_1, .int .i64 a0_2, .int .i64 a0_3, .int .i64 a0_4, .int .i64 a0_5, .int .i64 a0_6, .int .i64 a0_7, .int .i64 a0_8, .int .i64 a0_9, .int .i64 a0_10, .int .i64 a0_11] 23 (0, 0))) := ⟨by rw [← hq_]; exact (by (with_reducible repeat (first | refine blk_drewN ?_ _ | refine blk_drew ?_ | refine blk_alloc ?_ _)); exact BK459.out)⟩; have n1_ : Aside0 (w18.heap[gb460]? = some (.cells #[.int .i64 0, .int .i64 0] 25 (0, 0))) := ⟨by rw [← hq_]; exact (by (with_reducible repeat (first | refine blk_drewN ?_ _ | refine blk_drew ?_ | refine blk_alloc ?_ _)); exact BK460.out)⟩; have n2_ : Aside0 (Below w.heap.size w w18) := ⟨by rw [← hq_]; exact (by repeat (first | (with_reducible first | exact HB.out | apply below_alloc | apply pw_below_drewN | apply below_drew1 | refine below_set ?_ GE459.out | refine below_set ?_ GE460.out) | exact HB.out))⟩; clear BK459 BK460 HB hq_; have BK459 := n0_; have BK460 := n1_; have HB := n2_; clear n0_ n1_ n2_)); have hnb19 := NB459_460.out; have hnc19 := NB460_459.out; have hcz20_0 : w18.cell? ⟨gb459, 0, none⟩ = some (.int .i64 a0_0) := (blk_cell BK459.out 0).trans rfl; have hcz20_1 : w18.cell? ⟨gb459, 1, none⟩ = some (.int .i64 a0_1) := (blk_cell BK459.out 1).trans rfl; have hcz20_2 : w18.cell? ⟨gb459, 2, none⟩ = some (.int .i64 a0_2) := (blk_cell BK459.out 2).trans rfl; have hcz20_3 : w18.cell? ⟨gb459, 3, none⟩ = some (.int .i64 a0_3) := (blk_cell BK459.out 3).trans rfl; have hcz20_4 : w18.cell? ⟨gb459, 4, none⟩ = some (.int .i64 a0_4) := (blk_cell BK459.out 4).trans rfl; have hcz20_5 : w18.cell? ⟨gb459, 5, none⟩ = some (.int .i64 a0_5) := (blk_cell BK459.out 5).trans rfl; have hcz20_6 : w18.cell? ⟨gb459, 6, none⟩ = some (.int .i64 a0_6) := (blk_cell BK459.out 6).trans rfl; have hcz20_7 : w18.cell? ⟨gb459, 7, none⟩ = some (.int .i64 a0_7) := (blk_cell BK459.out 7).trans rfl; have hcz20_8 : w18.cell? ⟨gb459, 8, none⟩ = some (.int .i64 a0_8) := (blk_cell BK459.out 8).trans rfl; have hcz20_9 : w18.cell? ⟨gb459, 9, none⟩ = some (.int .i64 a0_9) := (blk_cell BK459.out 9).trans rfl; have hcz20_10 : w18.cell? ⟨gb459, 10, none⟩ = some (.int .i64 a0_10) := (blk_cell BK459.out 10).trans rfl; have hcz20_11 : w18.cell? ⟨gb459, 11, none⟩ = some (.int .i64 a0_11) := (blk_cell BK459.out 11).trans rfl; have hfz20_0 := blk_frozen BK459.out 0; have hfz20_1 := blk_frozen BK459.out 1; have hfz20_2 := blk_frozen BK459.out 2; have hfz20_3 := blk_frozen BK459.out 3; have hfz20_4 := blk_frozen BK459.out 4; have hfz20_5 := blk_frozen BK459.out 5; have hfz20_6 := blk_frozen BK459.out 6; have hfz20_7 := blk_frozen BK459.out 7; have hfz20_8 := blk_frozen BK459.out 8; have hfz20_9 := blk_frozen BK459.out 9; have hfz20_10 := blk_frozen BK459.out 10; have hfz20_11 := blk_frozen BK459.out 11) | ((with_reducible refine gate_callee (f := 43) rfl ?_); refine goesL_ (some 27) rfl rfl Try.func43 (by kernel_rfl) rfl #[.int .i64 a0_5, .int .i64 a0_6] rfl (by (try simp only [List.map_toArray, List.map_cons, List.map_nil]); first | done | rfl | (simp only [List.length_drop, List.length_take]; rfl)) ?_; (with_reducible refine (clepsydraref01_Sub.calls a0_5 a0_6 t463 _ A8.out).mono ?_); rintro e w' ⟨rfl, ⟨nd, rfl⟩⟩; refine ⟨_, rfl, ?_⟩; (try ((repeat rw [World.drewN_drewN]); rw [drewN_self w18]; generalize hq_ : World.drewN w18 _ = w18; have n0_ : Aside0 (w18.heap[gb459]? = some (.cells #[.int .i64 a0_0, .int .i64 a0_1, .int .i64 a0_2, .int .i64 a0_3, .int .i64 a0_4, .int .i64 a0_5, .int .i64 a0_6, .int .i64 a0_7, .int .i64 a0_8, .int .i64 a0_9, .int .i64 a0_10, .int .i64 a0_11] 23 (0, 0))) := ⟨by rw [← hq_]; exact (by (with_reducible repeat (first | refine blk_drewN ?_ _ | refine blk_drew ?_ | refine blk_alloc ?_ _)); exact BK459.out)⟩; have n1_ : Aside0 (w18.heap[gb460]? = some (.cells #[.int .i64 0, .int .i64 0] 25 (0, 0))) := ⟨by rw [← hq_]; exact (by (with_reducible repeat (first | refine blk_drewN ?_ _ | refine blk_drew ?_ | refine blk_alloc ?_ _)); exact BK460.out)⟩; have n2_ : Aside0 (Below w.heap.size w w18) := ⟨by rw [← hq_]; exact (by repeat (first | (with_reducible first | exact HB.out | apply below_alloc | apply pw_below_drewN | apply below_drew1 | refine below_set ?_ GE459.out | refine below_set ?_ GE460.out) | exact HB.out))⟩; clear BK459 BK460 HB hq_; have BK459 := n0_; have BK460 := n1_; have HB := n2_; clear n0_ n1_ n2_)); (try (have hcz20_0 : w18.cell? ⟨gb459, 0, none⟩ = some (.int .i64 a0_0) := (blk_cell BK459.out 0).trans rfl)); (try (have hcz20_1 : w18.cell? ⟨gb459, 1, none⟩ = some (.int .i64 a0_1) := (blk_cell BK459.out 1).trans rfl)); (try (have hcz20_2 : w18.cell? ⟨gb459, 2, none⟩ = some (.int .i64 a0_2) := (blk_cell BK459.out 2).trans rfl)); (try (have hcz20_3 : w18.cell? ⟨gb459, 3, none⟩ = some (.int .i64 a0_3) := (blk_cell BK459.out 3).trans rfl)); (try (have hcz20_4 : w18.cell? ⟨gb459, 4, none⟩ = some (.int .i64 a0_4) := (blk_cell BK459.out 4).trans rfl)); (try (have hcz20_5 : w18.cell? ⟨gb459, 5, none⟩ = some (.int .i64 a0_5) := (blk_cell BK459.out 5).trans rfl)); (try (have hcz20_6 : w18.cell? ⟨gb459, 6, none⟩ = some (.int .i64 a0_6) := (blk_cell BK459.out 6).trans rfl)); (try (have hcz20_7 : w18.cell? ⟨gb459, 7, none⟩ = some (.int .i64 a0_7) := (blk_cell BK459.out 7).trans rfl)); (try (have hcz20_8 : w18.cell? ⟨gb459, 8, none⟩ = some (.int .i64 a0_8) := (blk_cell BK459.out 8).trans rfl)); (try (have hcz20_9 : w18.cell? ⟨gb459, 9, none⟩ = some (.int .i64 a0_9) := (blk_cell BK459.out 9).trans rfl)); (try (have hcz20_10 : w18.cell? ⟨gb459, 10, none⟩ = some (.int .i64 a0_10) := (blk_cell BK459.out 10).trans rfl)); (try (have hcz20_11 : w18.cell? ⟨gb459, 11, none⟩ = some (.int .i64 a0_11) := (blk_cell BK459.out 11).trans rfl)); (try (have hfz20_0 := blk_frozen BK459.out 0)); (try (have hfz20_1 := blk_frozen BK459.out 1)); (try (have hfz20_2 := blk_frozen BK459.out 2)); (try (have hfz20_3 := blk_frozen BK459.out 3)); (try (have hfz20_4 := blk_frozen BK459.out 4)); (try (have hfz20_5 := blk_frozen BK459.out 5)); (try (have hfz20_6 := blk_frozen BK459.out 6)); (try (have hfz20_7 := blk_frozen BK459.out 7)); (try (have hfz20_8 := blk_frozen BK459.out 8)); (try (have hfz20_9 := blk_frozen BK459.out 9)); (try (have hfz20_10 := blk_frozen BK459.out 10)); (try (have hfz20_11 := blk_frozen BK459.out 11))) | ((with_reducible refine gate_callee (f := 59) rfl ?_); refine goesL_ (some 30) rfl rfl Try.func59 (by kernel_rfl) rfl #[.int .i64 2, .int .i64 a0_4] rfl (by (try simp only [List.map_toArray, List.map_cons, List.map_nil]); first | done | rfl | (simp only [List.length_drop, List.length_take]; rfl)) ?_; (with_reducible refine (clepsydraref01_Mul.calls k 2 a0_4 t464 _ A9.out).mono ?_); rintro e w' ⟨rfl, ⟨nd, rfl⟩⟩; refine ⟨_, rfl, ?_⟩; (try ((repeat rw [World.drewN_drewN]); rw [drewN_self w18]; generalize hq_ : World.drewN w18 _ = w18; have n0_ : Aside0 (w18.heap[gb459]? = some (.cells #[.int .i64 a0_0, .int .i64 a0_1, .int .i64 a0_2, .int .i64 a0_3, .int .i64 a0_4, .int .i64 a0_5, .int .i64 a0_6, .int .i64 a0_7, .int .i64 a0_8, .int .i64 a0_9, .int .i64 a0_10, .int .i64 a0_11] 23 (0, 0))) := ⟨by rw [← hq_]; exact (by (with_reducible repeat (first | refine blk_drewN ?_ _ | refine blk_drew ?_ | refine blk_alloc ?_ _)); exact BK459.out)⟩; have n1_ : Aside0 (w18.heap[gb460]? = some (.cells #[.int .i64 0, .int .i64 0] 25 (0, 0))) := ⟨by rw [← hq_]; exact (by (with_reducible repeat (first | refine blk_drewN ?_ _ | refine blk_drew ?_ | refine blk_alloc ?_ _)); exact BK460.out)⟩; have n2_ : Aside0 (Below w.heap.size w w18) := ⟨by rw [← hq_]; exact (by repeat (first | (with_reducible first | exact HB.out | apply below_alloc | apply pw_below_drewN | apply below_drew1 | refine below_set ?_ GE459.out | refine below_set ?_ GE460.out) | exact HB.out))⟩; clear BK459 BK460 HB hq_; have BK459 := n0_; have BK460 := n1_; have HB := n2_; clear n0_ n1_ n2_)); (try (have hcz20_0 : w18.cell? ⟨gb459, 0, none⟩ = some (.int .i64 a0_0) := (blk_cell BK459.out 0).trans rfl)); (try (have hcz20_1 : w18.cell? ⟨gb459, 1, none⟩ = some (.int .i64 a0_1) := (blk_cell BK459.out 1).trans rfl)); (try (have hcz20_2 : w18.cell? ⟨gb459, 2, none⟩ = some (.int .i64 a0_2) := (blk_cell BK459.out 2).trans rfl)); (try (have hcz20_3 : w18.cell? ⟨gb459, 3, none⟩ = some (.int .i64 a0_3) := (blk_cell BK459.out 3).trans rfl)); (try (have hcz20_4 : w18.cell? ⟨gb459, 4, none⟩ = some (.int .i64 a0_4) := (blk_cell BK459.out 4).trans rfl)); (try (have hcz20_5 : w18.cell? ⟨gb459, 5, none⟩ = some (.int .i64 a0_5) := (blk_cell BK459.out 5).trans rfl)); (try (have hcz20_6 : w18.cell? ⟨gb459, 6, none⟩ = some (.int .i64 a0_6) := (blk_cell BK459.out 6).trans rfl)); (try (have hcz20_7 : w18.cell? ⟨gb459, 7, none⟩ = some (.int .i64 a0_7) := (blk_cell BK459.out 7).trans rfl)); (try (have hcz20_8 : w18.cell? ⟨gb459, 8, none⟩ = some (.int .i64 a0_8) := (blk_cell BK459.out 8).trans rfl)); (try (have hcz20_9 : w18.cell? ⟨gb459, 9, none⟩ = some (.int .i64 a0_9) := (blk_cell BK459.out 9).trans rfl)); (try (have hcz20_10 : w18.cell? ⟨gb459, 10, none⟩ = some (.int .i64 a0_10) := (blk_cell BK459.out 10).trans rfl)); (try (have hcz20_11 : w18.cell? ⟨gb459, 11, none⟩ = some (.int .i64 a0_11) := (blk_cell BK459.out 11).trans rfl)); (try (have hfz20_0 := blk_frozen BK459.out 0)); (try (have hfz20_1 := blk_frozen BK459.out 1)); (try (have hfz20_2 := blk_frozen BK459.out 2)); (try (have hfz20_3 := blk_frozen BK459.out 3)); (try (have hfz20_4 := blk_frozen BK459.out 4)); (try (have hfz20_5 := blk_frozen BK459.out 5)); (try (have hfz20_6 := blk_frozen BK459.out 6)); (try (have hfz20_7 := blk_frozen BK459.out 7)); (try (have hfz20_8 := blk_frozen BK459.out 8)); (try (have hfz20_9 := blk_frozen BK459.out 9)); (try (have hfz20_10 := blk_frozen BK459.out 10)); (try (have hfz20_11 := blk_frozen BK459.out 11))) | ((with_reducible refine gate_callee (f := 43) rfl ?_); refine goesL_ (some 34) rfl rfl Try.func43 (by kernel_rfl) rfl #[.int .i64 t461, .int .i64 a0_5] rfl (by (try simp only [List.map_toArray, List.map_cons, List.map_nil]); first | done | rfl | (simp only [List.length_drop, List.length_take]; rfl)) ?_; (with_reducible refine (clepsydraref01_Sub.calls t461 a0_5 t465 _ A10.out).mono ?_); rintro e w' ⟨rfl, ⟨nd, rfl⟩⟩; refine ⟨_, rfl, ?_⟩; (try ((repeat rw [World.drewN_drewN]); rw [drewN_self w18]; generalize hq_ : World.drewN w18 _ = w18; have n0_ : Aside0 (w18.heap[gb459]? = some (.cells #[.int .i64 a0_0, .int .i64 a0_1, .int .i64 a0_2, .int .i64 a0_3, .int .i64 a0_4, .int .i64 a0_5, .int .i64 a0_6, .int .i64 a0_7, .int .i64 a0_8, .int .i64 a0_9, .int .i64 a0_10, .int .i64 a0_11] 23 (0, 0))) := ⟨by rw [← hq_]; exact (by (with_reducible repeat (first | refine blk_drewN ?_ _ | refine blk_drew ?_ | refine blk_alloc ?_ _)); exact BK459.out)⟩; have n1_ : Aside0 (w18.heap[gb460]? = some (.cells #[.int .i64 0, .int .i64 0] 25 (0, 0))) := ⟨by rw [← hq_]; exact (by (with_reducible repeat (first | refine blk_drewN ?_ _ | refine blk_drew ?_ | refine blk_alloc ?_ _)); exact BK460.out)⟩; have n2_ : Aside0 (Below w.heap.size w w18) := ⟨by rw [← hq_]; exact (by repeat (first | (with_reducible first | exact HB.out | apply below_alloc | apply pw_below_drewN | apply below_drew1 | refine below_set ?_ GE459.out | refine below_set ?_ GE460.out) | exact HB.out))⟩; clear BK459 BK460 HB hq_; have BK459 := n0_; have BK460 := n1_; have HB := n2_; clear n0_ n1_ n2_)); (try (have hcz20_0 : w18.cell? ⟨gb459, 0, none⟩ = some (.int .i64 a0_0) := (blk_cell BK459.out 0).trans rfl)); (try (have hcz20_1 : w18.cell? ⟨gb459, 1, none⟩ = some (.int .i64 a0_1) := (blk_cell BK459.out 1).trans rfl)); (try (have hcz20_2 : w18.cell? ⟨gb459, 2, none⟩ = some (.int .i64 a0_2) := (blk_cell BK459.out 2).trans rfl)); (try (have hcz20_3 : w18.cell? ⟨gb459, 3, none⟩ = some (.int .i64 a0_3) := (blk_cell BK459.out 3).trans rfl)); (try (have hcz20_4 : w18.cell? ⟨gb459, 4, none⟩ = some (.int .i64 a0_4) := (blk_cell BK459.out 4).trans rfl)); (try (have hcz20_5 : w18.cell? ⟨gb459, 5, none⟩ = some (.int .i64 a0_5) := (blk_cell BK459.out 5).trans rfl)); (try (have hcz20_6 : w18.cell? ⟨gb459, 6, none⟩ = some (.int .i64 a0_6) := (blk_cell BK459.out 6).trans rfl)); (try (have hcz20_7 : w18.cell? ⟨gb459, 7, none⟩ = some (.int .i64 a0_7) := (blk_cell BK459.out 7).trans rfl)); (try (have hcz20_8 : w18.cell? ⟨gb459, 8, none⟩ = some (.int .i64 a0_8) := (blk_cell BK459.out 8).trans rfl)); (try (have hcz20_9 : w18.cell? ⟨gb459, 9, none⟩ = some (.int .i64 a0_9) := (blk_cell BK459.out 9).trans rfl)); (try (have hcz20_10 : w18.cell? ⟨gb459, 10, none⟩ = some (.int .i64 a0_10) := (blk_cell BK459.out 10).trans rfl)); (try (have hcz20_11 : w18.cell? ⟨gb459, 11, none⟩ = some (.int .i64 a0_11) := (blk_cell BK459.out 11).trans rfl)); (try (have hfz20_0 := blk_frozen BK459.out 0)); (try (have hfz20_1 := blk_frozen BK459.out 1)); (try (have hfz20_2 := blk_frozen BK459.out 2)); (try (have hfz20_3 := blk_frozen BK459.out 3)); (try (have hfz20_4 := blk_frozen BK459.out 4)); (try (have hfz20_5 := blk_frozen BK459.out 5)); (try (have hfz20_6 := blk_frozen BK459.out 6)); (try (have hfz20_7 := blk_frozen BK459.out 7)); (try (have hfz20_8 := blk_frozen BK459.out 8)); (try (have hfz20_9 := blk_frozen BK459.out 9)); (try (have hfz20_10 := blk_frozen BK459.out 10)); (try (have hfz20_11 := blk_frozen BK459.out 11))) | ((with_reducible refine gate_callee (f := 43) rfl ?_); refine goesL_ (some 37) rfl rfl Try.func43 (by kernel_rfl) rfl #[.int .i64 t461, .int .i64 t463] rfl (by (try simp only [List.map_toArray, List.map_cons, List.map_nil]); first | done | rfl | (simp only [List.length_drop, List.length_take]; rfl)) ?_; (with_reducible refine (clepsydraref01_Sub.calls t461 t463 t466 _ A11.out).mono ?_); rintro e w' ⟨rfl, ⟨nd, rfl⟩⟩; refine ⟨_, rfl, ?_⟩; (try ((repeat rw [World.drewN_drewN]); rw [drewN_self w18]; generalize hq_ : World.drewN w18 _ = w18; have n0_ : Aside0 (w18.heap[gb459]? = some (.cells #[.int .i64 a0_0, .int .i64 a0_1, .int .i64 a0_2, .int .i64 a0_3, .int .i64 a0_4, .int .i64 a0_5, .int .i64 a0_6, .int .i64 a0_7, .int .i64 a0_8, .int .i64 a0_9, .int .i64 a0_10, .int .i64 a0_11] 23 (0, 0))) := ⟨by rw [← hq_]; exact (by (with_reducible repeat (first | refine blk_drewN ?_ _ | refine blk_drew ?_ | refine blk_alloc ?_ _)); exact BK459.out)⟩; have n1_ : Aside0 (w18.heap[gb460]? = some (.cells #[.int .i64 0, .int .i64 0] 25 (0, 0))) := ⟨by rw [← hq_]; exact (by (with_reducible repeat (first | refine blk_drewN ?_ _ | refine blk_drew ?_ | refine blk_alloc ?_ _)); exact BK460.out)⟩; have n2_ : Aside0 (Below w.heap.size w w18) := ⟨by rw [← hq_]; exact (by repeat (first | (with_reducible first | exact HB.out | apply below_alloc | apply pw_below_drewN | apply below_drew1 | refine below_set ?_ GE459.out | refine below_set ?_ GE460.out) | exact HB.out))⟩; clear BK459 BK460 HB hq_; have BK459 := n0_; have BK460 := n1_; have HB := n2_; clear n0_ n1_ n2_)); (try (have hcz20_0 : w18.cell? ⟨gb459, 0, none⟩ = some (.int .i64 a0_0) := (blk_cell BK459.out 0).trans rfl)); (try (have hcz20_1 : w18.cell? ⟨gb459, 1, none⟩ = some (.int .i64 a0_1) := (blk_cell BK459.out 1).trans rfl)); (try (have hcz20_2 : w18.cell? ⟨gb459, 2, none⟩ = some (.int .i64 a0_2) := (blk_cell BK459.out 2).trans rfl)); (try (have hcz20_3 : w18.cell? ⟨gb459, 3, none⟩ = some (.int .i64 a0_3) := (blk_cell BK459.out 3).trans rfl)); (try (have hcz20_4 : w18.cell? ⟨gb459, 4, none⟩ = some (.int .i64 a0_4) := (blk_cell BK459.out 4).trans rfl)); (try (have hcz20_5 : w18.cell? ⟨gb459, 5, none⟩ = some (.int .i64 a0_5) := (blk_cell BK459.out 5).trans rfl)); (try (have hcz20_6 : w18.cell? ⟨gb459, 6, none⟩ = some (.int .i64 a0_6) := (blk_cell BK459.out 6).trans rfl)); (try (have hcz20_7 : w18.cell? ⟨gb459, 7, none⟩ = some (.int .i64 a0_7) := (blk_cell BK459.out 7).trans rfl)); (try (have hcz20_8 : w18.cell? ⟨gb459, 8, none⟩ = some (.int .i64 a0_8) := (blk_cell BK459.out 8).trans rfl)); (try (have hcz20_9 : w18.cell? ⟨gb459, 9, none⟩ = some (.int .i64 a0_9) := (blk_cell BK459.out 9).trans rfl)); (try (have hcz20_10 : w18.cell? ⟨gb459, 10, none⟩ = some (.int .i64 a0_10) := (blk_cell BK459.out 10).trans rfl)); (try (have hcz20_11 : w18.cell? ⟨gb459, 11, none⟩ = some (.int .i64 a0_11) := (blk_cell BK459.out 11).trans rfl)); (try (have hfz20_0 := blk_frozen BK459.out 0)); (try (have hfz20_1 := blk_frozen BK459.out 1)); (try (have hfz20_2 := blk_frozen BK459.out 2)); (try (have hfz20_3 := blk_frozen BK459.out 3)); (try (have hfz20_4 := blk_frozen BK459.out 4)); (try (have hfz20_5 := blk_frozen BK459.out 5)); (try (have hfz20_6 := blk_frozen BK459.out 6)); (try (have hfz20_7 := blk_frozen BK459.out 7)); (try (have hfz20_8 := blk_frozen BK459.out 8)); (try (have hfz20_9 := blk_frozen BK459.out 9)); (try (have hfz20_10 := blk_frozen BK459.out 10)); (try (have hfz20_11 := blk_frozen BK459.out 11))) | ((with_reducible refine gate_callee (f := 42) rfl ?_); refine goesL_ (some 42) rfl rfl Try.func42 (by kernel_rfl) rfl #[.agg #[.int .i64 t465, .int .i64 t466], .int .i64 (wrap64 (-t464)), .int .i64 t464] rfl (by (try simp only [List.map_toArray, List.map_cons, List.map_nil]); first | done | rfl | (simp only [List.length_drop, List.length_take]; rfl)) ?_; (with_reducible refine (clepsydraref03_Shift.calls k t465 t466 (wrap64 (-t464)) t464 t467 t468 _ A12.out).mono ?_); rintro e w21 ⟨rfl, hb⟩; refine ⟨_, rfl, ?_⟩; have n0_ := Aside0.mk (blk_below (g := gb459) (o := .cells #[.int .i64 a0_0, .int .i64 a0_1, .int .i64 a0_2, .int .i64 a0_3, .int .i64 a0_4, .int .i64 a0_5, .int .i64 a0_6, .int .i64 a0_7, .int .i64 a0_8, .int .i64 a0_9, .int .i64 a0_10, .int .i64 a0_11] 23 (0, 0)) (by (with_reducible repeat (first | refine blk_drewN ?_ _ | refine blk_drew ?_ | refine blk_alloc ?_ _)); exact BK459.out) hb); have n1_ := Aside0.mk (blk_below (g := gb460) (o := .cells #[.int .i64 0, .int .i64 0] 25 (0, 0)) (by (with_reducible repeat (first | refine blk_drewN ?_ _ | refine blk_drew ?_ | refine blk_alloc ?_ _)); exact BK460.out) hb); have n2_ := Aside0.mk (below_step (by repeat (first | (with_reducible first | exact HB.out | apply below_alloc | apply pw_below_drewN | apply below_drew1 | refine below_set ?_ GE459.out | refine below_set ?_ GE460.out) | exact HB.out)) hb); clear BK459; clear BK460; clear HB; have BK459 := n0_; have BK460 := n1_; have HB := n2_; clear n0_ n1_ n2_; (try clear hb); (try clear hb2); (try clear hk); (try clear hi)) | ((with_reducible refine gate_dst (N := 15) rfl ?_); refine box_event ?hg (N := 15) ?hd (cs := #[.int .i64 0, .int .i64 0]) (t := 25) ?hr ?_; (case hd => rfl); (case hg => rfl); (case hr => first | (go_simp; done) | (go_simp; rfl)); intro gb469 hg w22 hbox hb; have n0_ := Aside0.mk (blk_below (g := gb459) (o := .cells #[.int .i64 a0_0, .int .i64 a0_1, .int .i64 a0_2, .int .i64 a0_3, .int .i64 a0_4, .int .i64 a0_5, .int .i64 a0_6, .int .i64 a0_7, .int .i64 a0_8, .int .i64 a0_9, .int .i64 a0_10, .int .i64 a0_11] 23 (0, 0)) (by (with_reducible repeat (first | refine blk_drewN ?_ _ | refine blk_drew ?_ | refine blk_alloc ?_ _)); exact BK459.out) hb); have n1_ := Aside0.mk (blk_below (g := gb460) (o := .cells #[.int .i64 0, .int .i64 0] 25 (0, 0)) (by (with_reducible repeat (first | refine blk_drewN ?_ _ | refine blk_drew ?_ | refine blk_alloc ?_ _)); exact BK460.out) hb); have n2_ := Aside0.mk (below_step (by repeat (first | (with_reducible first | exact HB.out | apply below_alloc | apply pw_below_drewN | apply below_drew1 | refine below_set ?_ GE459.out | refine below_set ?_ GE460.out) | exact HB.out)) hb); have n3_ := Aside0.mk (hbox); have n4_ := Aside0.mk ((by rw [hg]; exact (below_size (by repeat (first | (with_reducible first | exact HB.out | apply below_alloc | apply pw_below_drewN | apply below_drew1 | refine below_set ?_ GE459.out | refine below_set ?_ GE460.out) | exact HB.out))) : w.heap.size ≤ gb469)); have n5_ := Aside0.mk ((by rw [hg]; exact (below_size (by repeat (first | (with_reducible first | exact HB.out | apply below_alloc | apply pw_below_drewN | apply below_drew1 | refine below_set ?_ GE459.out | refine below_set ?_ GE460.out) | exact HB.out))) : w.heap.size ≤ gb469)); have n6_ := Aside0.mk ((by rw [hg]; exact Nat.ne_of_lt (blk_lt (g := gb459) (o := .cells #[.int .i64 a0_0, .int .i64 a0_1, .int .i64 a0_2, .int .i64 a0_3, .int .i64 a0_4, .int .i64 a0_5, .int .i64 a0_6, .int .i64 a0_7, .int .i64 a0_8, .int .i64 a0_9, .int .i64 a0_10, .int .i64 a0_11] 23 (0, 0)) (by (with_reducible repeat (first | refine blk_drewN ?_ _ | refine blk_drew ?_ | refine blk_alloc ?_ _)); exact BK459.out)) : gb459 ≠ gb469)); have n7_ := Aside0.mk ((by rw [hg]; exact Nat.ne_of_gt (blk_lt (g := gb459) (o := .cells #[.int .i64 a0_0, .int .i64 a0_1, .int .i64 a0_2, .int .i64 a0_3, .int .i64 a0_4, .int .i64 a0_5, .int .i64 a0_6, .int .i64 a0_7, .int .i64 a0_8, .int .i64 a0_9, .int .i64 a0_10, .int .i64 a0_11] 23 (0, 0)) (by (with_reducible repeat (first | refine blk_drewN ?_ _ | refine blk_drew ?_ | refine blk_alloc ?_ _)); exact BK459.out)) : gb469 ≠ gb459)); have n8_ := Aside0.mk ((by rw [hg]; exact Nat.ne_of_lt (blk_lt (g := gb460) (o := .cells #[.int .i64 0, .int .i64 0] 25 (0, 0)) (by (with_reducible repeat (first | refine blk_drewN ?_ _ | refine blk_drew ?_ | refine blk_alloc ?_ _)); exact BK460.out)) : gb460 ≠ gb469)); have n9_ := Aside0.mk ((by rw [hg]; exact Nat.ne_of_gt (blk_lt (g := gb460) (o := .cells #[.int .i64 0, .int .i64 0] 25 (0, 0)) (by (with_reducible repeat (first | refine blk_drewN ?_ _ | refine blk_drew ?_ | refine blk_alloc ?_ _)); exact BK460.out)) : gb469 ≠ gb460)); clear BK459; clear BK460; clear HB; have BK459 := n0_; have BK460 := n1_; have HB := n2_; have BK469 := n3_; have GW469 := n4_; have GE469 := n5_; have NB459_469 := n6_; have NB469_459 := n7_; have NB460_469 := n8_; have NB469_460 := n9_; clear n0_ n1_ n2_ n3_ n4_ n5_ n6_ n7_ n8_ n9_; clear hb hbox hg; have hnb23 := NB469_459.out; have hnc23 := NB459_469.out; have hnb24 := NB469_460.out; have hnc24 := NB460_469.out; have hcz25_0 : w22.cell? ⟨gb469, 0, none⟩ = some (.int .i64 0) := (blk_cell BK469.out 0).trans rfl; have hcz25_1 : w22.cell? ⟨gb469, 1, none⟩ = some (.int .i64 0) := (blk_cell BK469.out 1).trans rfl; have hfz25_0 := blk_frozen BK469.out 0; have hfz25_1 := blk_frozen BK469.out 1))
 have n0_ : Aside0 (((w22.setCell ⟨gb469, 0, none⟩ (.int .i64 t467)).setCell ⟨gb469, 1, none⟩ (.int .i64 t468)).heap[gb459]? = some (.cells #[.int .i64 a0_0, .int .i64 a0_1, .int .i64 a0_2, .int .i64 a0_3, .int .i64 a0_4, .int .i64 a0_5, .int .i64 a0_6, .int .i64 a0_7, .int .i64 a0_8, .int .i64 a0_9, .int .i64 a0_10, .int .i64 a0_11] 23 (0, 0))) := ⟨by (with_reducible repeat (first | refine blk_drewN ?_ _ | refine blk_drew ?_ | refine blk_alloc ?_ _)); refine blk_far ?_ NB459_469.out _; (with_reducible repeat (first | refine blk_drewN ?_ _ | refine blk_drew ?_ | refine blk_alloc ?_ _)); refine blk_far ?_ NB459_469.out _; (with_reducible repeat (first | refine blk_drewN ?_ _ | refine blk_drew ?_ | refine blk_alloc ?_ _)); exact BK459.out⟩
 have n1_ : Aside0 (((w22.setCell ⟨gb469, 0, none⟩ (.int .i64 t467)).setCell ⟨gb469, 1, none⟩ (.int .i64 t468)).heap[gb460]? = some (.cells #[.int .i64 0, .int .i64 0] 25 (0, 0))) := ⟨by (with_reducible repeat (first | refine blk_drewN ?_ _ | refine blk_drew ?_ | refine blk_alloc ?_ _)); refine blk_far ?_ NB460_469.out _; (with_reducible repeat (first | refine blk_drewN ?_ _ | refine blk_drew ?_ | refine blk_alloc ?_ _)); refine blk_far ?_ NB460_469.out _; (with_reducible repeat (first | refine blk_drewN ?_ _ | refine blk_drew ?_ | refine blk_alloc ?_ _)); exact BK460.out⟩
 have n2_ : Aside0 (((w22.setCell ⟨gb469, 0, none⟩ (.int .i64 t467)).setCell ⟨gb469, 1, none⟩ (.int .i64 t468)).heap[gb469]? = some (.cells #[.int .i64 t467, .int .i64 t468] 25 (0, 0))) := ⟨by (with_reducible repeat (first | refine blk_drewN ?_ _ | refine blk_drew ?_ | refine blk_alloc ?_ _)); refine blk_put (cs := #[.int .i64 t467, .int .i64 0]) ?_ 1 _ rfl; (with_reducible repeat (first | refine blk_drewN ?_ _ | refine blk_drew ?_ | refine blk_alloc ?_ _)); refine blk_put (cs := #[.int .i64 0, .int .i64 0]) ?_ 0 _ rfl; (with_reducible repeat (first | refine blk_drewN ?_ _ | refine blk_drew ?_ | refine blk_alloc ?_ _)); exact BK469.out⟩
 have n3_ : Aside0 (Below w.heap.size w ((w22.setCell ⟨gb469, 0, none⟩ (.int .i64 t467)).setCell ⟨gb469, 1, none⟩ (.int .i64 t468))) := ⟨by repeat (first | (with_reducible first | exact HB.out | apply below_alloc | apply pw_below_drewN | apply below_drew1 | refine below_set ?_ GE459.out | refine below_set ?_ GE460.out | refine below_set ?_ GE469.out) | exact HB.out)⟩
 (try clear BK459)
 (try clear BK460)
 (try clear BK469)
 (try clear HB)
 generalize ((w22.setCell ⟨gb469, 0, none⟩ (.int .i64 t467)).setCell ⟨gb469, 1, none⟩ (.int .i64 t468)) = w26 at n0_ n1_ n2_ n3_ ⊢
 have BK459 := n0_
 have BK460 := n1_
 have BK469 := n2_
 have HB := n3_
 clear n0_ n1_ n2_ n3_
 have n0_ := Aside0.mk (blk_drew BK459.out)
 have n1_ := Aside0.mk (blk_drew BK460.out)
 have n2_ := Aside0.mk (blk_drew BK469.out)
 have n3_ := Aside0.mk (below_drew1 HB.out)
 clear BK459
 clear BK460
 clear BK469
 clear HB
 have BK459 := n0_
 have BK460 := n1_
 have BK469 := n2_
 have HB := n3_
 clear n0_ n1_ n2_ n3_
 refine start_ (n := 16) (S := fun w' => w'.cell? ⟨gb459, 5, none⟩ = some (.int .i64 a0_5)) (ds := []) #[false, false, false, false, false, false, false, false, false, false, false, false, false, false, false, false] (by kernel_rfl) rfl rfl ((blk_cell BK459.out 5).trans rfl) (fun hHeld => ?_); refine with_tabW clepsydraref10_Ahead.tab6 clepsydraref10_Ahead.bits6 (fun HT_ HW_ => ?_)
 generalize w26.drew = w27 at BK459 BK460 BK469 HB hHeld ⊢
 refine pure_ (i := 0) (N := some 43) (v := ?_) (a' := ?_) #[true, false, false, false, false, false, false, false, false, false, false, false, false, false, false, false] rfl rfl (any_of HT_.out (by kernel_rfl)) (fun _ _ _ h => h) (Or.inl ⟨by rfl, ?_⟩) ?_ ?_
 rotate_left
 ·intro w'
  go_simp
  with_reducible rfl
 rotate_left
 ·simp only [Act.put, List.setIfInBounds_toArray, List.set_cons_zero, List.set_cons_succ, i64_w, i32_w]
  rfl
 refine pure_ (i := 1) (N := some 44) (v := ?_) (a' := ?_) #[true, true, false, false, false, false, false, false, false, false, false, false, false, false, false, false] rfl rfl (any_of HT_.out (by kernel_rfl)) (fun _ _ _ h => h) (Or.inl ⟨by rfl, ?_⟩) ?_ ?_
 rotate_left
 ·intro w'
  go_simp
  with_reducible rfl
 rotate_left
 ·simp only [Act.put, List.setIfInBounds_toArray, List.set_cons_zero, List.set_cons_succ, i64_w, i32_w]
  rfl
 refine pure_ (i := 4) (N := some 47) (v := ?_) (a' := ?_) #[true, true, false, false, true, false, false, false, false, false, false, false, false, false, false, false] rfl rfl (any_of HT_.out (by kernel_rfl)) (fun _ _ _ h => h) (Or.inl ⟨by rfl, ?_⟩) ?_ ?_
 rotate_left
 ·intro w'
  go_simp
  with_reducible rfl
 rotate_left
 ·simp only [Act.put, List.setIfInBounds_toArray, List.set_cons_zero, List.set_cons_succ, i64_w, i32_w]
  rfl
 refine pure_ (i := 5) (N := some 48) (v := ?_) (a' := ?_) #[true, true, false, false, true, true, false, false, false, false, false, false, false, false, false, false] rfl rfl (any_of HT_.out (by kernel_rfl)) (fun _ _ _ h => h) (Or.inl ⟨by rfl, ?_⟩) ?_ ?_
 rotate_left
 ·intro w'
  go_simp
  with_reducible rfl
 rotate_left
 ·simp only [Act.put, List.setIfInBounds_toArray, List.set_cons_zero, List.set_cons_succ, i64_w, i32_w]
  rfl
 refine pure_ (i := 10) (N := some 53) (v := ?_) (a' := ?_) #[true, true, false, false, true, true, false, false, false, false, true, false, false, false, false, false] rfl rfl (any_of HT_.out (by kernel_rfl)) (fun _ _ _ h => h) (Or.inl ⟨by rfl, ?_⟩) ?_ ?_
 rotate_left
 ·intro w'
  go_simp
  with_reducible rfl
 rotate_left
 ·simp only [Act.put, List.setIfInBounds_toArray, List.set_cons_zero, List.set_cons_succ, i64_w, i32_w]
  rfl
 refine pure_ (i := 11) (N := some 54) (v := ?_) (a' := ?_) #[true, true, false, false, true, true, false, false, false, false, true, true, false, false, false, false] rfl rfl (any_of HT_.out (by kernel_rfl)) (fun _ _ _ h => h) (Or.inl ⟨by rfl, ?_⟩) ?_ ?_
 rotate_left
 ·intro w'
  go_simp
  with_reducible rfl
 rotate_left
 ·simp only [Act.put, List.setIfInBounds_toArray, List.set_cons_zero, List.set_cons_succ, i64_w, i32_w]
  rfl
 refine pure_ (i := 12) (N := some 55) (v := ?_) (a' := ?_) #[true, true, false, false, true, true, false, false, false, false, true, true, true, false, false, false] rfl rfl (any_of HT_.out (by kernel_rfl)) (fun _ _ _ h => h) (Or.inl ⟨by rfl, ?_⟩) ?_ ?_
 rotate_left
 ·intro w'
  go_simp
  with_reducible rfl
 rotate_left
 ·simp only [Act.put, List.setIfInBounds_toArray, List.set_cons_zero, List.set_cons_succ, i64_w, i32_w]
  rfl
 refine take_ (i := 6) (N := some 49) (v := ?_) (a' := ?_) #[true, true, false, false, true, true, true, false, false, false, true, true, true, false, false, false] rfl rfl (take_ofW HT_.out HW_.out (by kernel_rfl)) (fun _ _ _ h => h) (Or.inl ⟨by rfl, ?_⟩) hHeld ?_ ?_
 rotate_left
 ·intro w' s0
  go_simp
  with_reducible rfl
 rotate_left
 ·simp only [Act.put, List.setIfInBounds_toArray, List.set_cons_zero, List.set_cons_succ, i64_w, i32_w]
  rfl
 refine join_ (σ := Value × Value × Nat) 1 #[true, true, true, true, true, true, true, true, true, true, true, true, true, true, true, false] (fun s_ => [(45, s_.1), (46, .int .i64 t473), (50, s_.2.1), (51, .int .i64 t477), (56, .agg #[.int .i64 t478, .int .i64 t479]), (16, .pointer (some ⟨s_.2.2, 0, none⟩)), (52, .agg #[.int .i64 t473, .int .i64 t477])]) (fun s_ w' => (w'.cell? ⟨gb459, 5, none⟩ = some (.int .i64 a0_5)) ∧ (Kd.R (Kd.int .i64) 3 w' w.heap.size (fun k_ => some k_ ≠ (s_.2.1 : Value).ownBlock) s_.1 y470) ∧ (Kd.R (Kd.int .i64) 3 w' w.heap.size (fun k_ => some k_ ≠ (s_.1 : Value).ownBlock) s_.2.1 y474) ∧ (w'.heap[gb459]? = some (.cells #[.int .i64 a0_0, .int .i64 a0_1, .int .i64 a0_2, .int .i64 a0_3, .int .i64 a0_4, .int .i64 a0_5, .int .i64 a0_6, .int .i64 a0_7, .int .i64 a0_8, .int .i64 a0_9, .int .i64 a0_10, .int .i64 a0_11] 23 (0, 0))) ∧ (w'.heap[gb460]? = some (.cells #[.int .i64 0, .int .i64 0] 25 (0, 0))) ∧ (w'.heap[gb469]? = some (.cells #[.int .i64 t467, .int .i64 t468] 25 (0, 0))) ∧ (w'.heap[s_.2.2]? = some (.cells #[.int .i64 0, .int .i64 0] 25 (0, 0))) ∧ (w.heap.size ≤ s_.2.2) ∧ (w.heap.size ≤ s_.2.2) ∧ (gb459 ≠ s_.2.2) ∧ (s_.2.2 ≠ gb459) ∧ (gb460 ≠ s_.2.2) ∧ (s_.2.2 ≠ gb460) ∧ (gb469 ≠ s_.2.2) ∧ (s_.2.2 ≠ gb469) ∧ (Below w.heap.size w w')) ?_ ?_
 rotate_left
 ·intro hJ2_3_7_8_13_14
  refine join_ (σ := Value × Value) 2 #[true, true, true, true, true, true, true, true, true, true, true, true, true, true, false, false] (fun s_ => [(45, s_.1), (46, .int .i64 t473), (50, s_.2), (51, .int .i64 t477), (56, .agg #[.int .i64 t478, .int .i64 t479]), (52, .agg #[.int .i64 t473, .int .i64 t477])]) (fun s_ w' => (w'.cell? ⟨gb459, 5, none⟩ = some (.int .i64 a0_5)) ∧ (Kd.R (Kd.int .i64) 3 w' w.heap.size (fun k_ => some k_ ≠ (s_.2 : Value).ownBlock) s_.1 y470) ∧ (Kd.R (Kd.int .i64) 3 w' w.heap.size (fun k_ => some k_ ≠ (s_.1 : Value).ownBlock) s_.2 y474) ∧ (w'.heap[gb459]? = some (.cells #[.int .i64 a0_0, .int .i64 a0_1, .int .i64 a0_2, .int .i64 a0_3, .int .i64 a0_4, .int .i64 a0_5, .int .i64 a0_6, .int .i64 a0_7, .int .i64 a0_8, .int .i64 a0_9, .int .i64 a0_10, .int .i64 a0_11] 23 (0, 0))) ∧ (w'.heap[gb460]? = some (.cells #[.int .i64 0, .int .i64 0] 25 (0, 0))) ∧ (w'.heap[gb469]? = some (.cells #[.int .i64 t467, .int .i64 t468] 25 (0, 0))) ∧ (Below w.heap.size w w')) ?_ ?_
  rotate_left
  ·intro hJ2_3_7_8_13
   refine join_ (σ := Value × Value × Nat) 2 #[true, true, true, true, true, true, true, true, true, true, true, true, true, false, true, false] (fun s_ => [(45, s_.1), (46, .int .i64 t473), (50, s_.2.1), (51, .int .i64 t477), (16, .pointer (some ⟨s_.2.2, 0, none⟩)), (52, .agg #[.int .i64 t473, .int .i64 t477])]) (fun s_ w' => (w'.cell? ⟨gb459, 5, none⟩ = some (.int .i64 a0_5)) ∧ (Kd.R (Kd.int .i64) 3 w' w.heap.size (fun k_ => some k_ ≠ (s_.2.1 : Value).ownBlock) s_.1 y470) ∧ (Kd.R (Kd.int .i64) 3 w' w.heap.size (fun k_ => some k_ ≠ (s_.1 : Value).ownBlock) s_.2.1 y474) ∧ (w'.heap[gb459]? = some (.cells #[.int .i64 a0_0, .int .i64 a0_1, .int .i64 a0_2, .int .i64 a0_3, .int .i64 a0_4, .int .i64 a0_5, .int .i64 a0_6, .int .i64 a0_7, .int .i64 a0_8, .int .i64 a0_9, .int .i64 a0_10, .int .i64 a0_11] 23 (0, 0))) ∧ (w'.heap[gb460]? = some (.cells #[.int .i64 0, .int .i64 0] 25 (0, 0))) ∧ (w'.heap[gb469]? = some (.cells #[.int .i64 t467, .int .i64 t468] 25 (0, 0))) ∧ (w'.heap[s_.2.2]? = some (.cells #[.int .i64 0, .int .i64 0] 25 (0, 0))) ∧ (w.heap.size ≤ s_.2.2) ∧ (w.heap.size ≤ s_.2.2) ∧ (gb459 ≠ s_.2.2) ∧ (s_.2.2 ≠ gb459) ∧ (gb460 ≠ s_.2.2) ∧ (s_.2.2 ≠ gb460) ∧ (gb469 ≠ s_.2.2) ∧ (s_.2.2 ≠ gb469) ∧ (Below w.heap.size w w')) ?_ ?_
   rotate_left
   ·intro hJ2_3_7_8_14
    refine join_ (σ := Value × Value) 3 #[true, true, true, true, true, true, true, true, true, true, true, true, true, false, false, false] (fun s_ => [(45, s_.1), (46, .int .i64 t473), (50, s_.2), (51, .int .i64 t477), (52, .agg #[.int .i64 t473, .int .i64 t477])]) (fun s_ w' => (w'.cell? ⟨gb459, 5, none⟩ = some (.int .i64 a0_5)) ∧ (Kd.R (Kd.int .i64) 3 w' w.heap.size (fun k_ => some k_ ≠ (s_.2 : Value).ownBlock) s_.1 y470) ∧ (Kd.R (Kd.int .i64) 3 w' w.heap.size (fun k_ => some k_ ≠ (s_.1 : Value).ownBlock) s_.2 y474) ∧ (w'.heap[gb459]? = some (.cells #[.int .i64 a0_0, .int .i64 a0_1, .int .i64 a0_2, .int .i64 a0_3, .int .i64 a0_4, .int .i64 a0_5, .int .i64 a0_6, .int .i64 a0_7, .int .i64 a0_8, .int .i64 a0_9, .int .i64 a0_10, .int .i64 a0_11] 23 (0, 0))) ∧ (w'.heap[gb460]? = some (.cells #[.int .i64 0, .int .i64 0] 25 (0, 0))) ∧ (w'.heap[gb469]? = some (.cells #[.int .i64 t467, .int .i64 t468] 25 (0, 0))) ∧ (Below w.heap.size w w')) ?_ ?_
    rotate_left
    ·intro hJ2_3_7_8
     refine join_ (σ := Value × Value × Nat) 4 #[true, true, true, true, true, true, true, true, false, false, true, true, true, false, true, false] (fun s_ => [(45, s_.1), (46, .int .i64 t473), (50, s_.2.1), (16, .pointer (some ⟨s_.2.2, 0, none⟩))]) (fun s_ w' => (w'.cell? ⟨gb459, 5, none⟩ = some (.int .i64 a0_5)) ∧ (Kd.R (Kd.int .i64) 3 w' w.heap.size (fun k_ => some k_ ≠ (s_.2.1 : Value).ownBlock) s_.1 y470) ∧ (Kd.R (Kd.int .i64) 3 w' w.heap.size (fun k_ => some k_ ≠ (s_.1 : Value).ownBlock) s_.2.1 y474) ∧ (w'.heap[gb459]? = some (.cells #[.int .i64 a0_0, .int .i64 a0_1, .int .i64 a0_2, .int .i64 a0_3, .int .i64 a0_4, .int .i64 a0_5, .int .i64 a0_6, .int .i64 a0_7, .int .i64 a0_8, .int .i64 a0_9, .int .i64 a0_10, .int .i64 a0_11] 23 (0, 0))) ∧ (w'.heap[gb460]? = some (.cells #[.int .i64 0, .int .i64 0] 25 (0, 0))) ∧ (w'.heap[gb469]? = some (.cells #[.int .i64 t467, .int .i64 t468] 25 (0, 0))) ∧ (w'.heap[s_.2.2]? = some (.cells #[.int .i64 0, .int .i64 0] 25 (0, 0))) ∧ (w.heap.size ≤ s_.2.2) ∧ (w.heap.size ≤ s_.2.2) ∧ (gb459 ≠ s_.2.2) ∧ (s_.2.2 ≠ gb459) ∧ (gb460 ≠ s_.2.2) ∧ (s_.2.2 ≠ gb460) ∧ (gb469 ≠ s_.2.2) ∧ (s_.2.2 ≠ gb469) ∧ (Below w.heap.size w w')) ?_ ?_
     rotate_left
     ·intro hJ2_3_7_14
      refine join_ (σ := Value × Value) 5 #[true, true, true, true, true, true, true, true, false, false, true, true, true, false, false, false] (fun s_ => [(45, s_.1), (46, .int .i64 t473), (50, s_.2)]) (fun s_ w' => (w'.cell? ⟨gb459, 5, none⟩ = some (.int .i64 a0_5)) ∧ (Kd.R (Kd.int .i64) 3 w' w.heap.size (fun k_ => some k_ ≠ (s_.2 : Value).ownBlock) s_.1 y470) ∧ (Kd.R (Kd.int .i64) 3 w' w.heap.size (fun k_ => some k_ ≠ (s_.1 : Value).ownBlock) s_.2 y474) ∧ (w'.heap[gb459]? = some (.cells #[.int .i64 a0_0, .int .i64 a0_1, .int .i64 a0_2, .int .i64 a0_3, .int .i64 a0_4, .int .i64 a0_5, .int .i64 a0_6, .int .i64 a0_7, .int .i64 a0_8, .int .i64 a0_9, .int .i64 a0_10, .int .i64 a0_11] 23 (0, 0))) ∧ (w'.heap[gb460]? = some (.cells #[.int .i64 0, .int .i64 0] 25 (0, 0))) ∧ (w'.heap[gb469]? = some (.cells #[.int .i64 t467, .int .i64 t468] 25 (0, 0))) ∧ (Below w.heap.size w w')) ?_ ?_
      rotate_left
      ·intro hJ2_3_7
       refine join_ (σ := Value × Nat) 5 #[true, true, true, true, true, true, true, false, false, false, true, true, true, false, true, false] (fun s_ => [(45, s_.1), (46, .int .i64 t473), (16, .pointer (some ⟨s_.2, 0, none⟩))]) (fun s_ w' => (w'.cell? ⟨gb459, 5, none⟩ = some (.int .i64 a0_5)) ∧ (Kd.R (Kd.int .i64) 3 w' w.heap.size (fun _ => True) s_.1 y470) ∧ (w'.heap[gb459]? = some (.cells #[.int .i64 a0_0, .int .i64 a0_1, .int .i64 a0_2, .int .i64 a0_3, .int .i64 a0_4, .int .i64 a0_5, .int .i64 a0_6, .int .i64 a0_7, .int .i64 a0_8, .int .i64 a0_9, .int .i64 a0_10, .int .i64 a0_11] 23 (0, 0))) ∧ (w'.heap[gb460]? = some (.cells #[.int .i64 0, .int .i64 0] 25 (0, 0))) ∧ (w'.heap[gb469]? = some (.cells #[.int .i64 t467, .int .i64 t468] 25 (0, 0))) ∧ (w'.heap[s_.2]? = some (.cells #[.int .i64 0, .int .i64 0] 25 (0, 0))) ∧ (w.heap.size ≤ s_.2) ∧ (w.heap.size ≤ s_.2) ∧ (gb459 ≠ s_.2) ∧ (s_.2 ≠ gb459) ∧ (gb460 ≠ s_.2) ∧ (s_.2 ≠ gb460) ∧ (gb469 ≠ s_.2) ∧ (s_.2 ≠ gb469) ∧ (Below w.heap.size w w')) ?_ ?_
       rotate_left
       ·intro hJ2_3_14
        refine join_ (σ := Value × Value × Nat) 5 #[true, true, true, false, true, true, true, true, false, false, true, true, true, false, true, false] (fun s_ => [(45, s_.1), (50, s_.2.1), (16, .pointer (some ⟨s_.2.2, 0, none⟩))]) (fun s_ w' => (w'.cell? ⟨gb459, 5, none⟩ = some (.int .i64 a0_5)) ∧ (Kd.R (Kd.int .i64) 3 w' w.heap.size (fun k_ => some k_ ≠ (s_.2.1 : Value).ownBlock) s_.1 y470) ∧ (Kd.R (Kd.int .i64) 3 w' w.heap.size (fun k_ => some k_ ≠ (s_.1 : Value).ownBlock) s_.2.1 y474) ∧ (w'.heap[gb459]? = some (.cells #[.int .i64 a0_0, .int .i64 a0_1, .int .i64 a0_2, .int .i64 a0_3, .int .i64 a0_4, .int .i64 a0_5, .int .i64 a0_6, .int .i64 a0_7, .int .i64 a0_8, .int .i64 a0_9, .int .i64 a0_10, .int .i64 a0_11] 23 (0, 0))) ∧ (w'.heap[gb460]? = some (.cells #[.int .i64 0, .int .i64 0] 25 (0, 0))) ∧ (w'.heap[gb469]? = some (.cells #[.int .i64 t467, .int .i64 t468] 25 (0, 0))) ∧ (w'.heap[s_.2.2]? = some (.cells #[.int .i64 0, .int .i64 0] 25 (0, 0))) ∧ (w.heap.size ≤ s_.2.2) ∧ (w.heap.size ≤ s_.2.2) ∧ (gb459 ≠ s_.2.2) ∧ (s_.2.2 ≠ gb459) ∧ (gb460 ≠ s_.2.2) ∧ (s_.2.2 ≠ gb460) ∧ (gb469 ≠ s_.2.2) ∧ (s_.2.2 ≠ gb469) ∧ (Below w.heap.size w w')) ?_ ?_
        rotate_left
        ·intro hJ2_7_14
         refine join_ (σ := Value) 6 #[true, true, true, true, true, true, true, false, false, false, true, true, true, false, false, false] (fun s_ => [(45, s_), (46, .int .i64 t473)]) (fun s_ w' => (w'.cell? ⟨gb459, 5, none⟩ = some (.int .i64 a0_5)) ∧ (Kd.R (Kd.int .i64) 3 w' w.heap.size (fun _ => True) s_ y470) ∧ (w'.heap[gb459]? = some (.cells #[.int .i64 a0_0, .int .i64 a0_1, .int .i64 a0_2, .int .i64 a0_3, .int .i64 a0_4, .int .i64 a0_5, .int .i64 a0_6, .int .i64 a0_7, .int .i64 a0_8, .int .i64 a0_9, .int .i64 a0_10, .int .i64 a0_11] 23 (0, 0))) ∧ (w'.heap[gb460]? = some (.cells #[.int .i64 0, .int .i64 0] 25 (0, 0))) ∧ (w'.heap[gb469]? = some (.cells #[.int .i64 t467, .int .i64 t468] 25 (0, 0))) ∧ (Below w.heap.size w w')) ?_ ?_
         rotate_left
         ·intro hJ2_3
          refine join_ (σ := Value × Value) 6 #[true, true, true, false, true, true, true, true, false, false, true, true, true, false, false, false] (fun s_ => [(45, s_.1), (50, s_.2)]) (fun s_ w' => (w'.cell? ⟨gb459, 5, none⟩ = some (.int .i64 a0_5)) ∧ (Kd.R (Kd.int .i64) 3 w' w.heap.size (fun k_ => some k_ ≠ (s_.2 : Value).ownBlock) s_.1 y470) ∧ (Kd.R (Kd.int .i64) 3 w' w.heap.size (fun k_ => some k_ ≠ (s_.1 : Value).ownBlock) s_.2 y474) ∧ (w'.heap[gb459]? = some (.cells #[.int .i64 a0_0, .int .i64 a0_1, .int .i64 a0_2, .int .i64 a0_3, .int .i64 a0_4, .int .i64 a0_5, .int .i64 a0_6, .int .i64 a0_7, .int .i64 a0_8, .int .i64 a0_9, .int .i64 a0_10, .int .i64 a0_11] 23 (0, 0))) ∧ (w'.heap[gb460]? = some (.cells #[.int .i64 0, .int .i64 0] 25 (0, 0))) ∧ (w'.heap[gb469]? = some (.cells #[.int .i64 t467, .int .i64 t468] 25 (0, 0))) ∧ (Below w.heap.size w w')) ?_ ?_
          rotate_left
          ·intro hJ2_7
           refine join_ (σ := Value × Nat) 6 #[true, true, true, false, true, true, true, false, false, false, true, true, true, false, true, false] (fun s_ => [(45, s_.1), (16, .pointer (some ⟨s_.2, 0, none⟩))]) (fun s_ w' => (w'.cell? ⟨gb459, 5, none⟩ = some (.int .i64 a0_5)) ∧ (Kd.R (Kd.int .i64) 3 w' w.heap.size (fun _ => True) s_.1 y470) ∧ (w'.heap[gb459]? = some (.cells #[.int .i64 a0_0, .int .i64 a0_1, .int .i64 a0_2, .int .i64 a0_3, .int .i64 a0_4, .int .i64 a0_5, .int .i64 a0_6, .int .i64 a0_7, .int .i64 a0_8, .int .i64 a0_9, .int .i64 a0_10, .int .i64 a0_11] 23 (0, 0))) ∧ (w'.heap[gb460]? = some (.cells #[.int .i64 0, .int .i64 0] 25 (0, 0))) ∧ (w'.heap[gb469]? = some (.cells #[.int .i64 t467, .int .i64 t468] 25 (0, 0))) ∧ (w'.heap[s_.2]? = some (.cells #[.int .i64 0, .int .i64 0] 25 (0, 0))) ∧ (w.heap.size ≤ s_.2) ∧ (w.heap.size ≤ s_.2) ∧ (gb459 ≠ s_.2) ∧ (s_.2 ≠ gb459) ∧ (gb460 ≠ s_.2) ∧ (s_.2 ≠ gb460) ∧ (gb469 ≠ s_.2) ∧ (s_.2 ≠ gb469) ∧ (Below w.heap.size w w')) ?_ ?_
           rotate_left
           ·intro hJ2_14
            refine join_ (σ := Value × Nat) 6 #[true, true, false, false, true, true, true, true, false, false, true, true, true, false, true, false] (fun s_ => [(50, s_.1), (16, .pointer (some ⟨s_.2, 0, none⟩))]) (fun s_ w' => (w'.cell? ⟨gb459, 5, none⟩ = some (.int .i64 a0_5)) ∧ (Kd.R (Kd.int .i64) 3 w' w.heap.size (fun _ => True) s_.1 y474) ∧ (w'.heap[gb459]? = some (.cells #[.int .i64 a0_0, .int .i64 a0_1, .int .i64 a0_2, .int .i64 a0_3, .int .i64 a0_4, .int .i64 a0_5, .int .i64 a0_6, .int .i64 a0_7, .int .i64 a0_8, .int .i64 a0_9, .int .i64 a0_10, .int .i64 a0_11] 23 (0, 0))) ∧ (w'.heap[gb460]? = some (.cells #[.int .i64 0, .int .i64 0] 25 (0, 0))) ∧ (w'.heap[gb469]? = some (.cells #[.int .i64 t467, .int .i64 t468] 25 (0, 0))) ∧ (w'.heap[s_.2]? = some (.cells #[.int .i64 0, .int .i64 0] 25 (0, 0))) ∧ (w.heap.size ≤ s_.2) ∧ (w.heap.size ≤ s_.2) ∧ (gb459 ≠ s_.2) ∧ (s_.2 ≠ gb459) ∧ (gb460 ≠ s_.2) ∧ (s_.2 ≠ gb460) ∧ (gb469 ≠ s_.2) ∧ (s_.2 ≠ gb469) ∧ (Below w.heap.size w w')) ?_ ?_
            rotate_left
            ·intro hJ7_14
             refine join_ (σ := Value) 7 #[true, true, true, false, true, true, true, false, false, false, true, true, true, false, false, false] (fun s_ => [(45, s_)]) (fun s_ w' => (w'.cell? ⟨gb459, 5, none⟩ = some (.int .i64 a0_5)) ∧ (Kd.R (Kd.int .i64) 3 w' w.heap.size (fun _ => True) s_ y470) ∧ (w'.heap[gb459]? = some (.cells #[.int .i64 a0_0, .int .i64 a0_1, .int .i64 a0_2, .int .i64 a0_3, .int .i64 a0_4, .int .i64 a0_5, .int .i64 a0_6, .int .i64 a0_7, .int .i64 a0_8, .int .i64 a0_9, .int .i64 a0_10, .int .i64 a0_11] 23 (0, 0))) ∧ (w'.heap[gb460]? = some (.cells #[.int .i64 0, .int .i64 0] 25 (0, 0))) ∧ (w'.heap[gb469]? = some (.cells #[.int .i64 t467, .int .i64 t468] 25 (0, 0))) ∧ (Below w.heap.size w w')) ?_ ?_
             rotate_left
             ·intro hJ2
              refine join_ (σ := Value) 7 #[true, true, false, false, true, true, true, true, false, false, true, true, true, false, false, false] (fun s_ => [(50, s_)]) (fun s_ w' => (w'.cell? ⟨gb459, 5, none⟩ = some (.int .i64 a0_5)) ∧ (Kd.R (Kd.int .i64) 3 w' w.heap.size (fun _ => True) s_ y474) ∧ (w'.heap[gb459]? = some (.cells #[.int .i64 a0_0, .int .i64 a0_1, .int .i64 a0_2, .int .i64 a0_3, .int .i64 a0_4, .int .i64 a0_5, .int .i64 a0_6, .int .i64 a0_7, .int .i64 a0_8, .int .i64 a0_9, .int .i64 a0_10, .int .i64 a0_11] 23 (0, 0))) ∧ (w'.heap[gb460]? = some (.cells #[.int .i64 0, .int .i64 0] 25 (0, 0))) ∧ (w'.heap[gb469]? = some (.cells #[.int .i64 t467, .int .i64 t468] 25 (0, 0))) ∧ (Below w.heap.size w w')) ?_ ?_
              rotate_left
              ·intro hJ7
               refine join_ (σ := Nat) 7 #[true, true, false, false, true, true, true, false, false, false, true, true, true, false, true, false] (fun s_ => [(16, .pointer (some ⟨s_, 0, none⟩))]) (fun s_ w' => (w'.cell? ⟨gb459, 5, none⟩ = some (.int .i64 a0_5)) ∧ (w'.heap[gb459]? = some (.cells #[.int .i64 a0_0, .int .i64 a0_1, .int .i64 a0_2, .int .i64 a0_3, .int .i64 a0_4, .int .i64 a0_5, .int .i64 a0_6, .int .i64 a0_7, .int .i64 a0_8, .int .i64 a0_9, .int .i64 a0_10, .int .i64 a0_11] 23 (0, 0))) ∧ (w'.heap[gb460]? = some (.cells #[.int .i64 0, .int .i64 0] 25 (0, 0))) ∧ (w'.heap[gb469]? = some (.cells #[.int .i64 t467, .int .i64 t468] 25 (0, 0))) ∧ (w'.heap[s_]? = some (.cells #[.int .i64 0, .int .i64 0] 25 (0, 0))) ∧ (w.heap.size ≤ s_) ∧ (w.heap.size ≤ s_) ∧ (gb459 ≠ s_) ∧ (s_ ≠ gb459) ∧ (gb460 ≠ s_) ∧ (s_ ≠ gb460) ∧ (gb469 ≠ s_) ∧ (s_ ≠ gb469) ∧ (Below w.heap.size w w')) ?_ ?_
               rotate_left
               ·intro hJ14
                refine three_ (i := 2) (j := 7) (k := 14) (Ni := some 45) (Nj := some 50) (Nk := some 16) #[true, true, true, false, true, true, true, false, false, false, true, true, true, false, false, false] #[true, true, false, false, true, true, true, true, false, false, true, true, true, false, false, false] #[true, true, false, false, true, true, true, false, false, false, true, true, true, false, true, false] rfl rfl rfl rfl rfl rfl (three_of HT_.out (by kernel_rfl)) (by decide) (by decide) (by decide) (fun K hK => ?_) (fun K hK => ?_) (fun K hK => ?_)
                ·skip
                 refine Kd.R_lit_step (Kd.int .i64) _ 3 ?hg (N := 45) ?hd (xs := ([t462, t463] : List Int)) (inner := [.int .i64 t462, .int .i64 t463]) (ok := fun _ => True) (okp := fun _ => True) ?hr ?hp (fun _ hk => hk) trivial (Below.refl _ _) (Nat.le_refl _) (by simp) ?_; (case hd => rfl); (case hg => rfl); (case hr => first | (go_simp; done) | (go_simp; rfl)); (case hp => exact (Reps.one (show Kd.M (Kd.int .i64) _ _ _ t462 [.int .i64 t462] from rfl) (Reps.one (show Kd.M (Kd.int .i64) _ _ _ t463 [.int .i64 t463] from rfl) (Reps.none _ _))))
                 intro v471 w28 ho29 hb hg_ hnew_
                 clear hg_ hnew_
                 (first | rw [← Ny470.out] at ho29 | (simp only [Int.reduceToNat] at ho29; rw [← Ny470.out] at ho29))
                 have n0_ := Aside0.mk (Kd.R_lower ho29 (below_size (by repeat (first | (with_reducible first | exact HB.out | apply below_alloc | apply pw_below_drewN | apply below_drew1 | refine below_set ?_ GE459.out | refine below_set ?_ GE460.out | refine below_set ?_ GE469.out) | exact HB.out))))
                 have n1_ := Aside0.mk (blk_below (g := gb459) (o := .cells #[.int .i64 a0_0, .int .i64 a0_1, .int .i64 a0_2, .int .i64 a0_3, .int .i64 a0_4, .int .i64 a0_5, .int .i64 a0_6, .int .i64 a0_7, .int .i64 a0_8, .int .i64 a0_9, .int .i64 a0_10, .int .i64 a0_11] 23 (0, 0)) (by (with_reducible repeat (first | refine blk_drewN ?_ _ | refine blk_drew ?_ | refine blk_alloc ?_ _)); exact BK459.out) hb)
                 have n2_ := Aside0.mk (blk_below (g := gb460) (o := .cells #[.int .i64 0, .int .i64 0] 25 (0, 0)) (by (with_reducible repeat (first | refine blk_drewN ?_ _ | refine blk_drew ?_ | refine blk_alloc ?_ _)); exact BK460.out) hb)
                 have n3_ := Aside0.mk (blk_below (g := gb469) (o := .cells #[.int .i64 t467, .int .i64 t468] 25 (0, 0)) (by (with_reducible repeat (first | refine blk_drewN ?_ _ | refine blk_drew ?_ | refine blk_alloc ?_ _)); exact BK469.out) hb)
                 have n4_ := Aside0.mk (below_step (by repeat (first | (with_reducible first | exact HB.out | apply below_alloc | apply pw_below_drewN | apply below_drew1 | refine below_set ?_ GE459.out | refine below_set ?_ GE460.out | refine below_set ?_ GE469.out) | exact HB.out)) hb)
                 clear BK459
                 clear BK460
                 clear BK469
                 clear HB
                 have HO472 := n0_
                 have BK459 := n1_
                 have BK460 := n2_
                 have BK469 := n3_
                 have HB := n4_
                 clear n0_ n1_ n2_ n3_ n4_
                 clear hb ho29
                 refine hK.out _ _ ((blk_cell BK459.out 5).trans rfl) (fun hHeld => ?_)
                 clear hK K
                 refine norm_ (a' := ?_) ?_ ?_
                 rotate_left
                 ·show Act.put _ (some 45) _ = _
                  simp only [Act.put, List.setIfInBounds_toArray, List.set_cons_zero, List.set_cons_succ, i64_w, i32_w]
                  rfl
                 exact norm_ (by first | (simp only [putAll, Act.put, List.setIfInBounds_toArray, List.set_cons_zero, List.set_cons_succ]; done) | (simp only [putAll, Act.put, List.setIfInBounds_toArray, List.set_cons_zero, List.set_cons_succ]; rfl)) (hJ2 (v471) _ ⟨hHeld, (by (with_reducible repeat (first | apply Kd.R_alloc | apply Kd.R_drewN | apply Kd.R_drew)); exact HO472.out), (by (with_reducible repeat (first | refine blk_drewN ?_ _ | refine blk_drew ?_ | refine blk_alloc ?_ _)); exact BK459.out), (by (with_reducible repeat (first | refine blk_drewN ?_ _ | refine blk_drew ?_ | refine blk_alloc ?_ _)); exact BK460.out), (by (with_reducible repeat (first | refine blk_drewN ?_ _ | refine blk_drew ?_ | refine blk_alloc ?_ _)); exact BK469.out), (by repeat (first | (with_reducible first | exact HB.out | apply below_alloc | apply pw_below_drewN | apply below_drew1 | refine below_set ?_ GE459.out | refine below_set ?_ GE460.out | refine below_set ?_ GE469.out) | exact HB.out))⟩)
                ·skip
                 refine Kd.R_lit_step (Kd.int .i64) _ 3 ?hg (N := 50) ?hd (xs := ([t462, a0_5] : List Int)) (inner := [.int .i64 t462, .int .i64 a0_5]) (ok := fun _ => True) (okp := fun _ => True) ?hr ?hp (fun _ hk => hk) trivial (Below.refl _ _) (Nat.le_refl _) (by simp) ?_; (case hd => rfl); (case hg => rfl); (case hr => first | (go_simp; done) | (go_simp; rfl)); (case hp => exact (Reps.one (show Kd.M (Kd.int .i64) _ _ _ t462 [.int .i64 t462] from rfl) (Reps.one (show Kd.M (Kd.int .i64) _ _ _ a0_5 [.int .i64 a0_5] from rfl) (Reps.none _ _))))
                 intro v475 w28 ho29 hb hg_ hnew_
                 clear hg_ hnew_
                 (first | rw [← Ny474.out] at ho29 | (simp only [Int.reduceToNat] at ho29; rw [← Ny474.out] at ho29))
                 have n0_ := Aside0.mk (Kd.R_lower ho29 (below_size (by repeat (first | (with_reducible first | exact HB.out | apply below_alloc | apply pw_below_drewN | apply below_drew1 | refine below_set ?_ GE459.out | refine below_set ?_ GE460.out | refine below_set ?_ GE469.out) | exact HB.out))))
                 have n1_ := Aside0.mk (blk_below (g := gb459) (o := .cells #[.int .i64 a0_0, .int .i64 a0_1, .int .i64 a0_2, .int .i64 a0_3, .int .i64 a0_4, .int .i64 a0_5, .int .i64 a0_6, .int .i64 a0_7, .int .i64 a0_8, .int .i64 a0_9, .int .i64 a0_10, .int .i64 a0_11] 23 (0, 0)) (by (with_reducible repeat (first | refine blk_drewN ?_ _ | refine blk_drew ?_ | refine blk_alloc ?_ _)); exact BK459.out) hb)
                 have n2_ := Aside0.mk (blk_below (g := gb460) (o := .cells #[.int .i64 0, .int .i64 0] 25 (0, 0)) (by (with_reducible repeat (first | refine blk_drewN ?_ _ | refine blk_drew ?_ | refine blk_alloc ?_ _)); exact BK460.out) hb)
                 have n3_ := Aside0.mk (blk_below (g := gb469) (o := .cells #[.int .i64 t467, .int .i64 t468] 25 (0, 0)) (by (with_reducible repeat (first | refine blk_drewN ?_ _ | refine blk_drew ?_ | refine blk_alloc ?_ _)); exact BK469.out) hb)
                 have n4_ := Aside0.mk (below_step (by repeat (first | (with_reducible first | exact HB.out | apply below_alloc | apply pw_below_drewN | apply below_drew1 | refine below_set ?_ GE459.out | refine below_set ?_ GE460.out | refine below_set ?_ GE469.out) | exact HB.out)) hb)
                 clear BK459
                 clear BK460
                 clear BK469
                 clear HB
                 have HO476 := n0_
                 have BK459 := n1_
                 have BK460 := n2_
                 have BK469 := n3_
                 have HB := n4_
                 clear n0_ n1_ n2_ n3_ n4_
                 clear hb ho29
                 refine hK.out _ _ ((blk_cell BK459.out 5).trans rfl) (fun hHeld => ?_)
                 clear hK K
                 refine norm_ (a' := ?_) ?_ ?_
                 rotate_left
                 ·show Act.put _ (some 50) _ = _
                  simp only [Act.put, List.setIfInBounds_toArray, List.set_cons_zero, List.set_cons_succ, i64_w, i32_w]
                  rfl
                 exact norm_ (by first | (simp only [putAll, Act.put, List.setIfInBounds_toArray, List.set_cons_zero, List.set_cons_succ]; done) | (simp only [putAll, Act.put, List.setIfInBounds_toArray, List.set_cons_zero, List.set_cons_succ]; rfl)) (hJ7 (v475) _ ⟨hHeld, (by (with_reducible repeat (first | apply Kd.R_alloc | apply Kd.R_drewN | apply Kd.R_drew)); exact HO476.out), (by (with_reducible repeat (first | refine blk_drewN ?_ _ | refine blk_drew ?_ | refine blk_alloc ?_ _)); exact BK459.out), (by (with_reducible repeat (first | refine blk_drewN ?_ _ | refine blk_drew ?_ | refine blk_alloc ?_ _)); exact BK460.out), (by (with_reducible repeat (first | refine blk_drewN ?_ _ | refine blk_drew ?_ | refine blk_alloc ?_ _)); exact BK469.out), (by repeat (first | (with_reducible first | exact HB.out | apply below_alloc | apply pw_below_drewN | apply below_drew1 | refine below_set ?_ GE459.out | refine below_set ?_ GE460.out | refine below_set ?_ GE469.out) | exact HB.out))⟩)
                ·skip
                 refine box_step ?hg (N := 16) ?hd (cs := #[.int .i64 0, .int .i64 0]) (t := 25) ?hr ?_; (case hd => rfl); (case hg => rfl); (case hr => first | (go_simp; done) | (go_simp; rfl))
                 intro gb480 hg w28 hbox hb
                 have n0_ := Aside0.mk (blk_below (g := gb459) (o := .cells #[.int .i64 a0_0, .int .i64 a0_1, .int .i64 a0_2, .int .i64 a0_3, .int .i64 a0_4, .int .i64 a0_5, .int .i64 a0_6, .int .i64 a0_7, .int .i64 a0_8, .int .i64 a0_9, .int .i64 a0_10, .int .i64 a0_11] 23 (0, 0)) (by (with_reducible repeat (first | refine blk_drewN ?_ _ | refine blk_drew ?_ | refine blk_alloc ?_ _)); exact BK459.out) hb)
                 have n1_ := Aside0.mk (blk_below (g := gb460) (o := .cells #[.int .i64 0, .int .i64 0] 25 (0, 0)) (by (with_reducible repeat (first | refine blk_drewN ?_ _ | refine blk_drew ?_ | refine blk_alloc ?_ _)); exact BK460.out) hb)
                 have n2_ := Aside0.mk (blk_below (g := gb469) (o := .cells #[.int .i64 t467, .int .i64 t468] 25 (0, 0)) (by (with_reducible repeat (first | refine blk_drewN ?_ _ | refine blk_drew ?_ | refine blk_alloc ?_ _)); exact BK469.out) hb)
                 have n3_ := Aside0.mk (below_step (by repeat (first | (with_reducible first | exact HB.out | apply below_alloc | apply pw_below_drewN | apply below_drew1 | refine below_set ?_ GE459.out | refine below_set ?_ GE460.out | refine below_set ?_ GE469.out) | exact HB.out)) hb)
                 have n4_ := Aside0.mk (hbox)
                 have n5_ := Aside0.mk ((by rw [hg]; exact (below_size (by repeat (first | (with_reducible first | exact HB.out | apply below_alloc | apply pw_below_drewN | apply below_drew1 | refine below_set ?_ GE459.out | refine below_set ?_ GE460.out | refine below_set ?_ GE469.out) | exact HB.out))) : w.heap.size ≤ gb480))
                 have n6_ := Aside0.mk ((by rw [hg]; exact (below_size (by repeat (first | (with_reducible first | exact HB.out | apply below_alloc | apply pw_below_drewN | apply below_drew1 | refine below_set ?_ GE459.out | refine below_set ?_ GE460.out | refine below_set ?_ GE469.out) | exact HB.out))) : w.heap.size ≤ gb480))
                 have n7_ := Aside0.mk ((by rw [hg]; exact Nat.ne_of_lt (blk_lt (g := gb459) (o := .cells #[.int .i64 a0_0, .int .i64 a0_1, .int .i64 a0_2, .int .i64 a0_3, .int .i64 a0_4, .int .i64 a0_5, .int .i64 a0_6, .int .i64 a0_7, .int .i64 a0_8, .int .i64 a0_9, .int .i64 a0_10, .int .i64 a0_11] 23 (0, 0)) (by (with_reducible repeat (first | refine blk_drewN ?_ _ | refine blk_drew ?_ | refine blk_alloc ?_ _)); exact BK459.out)) : gb459 ≠ gb480))
                 have n8_ := Aside0.mk ((by rw [hg]; exact Nat.ne_of_gt (blk_lt (g := gb459) (o := .cells #[.int .i64 a0_0, .int .i64 a0_1, .int .i64 a0_2, .int .i64 a0_3, .int .i64 a0_4, .int .i64 a0_5, .int .i64 a0_6, .int .i64 a0_7, .int .i64 a0_8, .int .i64 a0_9, .int .i64 a0_10, .int .i64 a0_11] 23 (0, 0)) (by (with_reducible repeat (first | refine blk_drewN ?_ _ | refine blk_drew ?_ | refine blk_alloc ?_ _)); exact BK459.out)) : gb480 ≠ gb459))
                 have n9_ := Aside0.mk ((by rw [hg]; exact Nat.ne_of_lt (blk_lt (g := gb460) (o := .cells #[.int .i64 0, .int .i64 0] 25 (0, 0)) (by (with_reducible repeat (first | refine blk_drewN ?_ _ | refine blk_drew ?_ | refine blk_alloc ?_ _)); exact BK460.out)) : gb460 ≠ gb480))
                 have n10_ := Aside0.mk ((by rw [hg]; exact Nat.ne_of_gt (blk_lt (g := gb460) (o := .cells #[.int .i64 0, .int .i64 0] 25 (0, 0)) (by (with_reducible repeat (first | refine blk_drewN ?_ _ | refine blk_drew ?_ | refine blk_alloc ?_ _)); exact BK460.out)) : gb480 ≠ gb460))
                 have n11_ := Aside0.mk ((by rw [hg]; exact Nat.ne_of_lt (blk_lt (g := gb469) (o := .cells #[.int .i64 t467, .int .i64 t468] 25 (0, 0)) (by (with_reducible repeat (first | refine blk_drewN ?_ _ | refine blk_drew ?_ | refine blk_alloc ?_ _)); exact BK469.out)) : gb469 ≠ gb480))
                 have n12_ := Aside0.mk ((by rw [hg]; exact Nat.ne_of_gt (blk_lt (g := gb469) (o := .cells #[.int .i64 t467, .int .i64 t468] 25 (0, 0)) (by (with_reducible repeat (first | refine blk_drewN ?_ _ | refine blk_drew ?_ | refine blk_alloc ?_ _)); exact BK469.out)) : gb480 ≠ gb469))
                 clear BK459
                 clear BK460
                 clear BK469
                 clear HB
                 have BK459 := n0_
                 have BK460 := n1_
                 have BK469 := n2_
                 have HB := n3_
                 have BK480 := n4_
                 have GW480 := n5_
                 have GE480 := n6_
                 have NB459_480 := n7_
                 have NB480_459 := n8_
                 have NB460_480 := n9_
                 have NB480_460 := n10_
                 have NB469_480 := n11_
                 have NB480_469 := n12_
                 clear n0_ n1_ n2_ n3_ n4_ n5_ n6_ n7_ n8_ n9_ n10_ n11_ n12_
                 clear hb hbox hg
                 refine hK.out _ _ ((blk_cell BK459.out 5).trans rfl) (fun hHeld => ?_)
                 clear hK K
                 refine norm_ (a' := ?_) ?_ ?_
                 rotate_left
                 ·show Act.put _ (some 16) _ = _
                  simp only [Act.put, List.setIfInBounds_toArray, List.set_cons_zero, List.set_cons_succ, i64_w, i32_w]
                  rfl
                 exact norm_ (by first | (simp only [putAll, Act.put, List.setIfInBounds_toArray, List.set_cons_zero, List.set_cons_succ]; done) | (simp only [putAll, Act.put, List.setIfInBounds_toArray, List.set_cons_zero, List.set_cons_succ]; rfl)) (hJ14 (gb480) _ ⟨hHeld, (by (with_reducible repeat (first | refine blk_drewN ?_ _ | refine blk_drew ?_ | refine blk_alloc ?_ _)); exact BK459.out), (by (with_reducible repeat (first | refine blk_drewN ?_ _ | refine blk_drew ?_ | refine blk_alloc ?_ _)); exact BK460.out), (by (with_reducible repeat (first | refine blk_drewN ?_ _ | refine blk_drew ?_ | refine blk_alloc ?_ _)); exact BK469.out), (by (with_reducible repeat (first | refine blk_drewN ?_ _ | refine blk_drew ?_ | refine blk_alloc ?_ _)); exact BK480.out), GW480.out, GE480.out, NB459_480.out, NB480_459.out, NB460_480.out, NB480_460.out, NB469_480.out, NB480_469.out, (by repeat (first | (with_reducible first | exact HB.out | apply below_alloc | apply pw_below_drewN | apply below_drew1 | refine below_set ?_ GE459.out | refine below_set ?_ GE460.out | refine below_set ?_ GE469.out | refine below_set ?_ GE480.out) | exact HB.out))⟩)
               ·skip
                rintro gb480 w29 ⟨hS_, h0_, h1_, h2_, h3_, h4_, h5_, h6_, h7_, h8_, h9_, h10_, h11_, h12_⟩
                have n0_ : Aside0 (w29.heap[gb459]? = some (.cells #[.int .i64 a0_0, .int .i64 a0_1, .int .i64 a0_2, .int .i64 a0_3, .int .i64 a0_4, .int .i64 a0_5, .int .i64 a0_6, .int .i64 a0_7, .int .i64 a0_8, .int .i64 a0_9, .int .i64 a0_10, .int .i64 a0_11] 23 (0, 0))) := ⟨h0_⟩
                have n1_ : Aside0 (w29.heap[gb460]? = some (.cells #[.int .i64 0, .int .i64 0] 25 (0, 0))) := ⟨h1_⟩
                have n2_ : Aside0 (w29.heap[gb469]? = some (.cells #[.int .i64 t467, .int .i64 t468] 25 (0, 0))) := ⟨h2_⟩
                have n3_ : Aside0 (w29.heap[gb480]? = some (.cells #[.int .i64 0, .int .i64 0] 25 (0, 0))) := ⟨h3_⟩
                have n4_ : Aside0 (w.heap.size ≤ gb480) := ⟨h4_⟩
                have n5_ : Aside0 (w.heap.size ≤ gb480) := ⟨h5_⟩
                have n6_ : Aside0 (gb459 ≠ gb480) := ⟨h6_⟩
                have n7_ : Aside0 (gb480 ≠ gb459) := ⟨h7_⟩
                have n8_ : Aside0 (gb460 ≠ gb480) := ⟨h8_⟩
                have n9_ : Aside0 (gb480 ≠ gb460) := ⟨h9_⟩
                have n10_ : Aside0 (gb469 ≠ gb480) := ⟨h10_⟩
                have n11_ : Aside0 (gb480 ≠ gb469) := ⟨h11_⟩
                have n12_ : Aside0 (Below w.heap.size w w29) := ⟨h12_⟩
                clear BK459
                clear BK460
                clear BK469
                clear HB
                clear h0_ h1_ h2_ h3_ h4_ h5_ h6_ h7_ h8_ h9_ h10_ h11_ h12_
                have BK459 := n0_
                have BK460 := n1_
                have BK469 := n2_
                have BK480 := n3_
                have GW480 := n4_
                have GE480 := n5_
                have NB459_480 := n6_
                have NB480_459 := n7_
                have NB460_480 := n8_
                have NB480_460 := n9_
                have NB469_480 := n10_
                have NB480_469 := n11_
                have HB := n12_
                clear n0_ n1_ n2_ n3_ n4_ n5_ n6_ n7_ n8_ n9_ n10_ n11_ n12_
                have hHeld : w29.cell? ⟨gb459, 5, none⟩ = some (.int .i64 a0_5) := hS_
                refine norm_ (a' := ?_) ?_ ?_
                rotate_left
                ·simp only [putAll, Act.put, List.setIfInBounds_toArray, List.set_cons_zero, List.set_cons_succ]
                 rfl
                refine two_ (i := 2) (j := 7) (Ni := some 45) (Nj := some 50) #[true, true, true, false, true, true, true, false, false, false, true, true, true, false, true, false] #[true, true, false, false, true, true, true, true, false, false, true, true, true, false, true, false] rfl rfl rfl rfl (two_of HT_.out (by kernel_rfl)) (by decide) (by decide) (fun K hK => ?_) (fun K hK => ?_)
                ·skip
                 refine Kd.R_lit_step (Kd.int .i64) _ 3 ?hg (N := 45) ?hd (xs := ([t462, t463] : List Int)) (inner := [.int .i64 t462, .int .i64 t463]) (ok := fun _ => True) (okp := fun _ => True) ?hr ?hp (fun _ hk => hk) trivial (Below.refl _ _) (Nat.le_refl _) (by simp) ?_; (case hd => rfl); (case hg => rfl); (case hr => first | (go_simp; done) | (go_simp; rfl)); (case hp => exact (Reps.one (show Kd.M (Kd.int .i64) _ _ _ t462 [.int .i64 t462] from rfl) (Reps.one (show Kd.M (Kd.int .i64) _ _ _ t463 [.int .i64 t463] from rfl) (Reps.none _ _))))
                 intro v471 w30 ho31 hb hg_ hnew_
                 clear hg_ hnew_
                 (first | rw [← Ny470.out] at ho31 | (simp only [Int.reduceToNat] at ho31; rw [← Ny470.out] at ho31))
                 have n0_ := Aside0.mk (Kd.R_lower ho31 (below_size (by repeat (first | (with_reducible first | exact HB.out | apply below_alloc | apply pw_below_drewN | apply below_drew1 | refine below_set ?_ GE459.out | refine below_set ?_ GE460.out | refine below_set ?_ GE469.out | refine below_set ?_ GE480.out) | exact HB.out))))
                 have n1_ := Aside0.mk (blk_below (g := gb459) (o := .cells #[.int .i64 a0_0, .int .i64 a0_1, .int .i64 a0_2, .int .i64 a0_3, .int .i64 a0_4, .int .i64 a0_5, .int .i64 a0_6, .int .i64 a0_7, .int .i64 a0_8, .int .i64 a0_9, .int .i64 a0_10, .int .i64 a0_11] 23 (0, 0)) (by (with_reducible repeat (first | refine blk_drewN ?_ _ | refine blk_drew ?_ | refine blk_alloc ?_ _)); exact BK459.out) hb)
                 have n2_ := Aside0.mk (blk_below (g := gb460) (o := .cells #[.int .i64 0, .int .i64 0] 25 (0, 0)) (by (with_reducible repeat (first | refine blk_drewN ?_ _ | refine blk_drew ?_ | refine blk_alloc ?_ _)); exact BK460.out) hb)
                 have n3_ := Aside0.mk (blk_below (g := gb469) (o := .cells #[.int .i64 t467, .int .i64 t468] 25 (0, 0)) (by (with_reducible repeat (first | refine blk_drewN ?_ _ | refine blk_drew ?_ | refine blk_alloc ?_ _)); exact BK469.out) hb)
                 have n4_ := Aside0.mk (blk_below (g := gb480) (o := .cells #[.int .i64 0, .int .i64 0] 25 (0, 0)) (by (with_reducible repeat (first | refine blk_drewN ?_ _ | refine blk_drew ?_ | refine blk_alloc ?_ _)); exact BK480.out) hb)
                 have n5_ := Aside0.mk (below_step (by repeat (first | (with_reducible first | exact HB.out | apply below_alloc | apply pw_below_drewN | apply below_drew1 | refine below_set ?_ GE459.out | refine below_set ?_ GE460.out | refine below_set ?_ GE469.out | refine below_set ?_ GE480.out) | exact HB.out)) hb)
                 clear BK459
                 clear BK460
                 clear BK469
                 clear BK480
                 clear HB
                 have HO472 := n0_
                 have BK459 := n1_
                 have BK460 := n2_
                 have BK469 := n3_
                 have BK480 := n4_
                 have HB := n5_
                 clear n0_ n1_ n2_ n3_ n4_ n5_
                 clear hb ho31
                 refine hK.out _ _ ((blk_cell BK459.out 5).trans rfl) (fun hHeld => ?_)
                 clear hK K
                 refine norm_ (a' := ?_) ?_ ?_
                 rotate_left
                 ·show Act.put _ (some 45) _ = _
                  simp only [Act.put, List.setIfInBounds_toArray, List.set_cons_zero, List.set_cons_succ, i64_w, i32_w]
                  rfl
                 exact norm_ (by first | (simp only [putAll, Act.put, List.setIfInBounds_toArray, List.set_cons_zero, List.set_cons_succ]; done) | (simp only [putAll, Act.put, List.setIfInBounds_toArray, List.set_cons_zero, List.set_cons_succ]; rfl)) (hJ2_14 (_, gb480) _ ⟨hHeld, (by (with_reducible repeat (first | apply Kd.R_alloc | apply Kd.R_drewN | apply Kd.R_drew)); exact HO472.out), (by (with_reducible repeat (first | refine blk_drewN ?_ _ | refine blk_drew ?_ | refine blk_alloc ?_ _)); exact BK459.out), (by (with_reducible repeat (first | refine blk_drewN ?_ _ | refine blk_drew ?_ | refine blk_alloc ?_ _)); exact BK460.out), (by (with_reducible repeat (first | refine blk_drewN ?_ _ | refine blk_drew ?_ | refine blk_alloc ?_ _)); exact BK469.out), (by (with_reducible repeat (first | refine blk_drewN ?_ _ | refine blk_drew ?_ | refine blk_alloc ?_ _)); exact BK480.out), GW480.out, GE480.out, NB459_480.out, NB480_459.out, NB460_480.out, NB480_460.out, NB469_480.out, NB480_469.out, (by repeat (first | (with_reducible first | exact HB.out | apply below_alloc | apply pw_below_drewN | apply below_drew1 | refine below_set ?_ GE459.out | refine below_set ?_ GE460.out | refine below_set ?_ GE469.out | refine below_set ?_ GE480.out) | exact HB.out))⟩)
                ·skip
                 refine Kd.R_lit_step (Kd.int .i64) _ 3 ?hg (N := 50) ?hd (xs := ([t462, a0_5] : List Int)) (inner := [.int .i64 t462, .int .i64 a0_5]) (ok := fun _ => True) (okp := fun _ => True) ?hr ?hp (fun _ hk => hk) trivial (Below.refl _ _) (Nat.le_refl _) (by simp) ?_; (case hd => rfl); (case hg => rfl); (case hr => first | (go_simp; done) | (go_simp; rfl)); (case hp => exact (Reps.one (show Kd.M (Kd.int .i64) _ _ _ t462 [.int .i64 t462] from rfl) (Reps.one (show Kd.M (Kd.int .i64) _ _ _ a0_5 [.int .i64 a0_5] from rfl) (Reps.none _ _))))
                 intro v475 w30 ho31 hb hg_ hnew_
                 clear hg_ hnew_
                 (first | rw [← Ny474.out] at ho31 | (simp only [Int.reduceToNat] at ho31; rw [← Ny474.out] at ho31))
                 have n0_ := Aside0.mk (Kd.R_lower ho31 (below_size (by repeat (first | (with_reducible first | exact HB.out | apply below_alloc | apply pw_below_drewN | apply below_drew1 | refine below_set ?_ GE459.out | refine below_set ?_ GE460.out | refine below_set ?_ GE469.out | refine below_set ?_ GE480.out) | exact HB.out))))
                 have n1_ := Aside0.mk (blk_below (g := gb459) (o := .cells #[.int .i64 a0_0, .int .i64 a0_1, .int .i64 a0_2, .int .i64 a0_3, .int .i64 a0_4, .int .i64 a0_5, .int .i64 a0_6, .int .i64 a0_7, .int .i64 a0_8, .int .i64 a0_9, .int .i64 a0_10, .int .i64 a0_11] 23 (0, 0)) (by (with_reducible repeat (first | refine blk_drewN ?_ _ | refine blk_drew ?_ | refine blk_alloc ?_ _)); exact BK459.out) hb)
                 have n2_ := Aside0.mk (blk_below (g := gb460) (o := .cells #[.int .i64 0, .int .i64 0] 25 (0, 0)) (by (with_reducible repeat (first | refine blk_drewN ?_ _ | refine blk_drew ?_ | refine blk_alloc ?_ _)); exact BK460.out) hb)
                 have n3_ := Aside0.mk (blk_below (g := gb469) (o := .cells #[.int .i64 t467, .int .i64 t468] 25 (0, 0)) (by (with_reducible repeat (first | refine blk_drewN ?_ _ | refine blk_drew ?_ | refine blk_alloc ?_ _)); exact BK469.out) hb)
                 have n4_ := Aside0.mk (blk_below (g := gb480) (o := .cells #[.int .i64 0, .int .i64 0] 25 (0, 0)) (by (with_reducible repeat (first | refine blk_drewN ?_ _ | refine blk_drew ?_ | refine blk_alloc ?_ _)); exact BK480.out) hb)
                 have n5_ := Aside0.mk (below_step (by repeat (first | (with_reducible first | exact HB.out | apply below_alloc | apply pw_below_drewN | apply below_drew1 | refine below_set ?_ GE459.out | refine below_set ?_ GE460.out | refine below_set ?_ GE469.out | refine below_set ?_ GE480.out) | exact HB.out)) hb)
                 clear BK459
                 clear BK460
                 clear BK469
                 clear BK480
                 clear HB
                 have HO476 := n0_
                 have BK459 := n1_
                 have BK460 := n2_
                 have BK469 := n3_
                 have BK480 := n4_
                 have HB := n5_
                 clear n0_ n1_ n2_ n3_ n4_ n5_
                 clear hb ho31
                 refine hK.out _ _ ((blk_cell BK459.out 5).trans rfl) (fun hHeld => ?_)
                 clear hK K
                 refine norm_ (a' := ?_) ?_ ?_
                 rotate_left
                 ·show Act.put _ (some 50) _ = _
                  simp only [Act.put, List.setIfInBounds_toArray, List.set_cons_zero, List.set_cons_succ, i64_w, i32_w]
                  rfl
                 exact norm_ (by first | (simp only [putAll, Act.put, List.setIfInBounds_toArray, List.set_cons_zero, List.set_cons_succ]; done) | (simp only [putAll, Act.put, List.setIfInBounds_toArray, List.set_cons_zero, List.set_cons_succ]; rfl)) (hJ7_14 (_, gb480) _ ⟨hHeld, (by (with_reducible repeat (first | apply Kd.R_alloc | apply Kd.R_drewN | apply Kd.R_drew)); exact HO476.out), (by (with_reducible repeat (first | refine blk_drewN ?_ _ | refine blk_drew ?_ | refine blk_alloc ?_ _)); exact BK459.out), (by (with_reducible repeat (first | refine blk_drewN ?_ _ | refine blk_drew ?_ | refine blk_alloc ?_ _)); exact BK460.out), (by (with_reducible repeat (first | refine blk_drewN ?_ _ | refine blk_drew ?_ | refine blk_alloc ?_ _)); exact BK469.out), (by (with_reducible repeat (first | refine blk_drewN ?_ _ | refine blk_drew ?_ | refine blk_alloc ?_ _)); exact BK480.out), GW480.out, GE480.out, NB459_480.out, NB480_459.out, NB460_480.out, NB480_460.out, NB469_480.out, NB480_469.out, (by repeat (first | (with_reducible first | exact HB.out | apply below_alloc | apply pw_below_drewN | apply below_drew1 | refine below_set ?_ GE459.out | refine below_set ?_ GE460.out | refine below_set ?_ GE469.out | refine below_set ?_ GE480.out) | exact HB.out))⟩)
              ·skip
               rintro v475 w30 ⟨hS_, h0_, h1_, h2_, h3_, h4_⟩
               have n0_ : Aside0 (Kd.R (Kd.int .i64) 3 w30 w.heap.size (fun _ => True) v475 y474) := ⟨h0_⟩
               have n1_ : Aside0 (w30.heap[gb459]? = some (.cells #[.int .i64 a0_0, .int .i64 a0_1, .int .i64 a0_2, .int .i64 a0_3, .int .i64 a0_4, .int .i64 a0_5, .int .i64 a0_6, .int .i64 a0_7, .int .i64 a0_8, .int .i64 a0_9, .int .i64 a0_10, .int .i64 a0_11] 23 (0, 0))) := ⟨h1_⟩
               have n2_ : Aside0 (w30.heap[gb460]? = some (.cells #[.int .i64 0, .int .i64 0] 25 (0, 0))) := ⟨h2_⟩
               have n3_ : Aside0 (w30.heap[gb469]? = some (.cells #[.int .i64 t467, .int .i64 t468] 25 (0, 0))) := ⟨h3_⟩
               have n4_ : Aside0 (Below w.heap.size w w30) := ⟨h4_⟩
               clear BK459
               clear BK460
               clear BK469
               clear HB
               clear h0_ h1_ h2_ h3_ h4_
               have HO476 := n0_
               have BK459 := n1_
               have BK460 := n2_
               have BK469 := n3_
               have HB := n4_
               clear n0_ n1_ n2_ n3_ n4_
               have hHeld : w30.cell? ⟨gb459, 5, none⟩ = some (.int .i64 a0_5) := hS_
               refine norm_ (a' := ?_) ?_ ?_
               rotate_left
               ·simp only [putAll, Act.put, List.setIfInBounds_toArray, List.set_cons_zero, List.set_cons_succ]
                rfl
               refine two_ (i := 2) (j := 14) (Ni := some 45) (Nj := some 16) #[true, true, true, false, true, true, true, true, false, false, true, true, true, false, false, false] #[true, true, false, false, true, true, true, true, false, false, true, true, true, false, true, false] rfl rfl rfl rfl (two_of HT_.out (by kernel_rfl)) (by decide) (by decide) (fun K hK => ?_) (fun K hK => ?_)
               ·skip
                refine Kd.R_lit_step (Kd.int .i64) _ 3 ?hg (N := 45) ?hd (xs := ([t462, t463] : List Int)) (inner := [.int .i64 t462, .int .i64 t463]) (ok := fun _ => True) (okp := fun _ => True) ?hr ?hp (fun _ hk => hk) trivial (Below.refl _ _) (Nat.le_refl _) (by simp) ?_; (case hd => rfl); (case hg => rfl); (case hr => first | (go_simp; done) | (go_simp; rfl)); (case hp => exact (Reps.one (show Kd.M (Kd.int .i64) _ _ _ t462 [.int .i64 t462] from rfl) (Reps.one (show Kd.M (Kd.int .i64) _ _ _ t463 [.int .i64 t463] from rfl) (Reps.none _ _))))
                intro v471 w31 ho32 hb hg_ hnew_
                clear hg_ hnew_
                (first | rw [← Ny470.out] at ho32 | (simp only [Int.reduceToNat] at ho32; rw [← Ny470.out] at ho32))
                have n0_ := Aside0.mk (Kd.R_elder' (by (with_reducible repeat (first | apply Kd.R_alloc | apply Kd.R_drewN | apply Kd.R_drew)); exact HO476.out) (Kd.R_base ho32) hb)
                have n1_ := Aside0.mk (Kd.R_lower (Kd.R_new' ho32 (Kd.R_lt (by (with_reducible repeat (first | apply Kd.R_alloc | apply Kd.R_drewN | apply Kd.R_drew)); exact HO476.out))) (below_size (by repeat (first | (with_reducible first | exact HB.out | apply below_alloc | apply pw_below_drewN | apply below_drew1 | refine below_set ?_ GE459.out | refine below_set ?_ GE460.out | refine below_set ?_ GE469.out) | exact HB.out))))
                have n2_ := Aside0.mk (blk_below (g := gb459) (o := .cells #[.int .i64 a0_0, .int .i64 a0_1, .int .i64 a0_2, .int .i64 a0_3, .int .i64 a0_4, .int .i64 a0_5, .int .i64 a0_6, .int .i64 a0_7, .int .i64 a0_8, .int .i64 a0_9, .int .i64 a0_10, .int .i64 a0_11] 23 (0, 0)) (by (with_reducible repeat (first | refine blk_drewN ?_ _ | refine blk_drew ?_ | refine blk_alloc ?_ _)); exact BK459.out) hb)
                have n3_ := Aside0.mk (blk_below (g := gb460) (o := .cells #[.int .i64 0, .int .i64 0] 25 (0, 0)) (by (with_reducible repeat (first | refine blk_drewN ?_ _ | refine blk_drew ?_ | refine blk_alloc ?_ _)); exact BK460.out) hb)
                have n4_ := Aside0.mk (blk_below (g := gb469) (o := .cells #[.int .i64 t467, .int .i64 t468] 25 (0, 0)) (by (with_reducible repeat (first | refine blk_drewN ?_ _ | refine blk_drew ?_ | refine blk_alloc ?_ _)); exact BK469.out) hb)
                have n5_ := Aside0.mk (below_step (by repeat (first | (with_reducible first | exact HB.out | apply below_alloc | apply pw_below_drewN | apply below_drew1 | refine below_set ?_ GE459.out | refine below_set ?_ GE460.out | refine below_set ?_ GE469.out) | exact HB.out)) hb)
                clear HO476
                clear BK459
                clear BK460
                clear BK469
                clear HB
                have HO476 := n0_
                have HO472 := n1_
                have BK459 := n2_
                have BK460 := n3_
                have BK469 := n4_
                have HB := n5_
                clear n0_ n1_ n2_ n3_ n4_ n5_
                clear hb ho32
                refine hK.out _ _ ((blk_cell BK459.out 5).trans rfl) (fun hHeld => ?_)
                clear hK K
                refine norm_ (a' := ?_) ?_ ?_
                rotate_left
                ·show Act.put _ (some 45) _ = _
                 simp only [Act.put, List.setIfInBounds_toArray, List.set_cons_zero, List.set_cons_succ, i64_w, i32_w]
                 rfl
                exact norm_ (by first | (simp only [putAll, Act.put, List.setIfInBounds_toArray, List.set_cons_zero, List.set_cons_succ]; done) | (simp only [putAll, Act.put, List.setIfInBounds_toArray, List.set_cons_zero, List.set_cons_succ]; rfl)) (hJ2_7 (_, _) _ ⟨hHeld, (by (with_reducible repeat (first | apply Kd.R_alloc | apply Kd.R_drewN | apply Kd.R_drew)); exact Kd.R_mono HO472.out (fun _ hk => hk.2)), (by (with_reducible repeat (first | apply Kd.R_alloc | apply Kd.R_drewN | apply Kd.R_drew)); exact Kd.R_mono HO476.out (fun _ hk => hk.2)), (by (with_reducible repeat (first | refine blk_drewN ?_ _ | refine blk_drew ?_ | refine blk_alloc ?_ _)); exact BK459.out), (by (with_reducible repeat (first | refine blk_drewN ?_ _ | refine blk_drew ?_ | refine blk_alloc ?_ _)); exact BK460.out), (by (with_reducible repeat (first | refine blk_drewN ?_ _ | refine blk_drew ?_ | refine blk_alloc ?_ _)); exact BK469.out), (by repeat (first | (with_reducible first | exact HB.out | apply below_alloc | apply pw_below_drewN | apply below_drew1 | refine below_set ?_ GE459.out | refine below_set ?_ GE460.out | refine below_set ?_ GE469.out) | exact HB.out))⟩)
               ·skip
                refine box_step ?hg (N := 16) ?hd (cs := #[.int .i64 0, .int .i64 0]) (t := 25) ?hr ?_; (case hd => rfl); (case hg => rfl); (case hr => first | (go_simp; done) | (go_simp; rfl))
                intro gb480 hg w31 hbox hb
                have n0_ := Aside0.mk (Kd.R_below (by (with_reducible repeat (first | apply Kd.R_alloc | apply Kd.R_drewN | apply Kd.R_drew)); exact HO476.out) hb)
                have n1_ := Aside0.mk (blk_below (g := gb459) (o := .cells #[.int .i64 a0_0, .int .i64 a0_1, .int .i64 a0_2, .int .i64 a0_3, .int .i64 a0_4, .int .i64 a0_5, .int .i64 a0_6, .int .i64 a0_7, .int .i64 a0_8, .int .i64 a0_9, .int .i64 a0_10, .int .i64 a0_11] 23 (0, 0)) (by (with_reducible repeat (first | refine blk_drewN ?_ _ | refine blk_drew ?_ | refine blk_alloc ?_ _)); exact BK459.out) hb)
                have n2_ := Aside0.mk (blk_below (g := gb460) (o := .cells #[.int .i64 0, .int .i64 0] 25 (0, 0)) (by (with_reducible repeat (first | refine blk_drewN ?_ _ | refine blk_drew ?_ | refine blk_alloc ?_ _)); exact BK460.out) hb)
                have n3_ := Aside0.mk (blk_below (g := gb469) (o := .cells #[.int .i64 t467, .int .i64 t468] 25 (0, 0)) (by (with_reducible repeat (first | refine blk_drewN ?_ _ | refine blk_drew ?_ | refine blk_alloc ?_ _)); exact BK469.out) hb)
                have n4_ := Aside0.mk (below_step (by repeat (first | (with_reducible first | exact HB.out | apply below_alloc | apply pw_below_drewN | apply below_drew1 | refine below_set ?_ GE459.out | refine below_set ?_ GE460.out | refine below_set ?_ GE469.out) | exact HB.out)) hb)
                have n5_ := Aside0.mk (hbox)
                have n6_ := Aside0.mk ((by rw [hg]; exact (below_size (by repeat (first | (with_reducible first | exact HB.out | apply below_alloc | apply pw_below_drewN | apply below_drew1 | refine below_set ?_ GE459.out | refine below_set ?_ GE460.out | refine below_set ?_ GE469.out) | exact HB.out))) : w.heap.size ≤ gb480))
                have n7_ := Aside0.mk ((by rw [hg]; exact (below_size (by repeat (first | (with_reducible first | exact HB.out | apply below_alloc | apply pw_below_drewN | apply below_drew1 | refine below_set ?_ GE459.out | refine below_set ?_ GE460.out | refine below_set ?_ GE469.out) | exact HB.out))) : w.heap.size ≤ gb480))
                have n8_ := Aside0.mk ((by rw [hg]; exact Nat.ne_of_lt (blk_lt (g := gb459) (o := .cells #[.int .i64 a0_0, .int .i64 a0_1, .int .i64 a0_2, .int .i64 a0_3, .int .i64 a0_4, .int .i64 a0_5, .int .i64 a0_6, .int .i64 a0_7, .int .i64 a0_8, .int .i64 a0_9, .int .i64 a0_10, .int .i64 a0_11] 23 (0, 0)) (by (with_reducible repeat (first | refine blk_drewN ?_ _ | refine blk_drew ?_ | refine blk_alloc ?_ _)); exact BK459.out)) : gb459 ≠ gb480))
                have n9_ := Aside0.mk ((by rw [hg]; exact Nat.ne_of_gt (blk_lt (g := gb459) (o := .cells #[.int .i64 a0_0, .int .i64 a0_1, .int .i64 a0_2, .int .i64 a0_3, .int .i64 a0_4, .int .i64 a0_5, .int .i64 a0_6, .int .i64 a0_7, .int .i64 a0_8, .int .i64 a0_9, .int .i64 a0_10, .int .i64 a0_11] 23 (0, 0)) (by (with_reducible repeat (first | refine blk_drewN ?_ _ | refine blk_drew ?_ | refine blk_alloc ?_ _)); exact BK459.out)) : gb480 ≠ gb459))
                have n10_ := Aside0.mk ((by rw [hg]; exact Nat.ne_of_lt (blk_lt (g := gb460) (o := .cells #[.int .i64 0, .int .i64 0] 25 (0, 0)) (by (with_reducible repeat (first | refine blk_drewN ?_ _ | refine blk_drew ?_ | refine blk_alloc ?_ _)); exact BK460.out)) : gb460 ≠ gb480))
                have n11_ := Aside0.mk ((by rw [hg]; exact Nat.ne_of_gt (blk_lt (g := gb460) (o := .cells #[.int .i64 0, .int .i64 0] 25 (0, 0)) (by (with_reducible repeat (first | refine blk_drewN ?_ _ | refine blk_drew ?_ | refine blk_alloc ?_ _)); exact BK460.out)) : gb480 ≠ gb460))
                have n12_ := Aside0.mk ((by rw [hg]; exact Nat.ne_of_lt (blk_lt (g := gb469) (o := .cells #[.int .i64 t467, .int .i64 t468] 25 (0, 0)) (by (with_reducible repeat (first | refine blk_drewN ?_ _ | refine blk_drew ?_ | refine blk_alloc ?_ _)); exact BK469.out)) : gb469 ≠ gb480))
                have n13_ := Aside0.mk ((by rw [hg]; exact Nat.ne_of_gt (blk_lt (g := gb469) (o := .cells #[.int .i64 t467, .int .i64 t468] 25 (0, 0)) (by (with_reducible repeat (first | refine blk_drewN ?_ _ | refine blk_drew ?_ | refine blk_alloc ?_ _)); exact BK469.out)) : gb480 ≠ gb469))
                clear HO476
                clear BK459
                clear BK460
                clear BK469
                clear HB
                have HO476 := n0_
                have BK459 := n1_
                have BK460 := n2_
                have BK469 := n3_
                have HB := n4_
                have BK480 := n5_
                have GW480 := n6_
                have GE480 := n7_
                have NB459_480 := n8_
                have NB480_459 := n9_
                have NB460_480 := n10_
                have NB480_460 := n11_
                have NB469_480 := n12_
                have NB480_469 := n13_
                clear n0_ n1_ n2_ n3_ n4_ n5_ n6_ n7_ n8_ n9_ n10_ n11_ n12_ n13_
                clear hb hbox hg
                refine hK.out _ _ ((blk_cell BK459.out 5).trans rfl) (fun hHeld => ?_)
                clear hK K
                refine norm_ (a' := ?_) ?_ ?_
                rotate_left
                ·show Act.put _ (some 16) _ = _
                 simp only [Act.put, List.setIfInBounds_toArray, List.set_cons_zero, List.set_cons_succ, i64_w, i32_w]
                 rfl
                exact norm_ (by first | (simp only [putAll, Act.put, List.setIfInBounds_toArray, List.set_cons_zero, List.set_cons_succ]; done) | (simp only [putAll, Act.put, List.setIfInBounds_toArray, List.set_cons_zero, List.set_cons_succ]; rfl)) (hJ7_14 (_, gb480) _ ⟨hHeld, (by (with_reducible repeat (first | apply Kd.R_alloc | apply Kd.R_drewN | apply Kd.R_drew)); exact HO476.out), (by (with_reducible repeat (first | refine blk_drewN ?_ _ | refine blk_drew ?_ | refine blk_alloc ?_ _)); exact BK459.out), (by (with_reducible repeat (first | refine blk_drewN ?_ _ | refine blk_drew ?_ | refine blk_alloc ?_ _)); exact BK460.out), (by (with_reducible repeat (first | refine blk_drewN ?_ _ | refine blk_drew ?_ | refine blk_alloc ?_ _)); exact BK469.out), (by (with_reducible repeat (first | refine blk_drewN ?_ _ | refine blk_drew ?_ | refine blk_alloc ?_ _)); exact BK480.out), GW480.out, GE480.out, NB459_480.out, NB480_459.out, NB460_480.out, NB480_460.out, NB469_480.out, NB480_469.out, (by repeat (first | (with_reducible first | exact HB.out | apply below_alloc | apply pw_below_drewN | apply below_drew1 | refine below_set ?_ GE459.out | refine below_set ?_ GE460.out | refine below_set ?_ GE469.out | refine below_set ?_ GE480.out) | exact HB.out))⟩)
             ·skip
              rintro v471 w30 ⟨hS_, h0_, h1_, h2_, h3_, h4_⟩
              have n0_ : Aside0 (Kd.R (Kd.int .i64) 3 w30 w.heap.size (fun _ => True) v471 y470) := ⟨h0_⟩
              have n1_ : Aside0 (w30.heap[gb459]? = some (.cells #[.int .i64 a0_0, .int .i64 a0_1, .int .i64 a0_2, .int .i64 a0_3, .int .i64 a0_4, .int .i64 a0_5, .int .i64 a0_6, .int .i64 a0_7, .int .i64 a0_8, .int .i64 a0_9, .int .i64 a0_10, .int .i64 a0_11] 23 (0, 0))) := ⟨h1_⟩
              have n2_ : Aside0 (w30.heap[gb460]? = some (.cells #[.int .i64 0, .int .i64 0] 25 (0, 0))) := ⟨h2_⟩
              have n3_ : Aside0 (w30.heap[gb469]? = some (.cells #[.int .i64 t467, .int .i64 t468] 25 (0, 0))) := ⟨h3_⟩
              have n4_ : Aside0 (Below w.heap.size w w30) := ⟨h4_⟩
              clear BK459
              clear BK460
              clear BK469
              clear HB
              clear h0_ h1_ h2_ h3_ h4_
              have HO472 := n0_
              have BK459 := n1_
              have BK460 := n2_
              have BK469 := n3_
              have HB := n4_
              clear n0_ n1_ n2_ n3_ n4_
              have hHeld : w30.cell? ⟨gb459, 5, none⟩ = some (.int .i64 a0_5) := hS_
              obtain ⟨Ao31, co31, eo31⟩ := Kd.R_slice HO472.out
              (first | subst eo31 | (injection eo31 with f1_ f2_ f3_; have f4_ := f1_.symm; have f5_ := f3_.symm; clear f1_ f2_ f3_; subst f4_; subst f5_))
              refine norm_ (a' := ?_) ?_ ?_
              rotate_left
              ·simp only [putAll, Act.put, List.setIfInBounds_toArray, List.set_cons_zero, List.set_cons_succ]
               rfl
              refine three_ (i := 3) (j := 7) (k := 14) (Ni := some 46) (Nj := some 50) (Nk := some 16) #[true, true, true, true, true, true, true, false, false, false, true, true, true, false, false, false] #[true, true, true, false, true, true, true, true, false, false, true, true, true, false, false, false] #[true, true, true, false, true, true, true, false, false, false, true, true, true, false, true, false] rfl rfl rfl rfl rfl rfl (three_of HT_.out (by kernel_rfl)) (by decide) (by decide) (by decide) (fun K hK => ?_) (fun K hK => ?_) (fun K hK => ?_)
              ·skip
               refine goes_ Try.func44 (by kernel_rfl) rfl #[.slice Ao31 y470.length co31] (by rfl) rfl rfl (by (try simp only [List.map_toArray, List.map_cons, List.map_nil]); first | done | rfl | (simp only [List.length_drop, List.length_take]; rfl)) ?_
               with_reducible refine (clepsydraref01_Add.calls k _ _ y470 t473 _ ?side1 ?side2 A13.out).mono ?_
               (case side1 => repeat (first | exact (Kd.R_reads' HO472.out).2.2 | (with_reducible refine Kd.C_alloc ?_ _) | (with_reducible refine Kd.C_drewN ?_ _) | (with_reducible refine Kd.C_drew ?_)))
               (case side2 => exact (Kd.R_reads' HO472.out).2.1)
               rintro e w' ⟨rfl, ⟨nd, rfl⟩⟩
               refine ⟨_, rfl, ?_⟩
               refine hK.out _ _ ((blk_cell BK459.out 5).trans rfl) (fun hHeld => ?_)
               clear hK K
               refine norm_ (a' := ?_) ?_ ?_
               rotate_left
               ·show Act.put _ (some 46) _ = _
                simp only [Act.put, List.setIfInBounds_toArray, List.set_cons_zero, List.set_cons_succ, i64_w, i32_w]
                rfl
               exact norm_ (by first | (simp only [putAll, Act.put, List.setIfInBounds_toArray, List.set_cons_zero, List.set_cons_succ]; done) | (simp only [putAll, Act.put, List.setIfInBounds_toArray, List.set_cons_zero, List.set_cons_succ]; rfl)) (hJ2_3 (.slice Ao31 y470.length co31) _ ⟨hHeld, (by (with_reducible repeat (first | apply Kd.R_alloc | apply Kd.R_drewN | apply Kd.R_drew)); exact HO472.out), (by (with_reducible repeat (first | refine blk_drewN ?_ _ | refine blk_drew ?_ | refine blk_alloc ?_ _)); exact BK459.out), (by (with_reducible repeat (first | refine blk_drewN ?_ _ | refine blk_drew ?_ | refine blk_alloc ?_ _)); exact BK460.out), (by (with_reducible repeat (first | refine blk_drewN ?_ _ | refine blk_drew ?_ | refine blk_alloc ?_ _)); exact BK469.out), (by repeat (first | (with_reducible first | exact HB.out | apply below_alloc | apply pw_below_drewN | apply below_drew1 | refine below_set ?_ GE459.out | refine below_set ?_ GE460.out | refine below_set ?_ GE469.out) | exact HB.out))⟩)
              ·skip
               refine Kd.R_lit_step (Kd.int .i64) _ 3 ?hg (N := 50) ?hd (xs := ([t462, a0_5] : List Int)) (inner := [.int .i64 t462, .int .i64 a0_5]) (ok := fun _ => True) (okp := fun _ => True) ?hr ?hp (fun _ hk => hk) trivial (Below.refl _ _) (Nat.le_refl _) (by simp) ?_; (case hd => rfl); (case hg => rfl); (case hr => first | (go_simp; done) | (go_simp; rfl)); (case hp => exact (Reps.one (show Kd.M (Kd.int .i64) _ _ _ t462 [.int .i64 t462] from rfl) (Reps.one (show Kd.M (Kd.int .i64) _ _ _ a0_5 [.int .i64 a0_5] from rfl) (Reps.none _ _))))
               intro v475 w31 ho32 hb hg_ hnew_
               clear hg_ hnew_
               (first | rw [← Ny474.out] at ho32 | (simp only [Int.reduceToNat] at ho32; rw [← Ny474.out] at ho32))
               have n0_ := Aside0.mk (Kd.R_elder' (by (with_reducible repeat (first | apply Kd.R_alloc | apply Kd.R_drewN | apply Kd.R_drew)); exact HO472.out) (Kd.R_base ho32) hb)
               have n1_ := Aside0.mk (Kd.R_lower (Kd.R_new' ho32 (Kd.R_lt (by (with_reducible repeat (first | apply Kd.R_alloc | apply Kd.R_drewN | apply Kd.R_drew)); exact HO472.out))) (below_size (by repeat (first | (with_reducible first | exact HB.out | apply below_alloc | apply pw_below_drewN | apply below_drew1 | refine below_set ?_ GE459.out | refine below_set ?_ GE460.out | refine below_set ?_ GE469.out) | exact HB.out))))
               have n2_ := Aside0.mk (blk_below (g := gb459) (o := .cells #[.int .i64 a0_0, .int .i64 a0_1, .int .i64 a0_2, .int .i64 a0_3, .int .i64 a0_4, .int .i64 a0_5, .int .i64 a0_6, .int .i64 a0_7, .int .i64 a0_8, .int .i64 a0_9, .int .i64 a0_10, .int .i64 a0_11] 23 (0, 0)) (by (with_reducible repeat (first | refine blk_drewN ?_ _ | refine blk_drew ?_ | refine blk_alloc ?_ _)); exact BK459.out) hb)
               have n3_ := Aside0.mk (blk_below (g := gb460) (o := .cells #[.int .i64 0, .int .i64 0] 25 (0, 0)) (by (with_reducible repeat (first | refine blk_drewN ?_ _ | refine blk_drew ?_ | refine blk_alloc ?_ _)); exact BK460.out) hb)
               have n4_ := Aside0.mk (blk_below (g := gb469) (o := .cells #[.int .i64 t467, .int .i64 t468] 25 (0, 0)) (by (with_reducible repeat (first | refine blk_drewN ?_ _ | refine blk_drew ?_ | refine blk_alloc ?_ _)); exact BK469.out) hb)
               have n5_ := Aside0.mk (below_step (by repeat (first | (with_reducible first | exact HB.out | apply below_alloc | apply pw_below_drewN | apply below_drew1 | refine below_set ?_ GE459.out | refine below_set ?_ GE460.out | refine below_set ?_ GE469.out) | exact HB.out)) hb)
               clear HO472
               clear BK459
               clear BK460
               clear BK469
               clear HB
               have HO472 := n0_
               have HO476 := n1_
               have BK459 := n2_
               have BK460 := n3_
               have BK469 := n4_
               have HB := n5_
               clear n0_ n1_ n2_ n3_ n4_ n5_
               clear hb ho32
               refine hK.out _ _ ((blk_cell BK459.out 5).trans rfl) (fun hHeld => ?_)
               clear hK K
               refine norm_ (a' := ?_) ?_ ?_
               rotate_left
               ·show Act.put _ (some 50) _ = _
                simp only [Act.put, List.setIfInBounds_toArray, List.set_cons_zero, List.set_cons_succ, i64_w, i32_w]
                rfl
               exact norm_ (by first | (simp only [putAll, Act.put, List.setIfInBounds_toArray, List.set_cons_zero, List.set_cons_succ]; done) | (simp only [putAll, Act.put, List.setIfInBounds_toArray, List.set_cons_zero, List.set_cons_succ]; rfl)) (hJ2_7 (_, _) _ ⟨hHeld, (by (with_reducible repeat (first | apply Kd.R_alloc | apply Kd.R_drewN | apply Kd.R_drew)); exact Kd.R_mono HO472.out (fun _ hk => hk.2)), (by (with_reducible repeat (first | apply Kd.R_alloc | apply Kd.R_drewN | apply Kd.R_drew)); exact Kd.R_mono HO476.out (fun _ hk => hk.2)), (by (with_reducible repeat (first | refine blk_drewN ?_ _ | refine blk_drew ?_ | refine blk_alloc ?_ _)); exact BK459.out), (by (with_reducible repeat (first | refine blk_drewN ?_ _ | refine blk_drew ?_ | refine blk_alloc ?_ _)); exact BK460.out), (by (with_reducible repeat (first | refine blk_drewN ?_ _ | refine blk_drew ?_ | refine blk_alloc ?_ _)); exact BK469.out), (by repeat (first | (with_reducible first | exact HB.out | apply below_alloc | apply pw_below_drewN | apply below_drew1 | refine below_set ?_ GE459.out | refine below_set ?_ GE460.out | refine below_set ?_ GE469.out) | exact HB.out))⟩)
              ·skip
               refine box_step ?hg (N := 16) ?hd (cs := #[.int .i64 0, .int .i64 0]) (t := 25) ?hr ?_; (case hd => rfl); (case hg => rfl); (case hr => first | (go_simp; done) | (go_simp; rfl))
               intro gb480 hg w31 hbox hb
               have n0_ := Aside0.mk (Kd.R_below (by (with_reducible repeat (first | apply Kd.R_alloc | apply Kd.R_drewN | apply Kd.R_drew)); exact HO472.out) hb)
               have n1_ := Aside0.mk (blk_below (g := gb459) (o := .cells #[.int .i64 a0_0, .int .i64 a0_1, .int .i64 a0_2, .int .i64 a0_3, .int .i64 a0_4, .int .i64 a0_5, .int .i64 a0_6, .int .i64 a0_7, .int .i64 a0_8, .int .i64 a0_9, .int .i64 a0_10, .int .i64 a0_11] 23 (0, 0)) (by (with_reducible repeat (first | refine blk_drewN ?_ _ | refine blk_drew ?_ | refine blk_alloc ?_ _)); exact BK459.out) hb)
               have n2_ := Aside0.mk (blk_below (g := gb460) (o := .cells #[.int .i64 0, .int .i64 0] 25 (0, 0)) (by (with_reducible repeat (first | refine blk_drewN ?_ _ | refine blk_drew ?_ | refine blk_alloc ?_ _)); exact BK460.out) hb)
               have n3_ := Aside0.mk (blk_below (g := gb469) (o := .cells #[.int .i64 t467, .int .i64 t468] 25 (0, 0)) (by (with_reducible repeat (first | refine blk_drewN ?_ _ | refine blk_drew ?_ | refine blk_alloc ?_ _)); exact BK469.out) hb)
               have n4_ := Aside0.mk (below_step (by repeat (first | (with_reducible first | exact HB.out | apply below_alloc | apply pw_below_drewN | apply below_drew1 | refine below_set ?_ GE459.out | refine below_set ?_ GE460.out | refine below_set ?_ GE469.out) | exact HB.out)) hb)
               have n5_ := Aside0.mk (hbox)
               have n6_ := Aside0.mk ((by rw [hg]; exact (below_size (by repeat (first | (with_reducible first | exact HB.out | apply below_alloc | apply pw_below_drewN | apply below_drew1 | refine below_set ?_ GE459.out | refine below_set ?_ GE460.out | refine below_set ?_ GE469.out) | exact HB.out))) : w.heap.size ≤ gb480))
               have n7_ := Aside0.mk ((by rw [hg]; exact (below_size (by repeat (first | (with_reducible first | exact HB.out | apply below_alloc | apply pw_below_drewN | apply below_drew1 | refine below_set ?_ GE459.out | refine below_set ?_ GE460.out | refine below_set ?_ GE469.out) | exact HB.out))) : w.heap.size ≤ gb480))
               have n8_ := Aside0.mk ((by rw [hg]; exact Nat.ne_of_lt (blk_lt (g := gb459) (o := .cells #[.int .i64 a0_0, .int .i64 a0_1, .int .i64 a0_2, .int .i64 a0_3, .int .i64 a0_4, .int .i64 a0_5, .int .i64 a0_6, .int .i64 a0_7, .int .i64 a0_8, .int .i64 a0_9, .int .i64 a0_10, .int .i64 a0_11] 23 (0, 0)) (by (with_reducible repeat (first | refine blk_drewN ?_ _ | refine blk_drew ?_ | refine blk_alloc ?_ _)); exact BK459.out)) : gb459 ≠ gb480))
               have n9_ := Aside0.mk ((by rw [hg]; exact Nat.ne_of_gt (blk_lt (g := gb459) (o := .cells #[.int .i64 a0_0, .int .i64 a0_1, .int .i64 a0_2, .int .i64 a0_3, .int .i64 a0_4, .int .i64 a0_5, .int .i64 a0_6, .int .i64 a0_7, .int .i64 a0_8, .int .i64 a0_9, .int .i64 a0_10, .int .i64 a0_11] 23 (0, 0)) (by (with_reducible repeat (first | refine blk_drewN ?_ _ | refine blk_drew ?_ | refine blk_alloc ?_ _)); exact BK459.out)) : gb480 ≠ gb459))
               have n10_ := Aside0.mk ((by rw [hg]; exact Nat.ne_of_lt (blk_lt (g := gb460) (o := .cells #[.int .i64 0, .int .i64 0] 25 (0, 0)) (by (with_reducible repeat (first | refine blk_drewN ?_ _ | refine blk_drew ?_ | refine blk_alloc ?_ _)); exact BK460.out)) : gb460 ≠ gb480))
               have n11_ := Aside0.mk ((by rw [hg]; exact Nat.ne_of_gt (blk_lt (g := gb460) (o := .cells #[.int .i64 0, .int .i64 0] 25 (0, 0)) (by (with_reducible repeat (first | refine blk_drewN ?_ _ | refine blk_drew ?_ | refine blk_alloc ?_ _)); exact BK460.out)) : gb480 ≠ gb460))
               have n12_ := Aside0.mk ((by rw [hg]; exact Nat.ne_of_lt (blk_lt (g := gb469) (o := .cells #[.int .i64 t467, .int .i64 t468] 25 (0, 0)) (by (with_reducible repeat (first | refine blk_drewN ?_ _ | refine blk_drew ?_ | refine blk_alloc ?_ _)); exact BK469.out)) : gb469 ≠ gb480))
               have n13_ := Aside0.mk ((by rw [hg]; exact Nat.ne_of_gt (blk_lt (g := gb469) (o := .cells #[.int .i64 t467, .int .i64 t468] 25 (0, 0)) (by (with_reducible repeat (first | refine blk_drewN ?_ _ | refine blk_drew ?_ | refine blk_alloc ?_ _)); exact BK469.out)) : gb480 ≠ gb469))
               clear HO472
               clear BK459
               clear BK460
               clear BK469
               clear HB
               have HO472 := n0_
               have BK459 := n1_
               have BK460 := n2_
               have BK469 := n3_
               have HB := n4_
               have BK480 := n5_
               have GW480 := n6_
               have GE480 := n7_
               have NB459_480 := n8_
               have NB480_459 := n9_
               have NB460_480 := n10_
               have NB480_460 := n11_
               have NB469_480 := n12_
               have NB480_469 := n13_
               clear n0_ n1_ n2_ n3_ n4_ n5_ n6_ n7_ n8_ n9_ n10_ n11_ n12_ n13_
               clear hb hbox hg
               refine hK.out _ _ ((blk_cell BK459.out 5).trans rfl) (fun hHeld => ?_)
               clear hK K
               refine norm_ (a' := ?_) ?_ ?_
               rotate_left
               ·show Act.put _ (some 16) _ = _
                simp only [Act.put, List.setIfInBounds_toArray, List.set_cons_zero, List.set_cons_succ, i64_w, i32_w]
                rfl
               exact norm_ (by first | (simp only [putAll, Act.put, List.setIfInBounds_toArray, List.set_cons_zero, List.set_cons_succ]; done) | (simp only [putAll, Act.put, List.setIfInBounds_toArray, List.set_cons_zero, List.set_cons_succ]; rfl)) (hJ2_14 (_, gb480) _ ⟨hHeld, (by (with_reducible repeat (first | apply Kd.R_alloc | apply Kd.R_drewN | apply Kd.R_drew)); exact HO472.out), (by (with_reducible repeat (first | refine blk_drewN ?_ _ | refine blk_drew ?_ | refine blk_alloc ?_ _)); exact BK459.out), (by (with_reducible repeat (first | refine blk_drewN ?_ _ | refine blk_drew ?_ | refine blk_alloc ?_ _)); exact BK460.out), (by (with_reducible repeat (first | refine blk_drewN ?_ _ | refine blk_drew ?_ | refine blk_alloc ?_ _)); exact BK469.out), (by (with_reducible repeat (first | refine blk_drewN ?_ _ | refine blk_drew ?_ | refine blk_alloc ?_ _)); exact BK480.out), GW480.out, GE480.out, NB459_480.out, NB480_459.out, NB460_480.out, NB480_460.out, NB469_480.out, NB480_469.out, (by repeat (first | (with_reducible first | exact HB.out | apply below_alloc | apply pw_below_drewN | apply below_drew1 | refine below_set ?_ GE459.out | refine below_set ?_ GE460.out | refine below_set ?_ GE469.out | refine below_set ?_ GE480.out) | exact HB.out))⟩)
            ·skip
             rintro ⟨v475, gb480⟩ w31 ⟨hS_, h0_, h1_, h2_, h3_, h4_, h5_, h6_, h7_, h8_, h9_, h10_, h11_, h12_, h13_⟩
             have n0_ : Aside0 (Kd.R (Kd.int .i64) 3 w31 w.heap.size (fun _ => True) v475 y474) := ⟨h0_⟩
             have n1_ : Aside0 (w31.heap[gb459]? = some (.cells #[.int .i64 a0_0, .int .i64 a0_1, .int .i64 a0_2, .int .i64 a0_3, .int .i64 a0_4, .int .i64 a0_5, .int .i64 a0_6, .int .i64 a0_7, .int .i64 a0_8, .int .i64 a0_9, .int .i64 a0_10, .int .i64 a0_11] 23 (0, 0))) := ⟨h1_⟩
             have n2_ : Aside0 (w31.heap[gb460]? = some (.cells #[.int .i64 0, .int .i64 0] 25 (0, 0))) := ⟨h2_⟩
             have n3_ : Aside0 (w31.heap[gb469]? = some (.cells #[.int .i64 t467, .int .i64 t468] 25 (0, 0))) := ⟨h3_⟩
             have n4_ : Aside0 (w31.heap[gb480]? = some (.cells #[.int .i64 0, .int .i64 0] 25 (0, 0))) := ⟨h4_⟩
             have n5_ : Aside0 (w.heap.size ≤ gb480) := ⟨h5_⟩
             have n6_ : Aside0 (w.heap.size ≤ gb480) := ⟨h6_⟩
             have n7_ : Aside0 (gb459 ≠ gb480) := ⟨h7_⟩
             have n8_ : Aside0 (gb480 ≠ gb459) := ⟨h8_⟩
             have n9_ : Aside0 (gb460 ≠ gb480) := ⟨h9_⟩
             have n10_ : Aside0 (gb480 ≠ gb460) := ⟨h10_⟩
             have n11_ : Aside0 (gb469 ≠ gb480) := ⟨h11_⟩
             have n12_ : Aside0 (gb480 ≠ gb469) := ⟨h12_⟩
             have n13_ : Aside0 (Below w.heap.size w w31) := ⟨h13_⟩
             clear BK459
             clear BK460
             clear BK469
             clear HB
             clear h0_ h1_ h2_ h3_ h4_ h5_ h6_ h7_ h8_ h9_ h10_ h11_ h12_ h13_
             have HO476 := n0_
             have BK459 := n1_
             have BK460 := n2_
             have BK469 := n3_
             have BK480 := n4_
             have GW480 := n5_
             have GE480 := n6_
             have NB459_480 := n7_
             have NB480_459 := n8_
             have NB460_480 := n9_
             have NB480_460 := n10_
             have NB469_480 := n11_
             have NB480_469 := n12_
             have HB := n13_
             clear n0_ n1_ n2_ n3_ n4_ n5_ n6_ n7_ n8_ n9_ n10_ n11_ n12_ n13_
             have hHeld : w31.cell? ⟨gb459, 5, none⟩ = some (.int .i64 a0_5) := hS_
             refine norm_ (a' := ?_) ?_ ?_
             rotate_left
             ·simp only [putAll, Act.put, List.setIfInBounds_toArray, List.set_cons_zero, List.set_cons_succ]
              rfl
             refine one_ (i := 2) (N := some 45) #[true, true, true, false, true, true, true, true, false, false, true, true, true, false, true, false] rfl rfl (one_of HT_.out (by kernel_rfl)) (by decide) (fun K hK => ?_)
             refine Kd.R_lit_step (Kd.int .i64) _ 3 ?hg (N := 45) ?hd (xs := ([t462, t463] : List Int)) (inner := [.int .i64 t462, .int .i64 t463]) (ok := fun _ => True) (okp := fun _ => True) ?hr ?hp (fun _ hk => hk) trivial (Below.refl _ _) (Nat.le_refl _) (by simp) ?_; (case hd => rfl); (case hg => rfl); (case hr => first | (go_simp; done) | (go_simp; rfl)); (case hp => exact (Reps.one (show Kd.M (Kd.int .i64) _ _ _ t462 [.int .i64 t462] from rfl) (Reps.one (show Kd.M (Kd.int .i64) _ _ _ t463 [.int .i64 t463] from rfl) (Reps.none _ _))))
             intro v471 w32 ho33 hb hg_ hnew_
             clear hg_ hnew_
             (first | rw [← Ny470.out] at ho33 | (simp only [Int.reduceToNat] at ho33; rw [← Ny470.out] at ho33))
             have n0_ := Aside0.mk (Kd.R_elder' (by (with_reducible repeat (first | apply Kd.R_alloc | apply Kd.R_drewN | apply Kd.R_drew)); exact HO476.out) (Kd.R_base ho33) hb)
             have n1_ := Aside0.mk (Kd.R_lower (Kd.R_new' ho33 (Kd.R_lt (by (with_reducible repeat (first | apply Kd.R_alloc | apply Kd.R_drewN | apply Kd.R_drew)); exact HO476.out))) (below_size (by repeat (first | (with_reducible first | exact HB.out | apply below_alloc | apply pw_below_drewN | apply below_drew1 | refine below_set ?_ GE459.out | refine below_set ?_ GE460.out | refine below_set ?_ GE469.out | refine below_set ?_ GE480.out) | exact HB.out))))
             have n2_ := Aside0.mk (blk_below (g := gb459) (o := .cells #[.int .i64 a0_0, .int .i64 a0_1, .int .i64 a0_2, .int .i64 a0_3, .int .i64 a0_4, .int .i64 a0_5, .int .i64 a0_6, .int .i64 a0_7, .int .i64 a0_8, .int .i64 a0_9, .int .i64 a0_10, .int .i64 a0_11] 23 (0, 0)) (by (with_reducible repeat (first | refine blk_drewN ?_ _ | refine blk_drew ?_ | refine blk_alloc ?_ _)); exact BK459.out) hb)
             have n3_ := Aside0.mk (blk_below (g := gb460) (o := .cells #[.int .i64 0, .int .i64 0] 25 (0, 0)) (by (with_reducible repeat (first | refine blk_drewN ?_ _ | refine blk_drew ?_ | refine blk_alloc ?_ _)); exact BK460.out) hb)
             have n4_ := Aside0.mk (blk_below (g := gb469) (o := .cells #[.int .i64 t467, .int .i64 t468] 25 (0, 0)) (by (with_reducible repeat (first | refine blk_drewN ?_ _ | refine blk_drew ?_ | refine blk_alloc ?_ _)); exact BK469.out) hb)
             have n5_ := Aside0.mk (blk_below (g := gb480) (o := .cells #[.int .i64 0, .int .i64 0] 25 (0, 0)) (by (with_reducible repeat (first | refine blk_drewN ?_ _ | refine blk_drew ?_ | refine blk_alloc ?_ _)); exact BK480.out) hb)
             have n6_ := Aside0.mk (below_step (by repeat (first | (with_reducible first | exact HB.out | apply below_alloc | apply pw_below_drewN | apply below_drew1 | refine below_set ?_ GE459.out | refine below_set ?_ GE460.out | refine below_set ?_ GE469.out | refine below_set ?_ GE480.out) | exact HB.out)) hb)
             clear HO476
             clear BK459
             clear BK460
             clear BK469
             clear BK480
             clear HB
             have HO476 := n0_
             have HO472 := n1_
             have BK459 := n2_
             have BK460 := n3_
             have BK469 := n4_
             have BK480 := n5_
             have HB := n6_
             clear n0_ n1_ n2_ n3_ n4_ n5_ n6_
             clear hb ho33
             refine hK.out _ _ ((blk_cell BK459.out 5).trans rfl) (fun hHeld => ?_)
             clear hK K
             refine norm_ (a' := ?_) ?_ ?_
             rotate_left
             ·show Act.put _ (some 45) _ = _
              simp only [Act.put, List.setIfInBounds_toArray, List.set_cons_zero, List.set_cons_succ, i64_w, i32_w]
              rfl
             exact norm_ (by first | (simp only [putAll, Act.put, List.setIfInBounds_toArray, List.set_cons_zero, List.set_cons_succ]; done) | (simp only [putAll, Act.put, List.setIfInBounds_toArray, List.set_cons_zero, List.set_cons_succ]; rfl)) (hJ2_7_14 (_, _, gb480) _ ⟨hHeld, (by (with_reducible repeat (first | apply Kd.R_alloc | apply Kd.R_drewN | apply Kd.R_drew)); exact Kd.R_mono HO472.out (fun _ hk => hk.2)), (by (with_reducible repeat (first | apply Kd.R_alloc | apply Kd.R_drewN | apply Kd.R_drew)); exact Kd.R_mono HO476.out (fun _ hk => hk.2)), (by (with_reducible repeat (first | refine blk_drewN ?_ _ | refine blk_drew ?_ | refine blk_alloc ?_ _)); exact BK459.out), (by (with_reducible repeat (first | refine blk_drewN ?_ _ | refine blk_drew ?_ | refine blk_alloc ?_ _)); exact BK460.out), (by (with_reducible repeat (first | refine blk_drewN ?_ _ | refine blk_drew ?_ | refine blk_alloc ?_ _)); exact BK469.out), (by (with_reducible repeat (first | refine blk_drewN ?_ _ | refine blk_drew ?_ | refine blk_alloc ?_ _)); exact BK480.out), GW480.out, GE480.out, NB459_480.out, NB480_459.out, NB460_480.out, NB480_460.out, NB469_480.out, NB480_469.out, (by repeat (first | (with_reducible first | exact HB.out | apply below_alloc | apply pw_below_drewN | apply below_drew1 | refine below_set ?_ GE459.out | refine below_set ?_ GE460.out | refine below_set ?_ GE469.out | refine below_set ?_ GE480.out) | exact HB.out))⟩)
           ·skip
            rintro ⟨v471, gb480⟩ w31 ⟨hS_, h0_, h1_, h2_, h3_, h4_, h5_, h6_, h7_, h8_, h9_, h10_, h11_, h12_, h13_⟩
            have n0_ : Aside0 (Kd.R (Kd.int .i64) 3 w31 w.heap.size (fun _ => True) v471 y470) := ⟨h0_⟩
            have n1_ : Aside0 (w31.heap[gb459]? = some (.cells #[.int .i64 a0_0, .int .i64 a0_1, .int .i64 a0_2, .int .i64 a0_3, .int .i64 a0_4, .int .i64 a0_5, .int .i64 a0_6, .int .i64 a0_7, .int .i64 a0_8, .int .i64 a0_9, .int .i64 a0_10, .int .i64 a0_11] 23 (0, 0))) := ⟨h1_⟩
            have n2_ : Aside0 (w31.heap[gb460]? = some (.cells #[.int .i64 0, .int .i64 0] 25 (0, 0))) := ⟨h2_⟩
            have n3_ : Aside0 (w31.heap[gb469]? = some (.cells #[.int .i64 t467, .int .i64 t468] 25 (0, 0))) := ⟨h3_⟩
            have n4_ : Aside0 (w31.heap[gb480]? = some (.cells #[.int .i64 0, .int .i64 0] 25 (0, 0))) := ⟨h4_⟩
            have n5_ : Aside0 (w.heap.size ≤ gb480) := ⟨h5_⟩
            have n6_ : Aside0 (w.heap.size ≤ gb480) := ⟨h6_⟩
            have n7_ : Aside0 (gb459 ≠ gb480) := ⟨h7_⟩
            have n8_ : Aside0 (gb480 ≠ gb459) := ⟨h8_⟩
            have n9_ : Aside0 (gb460 ≠ gb480) := ⟨h9_⟩
            have n10_ : Aside0 (gb480 ≠ gb460) := ⟨h10_⟩
            have n11_ : Aside0 (gb469 ≠ gb480) := ⟨h11_⟩
            have n12_ : Aside0 (gb480 ≠ gb469) := ⟨h12_⟩
            have n13_ : Aside0 (Below w.heap.size w w31) := ⟨h13_⟩
            clear BK459
            clear BK460
            clear BK469
            clear HB
            clear h0_ h1_ h2_ h3_ h4_ h5_ h6_ h7_ h8_ h9_ h10_ h11_ h12_ h13_
            have HO472 := n0_
            have BK459 := n1_
            have BK460 := n2_
            have BK469 := n3_
            have BK480 := n4_
            have GW480 := n5_
            have GE480 := n6_
            have NB459_480 := n7_
            have NB480_459 := n8_
            have NB460_480 := n9_
            have NB480_460 := n10_
            have NB469_480 := n11_
            have NB480_469 := n12_
            have HB := n13_
            clear n0_ n1_ n2_ n3_ n4_ n5_ n6_ n7_ n8_ n9_ n10_ n11_ n12_ n13_
            have hHeld : w31.cell? ⟨gb459, 5, none⟩ = some (.int .i64 a0_5) := hS_
            obtain ⟨Ao32, co32, eo32⟩ := Kd.R_slice HO472.out
            (first | subst eo32 | (injection eo32 with f1_ f2_ f3_; have f4_ := f1_.symm; have f5_ := f3_.symm; clear f1_ f2_ f3_; subst f4_; subst f5_))
            refine norm_ (a' := ?_) ?_ ?_
            rotate_left
            ·simp only [putAll, Act.put, List.setIfInBounds_toArray, List.set_cons_zero, List.set_cons_succ]
             rfl
            refine two_ (i := 3) (j := 7) (Ni := some 46) (Nj := some 50) #[true, true, true, true, true, true, true, false, false, false, true, true, true, false, true, false] #[true, true, true, false, true, true, true, true, false, false, true, true, true, false, true, false] rfl rfl rfl rfl (two_of HT_.out (by kernel_rfl)) (by decide) (by decide) (fun K hK => ?_) (fun K hK => ?_)
            ·skip
             refine goes_ Try.func44 (by kernel_rfl) rfl #[.slice Ao32 y470.length co32] (by rfl) rfl rfl (by (try simp only [List.map_toArray, List.map_cons, List.map_nil]); first | done | rfl | (simp only [List.length_drop, List.length_take]; rfl)) ?_
             with_reducible refine (clepsydraref01_Add.calls k _ _ y470 t473 _ ?side1 ?side2 A13.out).mono ?_
             (case side1 => repeat (first | exact (Kd.R_reads' HO472.out).2.2 | (with_reducible refine Kd.C_alloc ?_ _) | (with_reducible refine Kd.C_drewN ?_ _) | (with_reducible refine Kd.C_drew ?_)))
             (case side2 => exact (Kd.R_reads' HO472.out).2.1)
             rintro e w' ⟨rfl, ⟨nd, rfl⟩⟩
             refine ⟨_, rfl, ?_⟩
             refine hK.out _ _ ((blk_cell BK459.out 5).trans rfl) (fun hHeld => ?_)
             clear hK K
             refine norm_ (a' := ?_) ?_ ?_
             rotate_left
             ·show Act.put _ (some 46) _ = _
              simp only [Act.put, List.setIfInBounds_toArray, List.set_cons_zero, List.set_cons_succ, i64_w, i32_w]
              rfl
             exact norm_ (by first | (simp only [putAll, Act.put, List.setIfInBounds_toArray, List.set_cons_zero, List.set_cons_succ]; done) | (simp only [putAll, Act.put, List.setIfInBounds_toArray, List.set_cons_zero, List.set_cons_succ]; rfl)) (hJ2_3_14 (.slice Ao32 y470.length co32, gb480) _ ⟨hHeld, (by (with_reducible repeat (first | apply Kd.R_alloc | apply Kd.R_drewN | apply Kd.R_drew)); exact HO472.out), (by (with_reducible repeat (first | refine blk_drewN ?_ _ | refine blk_drew ?_ | refine blk_alloc ?_ _)); exact BK459.out), (by (with_reducible repeat (first | refine blk_drewN ?_ _ | refine blk_drew ?_ | refine blk_alloc ?_ _)); exact BK460.out), (by (with_reducible repeat (first | refine blk_drewN ?_ _ | refine blk_drew ?_ | refine blk_alloc ?_ _)); exact BK469.out), (by (with_reducible repeat (first | refine blk_drewN ?_ _ | refine blk_drew ?_ | refine blk_alloc ?_ _)); exact BK480.out), GW480.out, GE480.out, NB459_480.out, NB480_459.out, NB460_480.out, NB480_460.out, NB469_480.out, NB480_469.out, (by repeat (first | (with_reducible first | exact HB.out | apply below_alloc | apply pw_below_drewN | apply below_drew1 | refine below_set ?_ GE459.out | refine below_set ?_ GE460.out | refine below_set ?_ GE469.out | refine below_set ?_ GE480.out) | exact HB.out))⟩)
            ·skip
             refine Kd.R_lit_step (Kd.int .i64) _ 3 ?hg (N := 50) ?hd (xs := ([t462, a0_5] : List Int)) (inner := [.int .i64 t462, .int .i64 a0_5]) (ok := fun _ => True) (okp := fun _ => True) ?hr ?hp (fun _ hk => hk) trivial (Below.refl _ _) (Nat.le_refl _) (by simp) ?_; (case hd => rfl); (case hg => rfl); (case hr => first | (go_simp; done) | (go_simp; rfl)); (case hp => exact (Reps.one (show Kd.M (Kd.int .i64) _ _ _ t462 [.int .i64 t462] from rfl) (Reps.one (show Kd.M (Kd.int .i64) _ _ _ a0_5 [.int .i64 a0_5] from rfl) (Reps.none _ _))))
             intro v475 w32 ho33 hb hg_ hnew_
             clear hg_ hnew_
             (first | rw [← Ny474.out] at ho33 | (simp only [Int.reduceToNat] at ho33; rw [← Ny474.out] at ho33))
             have n0_ := Aside0.mk (Kd.R_elder' (by (with_reducible repeat (first | apply Kd.R_alloc | apply Kd.R_drewN | apply Kd.R_drew)); exact HO472.out) (Kd.R_base ho33) hb)
             have n1_ := Aside0.mk (Kd.R_lower (Kd.R_new' ho33 (Kd.R_lt (by (with_reducible repeat (first | apply Kd.R_alloc | apply Kd.R_drewN | apply Kd.R_drew)); exact HO472.out))) (below_size (by repeat (first | (with_reducible first | exact HB.out | apply below_alloc | apply pw_below_drewN | apply below_drew1 | refine below_set ?_ GE459.out | refine below_set ?_ GE460.out | refine below_set ?_ GE469.out | refine below_set ?_ GE480.out) | exact HB.out))))
             have n2_ := Aside0.mk (blk_below (g := gb459) (o := .cells #[.int .i64 a0_0, .int .i64 a0_1, .int .i64 a0_2, .int .i64 a0_3, .int .i64 a0_4, .int .i64 a0_5, .int .i64 a0_6, .int .i64 a0_7, .int .i64 a0_8, .int .i64 a0_9, .int .i64 a0_10, .int .i64 a0_11] 23 (0, 0)) (by (with_reducible repeat (first | refine blk_drewN ?_ _ | refine blk_drew ?_ | refine blk_alloc ?_ _)); exact BK459.out) hb)
             have n3_ := Aside0.mk (blk_below (g := gb460) (o := .cells #[.int .i64 0, .int .i64 0] 25 (0, 0)) (by (with_reducible repeat (first | refine blk_drewN ?_ _ | refine blk_drew ?_ | refine blk_alloc ?_ _)); exact BK460.out) hb)
             have n4_ := Aside0.mk (blk_below (g := gb469) (o := .cells #[.int .i64 t467, .int .i64 t468] 25 (0, 0)) (by (with_reducible repeat (first | refine blk_drewN ?_ _ | refine blk_drew ?_ | refine blk_alloc ?_ _)); exact BK469.out) hb)
             have n5_ := Aside0.mk (blk_below (g := gb480) (o := .cells #[.int .i64 0, .int .i64 0] 25 (0, 0)) (by (with_reducible repeat (first | refine blk_drewN ?_ _ | refine blk_drew ?_ | refine blk_alloc ?_ _)); exact BK480.out) hb)
             have n6_ := Aside0.mk (below_step (by repeat (first | (with_reducible first | exact HB.out | apply below_alloc | apply pw_below_drewN | apply below_drew1 | refine below_set ?_ GE459.out | refine below_set ?_ GE460.out | refine below_set ?_ GE469.out | refine below_set ?_ GE480.out) | exact HB.out)) hb)
             clear HO472
             clear BK459
             clear BK460
             clear BK469
             clear BK480
             clear HB
             have HO472 := n0_
             have HO476 := n1_
             have BK459 := n2_
             have BK460 := n3_
             have BK469 := n4_
             have BK480 := n5_
             have HB := n6_
             clear n0_ n1_ n2_ n3_ n4_ n5_ n6_
             clear hb ho33
             refine hK.out _ _ ((blk_cell BK459.out 5).trans rfl) (fun hHeld => ?_)
             clear hK K
             refine norm_ (a' := ?_) ?_ ?_
             rotate_left
             ·show Act.put _ (some 50) _ = _
              simp only [Act.put, List.setIfInBounds_toArray, List.set_cons_zero, List.set_cons_succ, i64_w, i32_w]
              rfl
             exact norm_ (by first | (simp only [putAll, Act.put, List.setIfInBounds_toArray, List.set_cons_zero, List.set_cons_succ]; done) | (simp only [putAll, Act.put, List.setIfInBounds_toArray, List.set_cons_zero, List.set_cons_succ]; rfl)) (hJ2_7_14 (_, _, gb480) _ ⟨hHeld, (by (with_reducible repeat (first | apply Kd.R_alloc | apply Kd.R_drewN | apply Kd.R_drew)); exact Kd.R_mono HO472.out (fun _ hk => hk.2)), (by (with_reducible repeat (first | apply Kd.R_alloc | apply Kd.R_drewN | apply Kd.R_drew)); exact Kd.R_mono HO476.out (fun _ hk => hk.2)), (by (with_reducible repeat (first | refine blk_drewN ?_ _ | refine blk_drew ?_ | refine blk_alloc ?_ _)); exact BK459.out), (by (with_reducible repeat (first | refine blk_drewN ?_ _ | refine blk_drew ?_ | refine blk_alloc ?_ _)); exact BK460.out), (by (with_reducible repeat (first | refine blk_drewN ?_ _ | refine blk_drew ?_ | refine blk_alloc ?_ _)); exact BK469.out), (by (with_reducible repeat (first | refine blk_drewN ?_ _ | refine blk_drew ?_ | refine blk_alloc ?_ _)); exact BK480.out), GW480.out, GE480.out, NB459_480.out, NB480_459.out, NB460_480.out, NB480_460.out, NB469_480.out, NB480_469.out, (by repeat (first | (with_reducible first | exact HB.out | apply below_alloc | apply pw_below_drewN | apply below_drew1 | refine below_set ?_ GE459.out | refine below_set ?_ GE460.out | refine below_set ?_ GE469.out | refine below_set ?_ GE480.out) | exact HB.out))⟩)
          ·skip
           rintro ⟨v471, v475⟩ w32 ⟨hS_, h0_, h1_, h2_, h3_, h4_, h5_⟩
           have n0_ : Aside0 (Kd.R (Kd.int .i64) 3 w32 w.heap.size (fun k_ => some k_ ≠ (v475 : Value).ownBlock) v471 y470) := ⟨h0_⟩
           have n1_ : Aside0 (Kd.R (Kd.int .i64) 3 w32 w.heap.size (fun k_ => some k_ ≠ (v471 : Value).ownBlock) v475 y474) := ⟨h1_⟩
           have n2_ : Aside0 (w32.heap[gb459]? = some (.cells #[.int .i64 a0_0, .int .i64 a0_1, .int .i64 a0_2, .int .i64 a0_3, .int .i64 a0_4, .int .i64 a0_5, .int .i64 a0_6, .int .i64 a0_7, .int .i64 a0_8, .int .i64 a0_9, .int .i64 a0_10, .int .i64 a0_11] 23 (0, 0))) := ⟨h2_⟩
           have n3_ : Aside0 (w32.heap[gb460]? = some (.cells #[.int .i64 0, .int .i64 0] 25 (0, 0))) := ⟨h3_⟩
           have n4_ : Aside0 (w32.heap[gb469]? = some (.cells #[.int .i64 t467, .int .i64 t468] 25 (0, 0))) := ⟨h4_⟩
           have n5_ : Aside0 (Below w.heap.size w w32) := ⟨h5_⟩
           clear BK459
           clear BK460
           clear BK469
           clear HB
           clear h0_ h1_ h2_ h3_ h4_ h5_
           have HO472 := n0_
           have HO476 := n1_
           have BK459 := n2_
           have BK460 := n3_
           have BK469 := n4_
           have HB := n5_
           clear n0_ n1_ n2_ n3_ n4_ n5_
           have hHeld : w32.cell? ⟨gb459, 5, none⟩ = some (.int .i64 a0_5) := hS_
           obtain ⟨Ao33, co33, eo33⟩ := Kd.R_slice HO472.out
           (first | subst eo33 | (injection eo33 with f1_ f2_ f3_; have f4_ := f1_.symm; have f5_ := f3_.symm; clear f1_ f2_ f3_; subst f4_; subst f5_))
           refine norm_ (a' := ?_) ?_ ?_
           rotate_left
           ·simp only [putAll, Act.put, List.setIfInBounds_toArray, List.set_cons_zero, List.set_cons_succ]
            rfl
           refine two_ (i := 3) (j := 14) (Ni := some 46) (Nj := some 16) #[true, true, true, true, true, true, true, true, false, false, true, true, true, false, false, false] #[true, true, true, false, true, true, true, true, false, false, true, true, true, false, true, false] rfl rfl rfl rfl (two_of HT_.out (by kernel_rfl)) (by decide) (by decide) (fun K hK => ?_) (fun K hK => ?_)
           ·skip
            refine goes_ Try.func44 (by kernel_rfl) rfl #[.slice Ao33 y470.length co33] (by rfl) rfl rfl (by (try simp only [List.map_toArray, List.map_cons, List.map_nil]); first | done | rfl | (simp only [List.length_drop, List.length_take]; rfl)) ?_
            with_reducible refine (clepsydraref01_Add.calls k _ _ y470 t473 _ ?side1 ?side2 A13.out).mono ?_
            (case side1 => repeat (first | exact (Kd.R_reads' HO472.out).2.2 | (with_reducible refine Kd.C_alloc ?_ _) | (with_reducible refine Kd.C_drewN ?_ _) | (with_reducible refine Kd.C_drew ?_)))
            (case side2 => exact (Kd.R_reads' HO472.out).2.1)
            rintro e w' ⟨rfl, ⟨nd, rfl⟩⟩
            refine ⟨_, rfl, ?_⟩
            refine hK.out _ _ ((blk_cell BK459.out 5).trans rfl) (fun hHeld => ?_)
            clear hK K
            refine norm_ (a' := ?_) ?_ ?_
            rotate_left
            ·show Act.put _ (some 46) _ = _
             simp only [Act.put, List.setIfInBounds_toArray, List.set_cons_zero, List.set_cons_succ, i64_w, i32_w]
             rfl
            exact norm_ (by first | (simp only [putAll, Act.put, List.setIfInBounds_toArray, List.set_cons_zero, List.set_cons_succ]; done) | (simp only [putAll, Act.put, List.setIfInBounds_toArray, List.set_cons_zero, List.set_cons_succ]; rfl)) (hJ2_3_7 (.slice Ao33 y470.length co33, v475) _ ⟨hHeld, (by (with_reducible repeat (first | apply Kd.R_alloc | apply Kd.R_drewN | apply Kd.R_drew)); exact HO472.out), (by (with_reducible repeat (first | apply Kd.R_alloc | apply Kd.R_drewN | apply Kd.R_drew)); exact HO476.out), (by (with_reducible repeat (first | refine blk_drewN ?_ _ | refine blk_drew ?_ | refine blk_alloc ?_ _)); exact BK459.out), (by (with_reducible repeat (first | refine blk_drewN ?_ _ | refine blk_drew ?_ | refine blk_alloc ?_ _)); exact BK460.out), (by (with_reducible repeat (first | refine blk_drewN ?_ _ | refine blk_drew ?_ | refine blk_alloc ?_ _)); exact BK469.out), (by repeat (first | (with_reducible first | exact HB.out | apply below_alloc | apply pw_below_drewN | apply below_drew1 | refine below_set ?_ GE459.out | refine below_set ?_ GE460.out | refine below_set ?_ GE469.out) | exact HB.out))⟩)
           ·skip
            refine box_step ?hg (N := 16) ?hd (cs := #[.int .i64 0, .int .i64 0]) (t := 25) ?hr ?_; (case hd => rfl); (case hg => rfl); (case hr => first | (go_simp; done) | (go_simp; rfl))
            intro gb480 hg w33 hbox hb
            have n0_ := Aside0.mk (Kd.R_below (by (with_reducible repeat (first | apply Kd.R_alloc | apply Kd.R_drewN | apply Kd.R_drew)); exact HO472.out) hb)
            have n1_ := Aside0.mk (Kd.R_below (by (with_reducible repeat (first | apply Kd.R_alloc | apply Kd.R_drewN | apply Kd.R_drew)); exact HO476.out) hb)
            have n2_ := Aside0.mk (blk_below (g := gb459) (o := .cells #[.int .i64 a0_0, .int .i64 a0_1, .int .i64 a0_2, .int .i64 a0_3, .int .i64 a0_4, .int .i64 a0_5, .int .i64 a0_6, .int .i64 a0_7, .int .i64 a0_8, .int .i64 a0_9, .int .i64 a0_10, .int .i64 a0_11] 23 (0, 0)) (by (with_reducible repeat (first | refine blk_drewN ?_ _ | refine blk_drew ?_ | refine blk_alloc ?_ _)); exact BK459.out) hb)
            have n3_ := Aside0.mk (blk_below (g := gb460) (o := .cells #[.int .i64 0, .int .i64 0] 25 (0, 0)) (by (with_reducible repeat (first | refine blk_drewN ?_ _ | refine blk_drew ?_ | refine blk_alloc ?_ _)); exact BK460.out) hb)
            have n4_ := Aside0.mk (blk_below (g := gb469) (o := .cells #[.int .i64 t467, .int .i64 t468] 25 (0, 0)) (by (with_reducible repeat (first | refine blk_drewN ?_ _ | refine blk_drew ?_ | refine blk_alloc ?_ _)); exact BK469.out) hb)
            have n5_ := Aside0.mk (below_step (by repeat (first | (with_reducible first | exact HB.out | apply below_alloc | apply pw_below_drewN | apply below_drew1 | refine below_set ?_ GE459.out | refine below_set ?_ GE460.out | refine below_set ?_ GE469.out) | exact HB.out)) hb)
            have n6_ := Aside0.mk (hbox)
            have n7_ := Aside0.mk ((by rw [hg]; exact (below_size (by repeat (first | (with_reducible first | exact HB.out | apply below_alloc | apply pw_below_drewN | apply below_drew1 | refine below_set ?_ GE459.out | refine below_set ?_ GE460.out | refine below_set ?_ GE469.out) | exact HB.out))) : w.heap.size ≤ gb480))
            have n8_ := Aside0.mk ((by rw [hg]; exact (below_size (by repeat (first | (with_reducible first | exact HB.out | apply below_alloc | apply pw_below_drewN | apply below_drew1 | refine below_set ?_ GE459.out | refine below_set ?_ GE460.out | refine below_set ?_ GE469.out) | exact HB.out))) : w.heap.size ≤ gb480))
            have n9_ := Aside0.mk ((by rw [hg]; exact Nat.ne_of_lt (blk_lt (g := gb459) (o := .cells #[.int .i64 a0_0, .int .i64 a0_1, .int .i64 a0_2, .int .i64 a0_3, .int .i64 a0_4, .int .i64 a0_5, .int .i64 a0_6, .int .i64 a0_7, .int .i64 a0_8, .int .i64 a0_9, .int .i64 a0_10, .int .i64 a0_11] 23 (0, 0)) (by (with_reducible repeat (first | refine blk_drewN ?_ _ | refine blk_drew ?_ | refine blk_alloc ?_ _)); exact BK459.out)) : gb459 ≠ gb480))
            have n10_ := Aside0.mk ((by rw [hg]; exact Nat.ne_of_gt (blk_lt (g := gb459) (o := .cells #[.int .i64 a0_0, .int .i64 a0_1, .int .i64 a0_2, .int .i64 a0_3, .int .i64 a0_4, .int .i64 a0_5, .int .i64 a0_6, .int .i64 a0_7, .int .i64 a0_8, .int .i64 a0_9, .int .i64 a0_10, .int .i64 a0_11] 23 (0, 0)) (by (with_reducible repeat (first | refine blk_drewN ?_ _ | refine blk_drew ?_ | refine blk_alloc ?_ _)); exact BK459.out)) : gb480 ≠ gb459))
            have n11_ := Aside0.mk ((by rw [hg]; exact Nat.ne_of_lt (blk_lt (g := gb460) (o := .cells #[.int .i64 0, .int .i64 0] 25 (0, 0)) (by (with_reducible repeat (first | refine blk_drewN ?_ _ | refine blk_drew ?_ | refine blk_alloc ?_ _)); exact BK460.out)) : gb460 ≠ gb480))
            have n12_ := Aside0.mk ((by rw [hg]; exact Nat.ne_of_gt (blk_lt (g := gb460) (o := .cells #[.int .i64 0, .int .i64 0] 25 (0, 0)) (by (with_reducible repeat (first | refine blk_drewN ?_ _ | refine blk_drew ?_ | refine blk_alloc ?_ _)); exact BK460.out)) : gb480 ≠ gb460))
            have n13_ := Aside0.mk ((by rw [hg]; exact Nat.ne_of_lt (blk_lt (g := gb469) (o := .cells #[.int .i64 t467, .int .i64 t468] 25 (0, 0)) (by (with_reducible repeat (first | refine blk_drewN ?_ _ | refine blk_drew ?_ | refine blk_alloc ?_ _)); exact BK469.out)) : gb469 ≠ gb480))
            have n14_ := Aside0.mk ((by rw [hg]; exact Nat.ne_of_gt (blk_lt (g := gb469) (o := .cells #[.int .i64 t467, .int .i64 t468] 25 (0, 0)) (by (with_reducible repeat (first | refine blk_drewN ?_ _ | refine blk_drew ?_ | refine blk_alloc ?_ _)); exact BK469.out)) : gb480 ≠ gb469))
            clear HO472
            clear HO476
            clear BK459
            clear BK460
            clear BK469
            clear HB
            have HO472 := n0_
            have HO476 := n1_
            have BK459 := n2_
            have BK460 := n3_
            have BK469 := n4_
            have HB := n5_
            have BK480 := n6_
            have GW480 := n7_
            have GE480 := n8_
            have NB459_480 := n9_
            have NB480_459 := n10_
            have NB460_480 := n11_
            have NB480_460 := n12_
            have NB469_480 := n13_
            have NB480_469 := n14_
            clear n0_ n1_ n2_ n3_ n4_ n5_ n6_ n7_ n8_ n9_ n10_ n11_ n12_ n13_ n14_
            clear hb hbox hg
            refine hK.out _ _ ((blk_cell BK459.out 5).trans rfl) (fun hHeld => ?_)
            clear hK K
            refine norm_ (a' := ?_) ?_ ?_
            rotate_left
            ·show Act.put _ (some 16) _ = _
             simp only [Act.put, List.setIfInBounds_toArray, List.set_cons_zero, List.set_cons_succ, i64_w, i32_w]
             rfl
            exact norm_ (by first | (simp only [putAll, Act.put, List.setIfInBounds_toArray, List.set_cons_zero, List.set_cons_succ]; done) | (simp only [putAll, Act.put, List.setIfInBounds_toArray, List.set_cons_zero, List.set_cons_succ]; rfl)) (hJ2_7_14 (_, _, gb480) _ ⟨hHeld, (by (with_reducible repeat (first | apply Kd.R_alloc | apply Kd.R_drewN | apply Kd.R_drew)); exact HO472.out), (by (with_reducible repeat (first | apply Kd.R_alloc | apply Kd.R_drewN | apply Kd.R_drew)); exact HO476.out), (by (with_reducible repeat (first | refine blk_drewN ?_ _ | refine blk_drew ?_ | refine blk_alloc ?_ _)); exact BK459.out), (by (with_reducible repeat (first | refine blk_drewN ?_ _ | refine blk_drew ?_ | refine blk_alloc ?_ _)); exact BK460.out), (by (with_reducible repeat (first | refine blk_drewN ?_ _ | refine blk_drew ?_ | refine blk_alloc ?_ _)); exact BK469.out), (by (with_reducible repeat (first | refine blk_drewN ?_ _ | refine blk_drew ?_ | refine blk_alloc ?_ _)); exact BK480.out), GW480.out, GE480.out, NB459_480.out, NB480_459.out, NB460_480.out, NB480_460.out, NB469_480.out, NB480_469.out, (by repeat (first | (with_reducible first | exact HB.out | apply below_alloc | apply pw_below_drewN | apply below_drew1 | refine below_set ?_ GE459.out | refine below_set ?_ GE460.out | refine below_set ?_ GE469.out | refine below_set ?_ GE480.out) | exact HB.out))⟩)
         ·skip
          rintro v471 w31 ⟨hS_, h0_, h1_, h2_, h3_, h4_⟩
          have n0_ : Aside0 (Kd.R (Kd.int .i64) 3 w31 w.heap.size (fun _ => True) v471 y470) := ⟨h0_⟩
          have n1_ : Aside0 (w31.heap[gb459]? = some (.cells #[.int .i64 a0_0, .int .i64 a0_1, .int .i64 a0_2, .int .i64 a0_3, .int .i64 a0_4, .int .i64 a0_5, .int .i64 a0_6, .int .i64 a0_7, .int .i64 a0_8, .int .i64 a0_9, .int .i64 a0_10, .int .i64 a0_11] 23 (0, 0))) := ⟨h1_⟩
          have n2_ : Aside0 (w31.heap[gb460]? = some (.cells #[.int .i64 0, .int .i64 0] 25 (0, 0))) := ⟨h2_⟩
          have n3_ : Aside0 (w31.heap[gb469]? = some (.cells #[.int .i64 t467, .int .i64 t468] 25 (0, 0))) := ⟨h3_⟩
          have n4_ : Aside0 (Below w.heap.size w w31) := ⟨h4_⟩
          clear BK459
          clear BK460
          clear BK469
          clear HB
          clear h0_ h1_ h2_ h3_ h4_
          have HO472 := n0_
          have BK459 := n1_
          have BK460 := n2_
          have BK469 := n3_
          have HB := n4_
          clear n0_ n1_ n2_ n3_ n4_
          have hHeld : w31.cell? ⟨gb459, 5, none⟩ = some (.int .i64 a0_5) := hS_
          refine norm_ (a' := ?_) ?_ ?_
          rotate_left
          ·simp only [putAll, Act.put, List.setIfInBounds_toArray, List.set_cons_zero, List.set_cons_succ]
           rfl
          refine two_ (i := 7) (j := 14) (Ni := some 50) (Nj := some 16) #[true, true, true, true, true, true, true, true, false, false, true, true, true, false, false, false] #[true, true, true, true, true, true, true, false, false, false, true, true, true, false, true, false] rfl rfl rfl rfl (two_of HT_.out (by kernel_rfl)) (by decide) (by decide) (fun K hK => ?_) (fun K hK => ?_)
          ·skip
           refine Kd.R_lit_step (Kd.int .i64) _ 3 ?hg (N := 50) ?hd (xs := ([t462, a0_5] : List Int)) (inner := [.int .i64 t462, .int .i64 a0_5]) (ok := fun _ => True) (okp := fun _ => True) ?hr ?hp (fun _ hk => hk) trivial (Below.refl _ _) (Nat.le_refl _) (by simp) ?_; (case hd => rfl); (case hg => rfl); (case hr => first | (go_simp; done) | (go_simp; rfl)); (case hp => exact (Reps.one (show Kd.M (Kd.int .i64) _ _ _ t462 [.int .i64 t462] from rfl) (Reps.one (show Kd.M (Kd.int .i64) _ _ _ a0_5 [.int .i64 a0_5] from rfl) (Reps.none _ _))))
           intro v475 w32 ho33 hb hg_ hnew_
           clear hg_ hnew_
           (first | rw [← Ny474.out] at ho33 | (simp only [Int.reduceToNat] at ho33; rw [← Ny474.out] at ho33))
           have n0_ := Aside0.mk (Kd.R_elder' (by (with_reducible repeat (first | apply Kd.R_alloc | apply Kd.R_drewN | apply Kd.R_drew)); exact HO472.out) (Kd.R_base ho33) hb)
           have n1_ := Aside0.mk (Kd.R_lower (Kd.R_new' ho33 (Kd.R_lt (by (with_reducible repeat (first | apply Kd.R_alloc | apply Kd.R_drewN | apply Kd.R_drew)); exact HO472.out))) (below_size (by repeat (first | (with_reducible first | exact HB.out | apply below_alloc | apply pw_below_drewN | apply below_drew1 | refine below_set ?_ GE459.out | refine below_set ?_ GE460.out | refine below_set ?_ GE469.out) | exact HB.out))))
           have n2_ := Aside0.mk (blk_below (g := gb459) (o := .cells #[.int .i64 a0_0, .int .i64 a0_1, .int .i64 a0_2, .int .i64 a0_3, .int .i64 a0_4, .int .i64 a0_5, .int .i64 a0_6, .int .i64 a0_7, .int .i64 a0_8, .int .i64 a0_9, .int .i64 a0_10, .int .i64 a0_11] 23 (0, 0)) (by (with_reducible repeat (first | refine blk_drewN ?_ _ | refine blk_drew ?_ | refine blk_alloc ?_ _)); exact BK459.out) hb)
           have n3_ := Aside0.mk (blk_below (g := gb460) (o := .cells #[.int .i64 0, .int .i64 0] 25 (0, 0)) (by (with_reducible repeat (first | refine blk_drewN ?_ _ | refine blk_drew ?_ | refine blk_alloc ?_ _)); exact BK460.out) hb)
           have n4_ := Aside0.mk (blk_below (g := gb469) (o := .cells #[.int .i64 t467, .int .i64 t468] 25 (0, 0)) (by (with_reducible repeat (first | refine blk_drewN ?_ _ | refine blk_drew ?_ | refine blk_alloc ?_ _)); exact BK469.out) hb)
           have n5_ := Aside0.mk (below_step (by repeat (first | (with_reducible first | exact HB.out | apply below_alloc | apply pw_below_drewN | apply below_drew1 | refine below_set ?_ GE459.out | refine below_set ?_ GE460.out | refine below_set ?_ GE469.out) | exact HB.out)) hb)
           clear HO472
           clear BK459
           clear BK460
           clear BK469
           clear HB
           have HO472 := n0_
           have HO476 := n1_
           have BK459 := n2_
           have BK460 := n3_
           have BK469 := n4_
           have HB := n5_
           clear n0_ n1_ n2_ n3_ n4_ n5_
           clear hb ho33
           refine hK.out _ _ ((blk_cell BK459.out 5).trans rfl) (fun hHeld => ?_)
           clear hK K
           refine norm_ (a' := ?_) ?_ ?_
           rotate_left
           ·show Act.put _ (some 50) _ = _
            simp only [Act.put, List.setIfInBounds_toArray, List.set_cons_zero, List.set_cons_succ, i64_w, i32_w]
            rfl
           exact norm_ (by first | (simp only [putAll, Act.put, List.setIfInBounds_toArray, List.set_cons_zero, List.set_cons_succ]; done) | (simp only [putAll, Act.put, List.setIfInBounds_toArray, List.set_cons_zero, List.set_cons_succ]; rfl)) (hJ2_3_7 (_, _) _ ⟨hHeld, (by (with_reducible repeat (first | apply Kd.R_alloc | apply Kd.R_drewN | apply Kd.R_drew)); exact Kd.R_mono HO472.out (fun _ hk => hk.2)), (by (with_reducible repeat (first | apply Kd.R_alloc | apply Kd.R_drewN | apply Kd.R_drew)); exact Kd.R_mono HO476.out (fun _ hk => hk.2)), (by (with_reducible repeat (first | refine blk_drewN ?_ _ | refine blk_drew ?_ | refine blk_alloc ?_ _)); exact BK459.out), (by (with_reducible repeat (first | refine blk_drewN ?_ _ | refine blk_drew ?_ | refine blk_alloc ?_ _)); exact BK460.out), (by (with_reducible repeat (first | refine blk_drewN ?_ _ | refine blk_drew ?_ | refine blk_alloc ?_ _)); exact BK469.out), (by repeat (first | (with_reducible first | exact HB.out | apply below_alloc | apply pw_below_drewN | apply below_drew1 | refine below_set ?_ GE459.out | refine below_set ?_ GE460.out | refine below_set ?_ GE469.out) | exact HB.out))⟩)
          ·skip
           refine box_step ?hg (N := 16) ?hd (cs := #[.int .i64 0, .int .i64 0]) (t := 25) ?hr ?_; (case hd => rfl); (case hg => rfl); (case hr => first | (go_simp; done) | (go_simp; rfl))
           intro gb480 hg w32 hbox hb
           have n0_ := Aside0.mk (Kd.R_below (by (with_reducible repeat (first | apply Kd.R_alloc | apply Kd.R_drewN | apply Kd.R_drew)); exact HO472.out) hb)
           have n1_ := Aside0.mk (blk_below (g := gb459) (o := .cells #[.int .i64 a0_0, .int .i64 a0_1, .int .i64 a0_2, .int .i64 a0_3, .int .i64 a0_4, .int .i64 a0_5, .int .i64 a0_6, .int .i64 a0_7, .int .i64 a0_8, .int .i64 a0_9, .int .i64 a0_10, .int .i64 a0_11] 23 (0, 0)) (by (with_reducible repeat (first | refine blk_drewN ?_ _ | refine blk_drew ?_ | refine blk_alloc ?_ _)); exact BK459.out) hb)
           have n2_ := Aside0.mk (blk_below (g := gb460) (o := .cells #[.int .i64 0, .int .i64 0] 25 (0, 0)) (by (with_reducible repeat (first | refine blk_drewN ?_ _ | refine blk_drew ?_ | refine blk_alloc ?_ _)); exact BK460.out) hb)
           have n3_ := Aside0.mk (blk_below (g := gb469) (o := .cells #[.int .i64 t467, .int .i64 t468] 25 (0, 0)) (by (with_reducible repeat (first | refine blk_drewN ?_ _ | refine blk_drew ?_ | refine blk_alloc ?_ _)); exact BK469.out) hb)
           have n4_ := Aside0.mk (below_step (by repeat (first | (with_reducible first | exact HB.out | apply below_alloc | apply pw_below_drewN | apply below_drew1 | refine below_set ?_ GE459.out | refine below_set ?_ GE460.out | refine below_set ?_ GE469.out) | exact HB.out)) hb)
           have n5_ := Aside0.mk (hbox)
           have n6_ := Aside0.mk ((by rw [hg]; exact (below_size (by repeat (first | (with_reducible first | exact HB.out | apply below_alloc | apply pw_below_drewN | apply below_drew1 | refine below_set ?_ GE459.out | refine below_set ?_ GE460.out | refine below_set ?_ GE469.out) | exact HB.out))) : w.heap.size ≤ gb480))
           have n7_ := Aside0.mk ((by rw [hg]; exact (below_size (by repeat (first | (with_reducible first | exact HB.out | apply below_alloc | apply pw_below_drewN | apply below_drew1 | refine below_set ?_ GE459.out | refine below_set ?_ GE460.out | refine below_set ?_ GE469.out) | exact HB.out))) : w.heap.size ≤ gb480))
           have n8_ := Aside0.mk ((by rw [hg]; exact Nat.ne_of_lt (blk_lt (g := gb459) (o := .cells #[.int .i64 a0_0, .int .i64 a0_1, .int .i64 a0_2, .int .i64 a0_3, .int .i64 a0_4, .int .i64 a0_5, .int .i64 a0_6, .int .i64 a0_7, .int .i64 a0_8, .int .i64 a0_9, .int .i64 a0_10, .int .i64 a0_11] 23 (0, 0)) (by (with_reducible repeat (first | refine blk_drewN ?_ _ | refine blk_drew ?_ | refine blk_alloc ?_ _)); exact BK459.out)) : gb459 ≠ gb480))
           have n9_ := Aside0.mk ((by rw [hg]; exact Nat.ne_of_gt (blk_lt (g := gb459) (o := .cells #[.int .i64 a0_0, .int .i64 a0_1, .int .i64 a0_2, .int .i64 a0_3, .int .i64 a0_4, .int .i64 a0_5, .int .i64 a0_6, .int .i64 a0_7, .int .i64 a0_8, .int .i64 a0_9, .int .i64 a0_10, .int .i64 a0_11] 23 (0, 0)) (by (with_reducible repeat (first | refine blk_drewN ?_ _ | refine blk_drew ?_ | refine blk_alloc ?_ _)); exact BK459.out)) : gb480 ≠ gb459))
           have n10_ := Aside0.mk ((by rw [hg]; exact Nat.ne_of_lt (blk_lt (g := gb460) (o := .cells #[.int .i64 0, .int .i64 0] 25 (0, 0)) (by (with_reducible repeat (first | refine blk_drewN ?_ _ | refine blk_drew ?_ | refine blk_alloc ?_ _)); exact BK460.out)) : gb460 ≠ gb480))
           have n11_ := Aside0.mk ((by rw [hg]; exact Nat.ne_of_gt (blk_lt (g := gb460) (o := .cells #[.int .i64 0, .int .i64 0] 25 (0, 0)) (by (with_reducible repeat (first | refine blk_drewN ?_ _ | refine blk_drew ?_ | refine blk_alloc ?_ _)); exact BK460.out)) : gb480 ≠ gb460))
           have n12_ := Aside0.mk ((by rw [hg]; exact Nat.ne_of_lt (blk_lt (g := gb469) (o := .cells #[.int .i64 t467, .int .i64 t468] 25 (0, 0)) (by (with_reducible repeat (first | refine blk_drewN ?_ _ | refine blk_drew ?_ | refine blk_alloc ?_ _)); exact BK469.out)) : gb469 ≠ gb480))
           have n13_ := Aside0.mk ((by rw [hg]; exact Nat.ne_of_gt (blk_lt (g := gb469) (o := .cells #[.int .i64 t467, .int .i64 t468] 25 (0, 0)) (by (with_reducible repeat (first | refine blk_drewN ?_ _ | refine blk_drew ?_ | refine blk_alloc ?_ _)); exact BK469.out)) : gb480 ≠ gb469))
           clear HO472
           clear BK459
           clear BK460
           clear BK469
           clear HB
           have HO472 := n0_
           have BK459 := n1_
           have BK460 := n2_
           have BK469 := n3_
           have HB := n4_
           have BK480 := n5_
           have GW480 := n6_
           have GE480 := n7_
           have NB459_480 := n8_
           have NB480_459 := n9_
           have NB460_480 := n10_
           have NB480_460 := n11_
           have NB469_480 := n12_
           have NB480_469 := n13_
           clear n0_ n1_ n2_ n3_ n4_ n5_ n6_ n7_ n8_ n9_ n10_ n11_ n12_ n13_
           clear hb hbox hg
           refine hK.out _ _ ((blk_cell BK459.out 5).trans rfl) (fun hHeld => ?_)
           clear hK K
           refine norm_ (a' := ?_) ?_ ?_
           rotate_left
           ·show Act.put _ (some 16) _ = _
            simp only [Act.put, List.setIfInBounds_toArray, List.set_cons_zero, List.set_cons_succ, i64_w, i32_w]
            rfl
           exact norm_ (by first | (simp only [putAll, Act.put, List.setIfInBounds_toArray, List.set_cons_zero, List.set_cons_succ]; done) | (simp only [putAll, Act.put, List.setIfInBounds_toArray, List.set_cons_zero, List.set_cons_succ]; rfl)) (hJ2_3_14 (_, gb480) _ ⟨hHeld, (by (with_reducible repeat (first | apply Kd.R_alloc | apply Kd.R_drewN | apply Kd.R_drew)); exact HO472.out), (by (with_reducible repeat (first | refine blk_drewN ?_ _ | refine blk_drew ?_ | refine blk_alloc ?_ _)); exact BK459.out), (by (with_reducible repeat (first | refine blk_drewN ?_ _ | refine blk_drew ?_ | refine blk_alloc ?_ _)); exact BK460.out), (by (with_reducible repeat (first | refine blk_drewN ?_ _ | refine blk_drew ?_ | refine blk_alloc ?_ _)); exact BK469.out), (by (with_reducible repeat (first | refine blk_drewN ?_ _ | refine blk_drew ?_ | refine blk_alloc ?_ _)); exact BK480.out), GW480.out, GE480.out, NB459_480.out, NB480_459.out, NB460_480.out, NB480_460.out, NB469_480.out, NB480_469.out, (by repeat (first | (with_reducible first | exact HB.out | apply below_alloc | apply pw_below_drewN | apply below_drew1 | refine below_set ?_ GE459.out | refine below_set ?_ GE460.out | refine below_set ?_ GE469.out | refine below_set ?_ GE480.out) | exact HB.out))⟩)
        ·skip
         rintro ⟨v471, v475, gb480⟩ w33 ⟨hS_, h0_, h1_, h2_, h3_, h4_, h5_, h6_, h7_, h8_, h9_, h10_, h11_, h12_, h13_, h14_⟩
         have n0_ : Aside0 (Kd.R (Kd.int .i64) 3 w33 w.heap.size (fun k_ => some k_ ≠ (v475 : Value).ownBlock) v471 y470) := ⟨h0_⟩
         have n1_ : Aside0 (Kd.R (Kd.int .i64) 3 w33 w.heap.size (fun k_ => some k_ ≠ (v471 : Value).ownBlock) v475 y474) := ⟨h1_⟩
         have n2_ : Aside0 (w33.heap[gb459]? = some (.cells #[.int .i64 a0_0, .int .i64 a0_1, .int .i64 a0_2, .int .i64 a0_3, .int .i64 a0_4, .int .i64 a0_5, .int .i64 a0_6, .int .i64 a0_7, .int .i64 a0_8, .int .i64 a0_9, .int .i64 a0_10, .int .i64 a0_11] 23 (0, 0))) := ⟨h2_⟩
         have n3_ : Aside0 (w33.heap[gb460]? = some (.cells #[.int .i64 0, .int .i64 0] 25 (0, 0))) := ⟨h3_⟩
         have n4_ : Aside0 (w33.heap[gb469]? = some (.cells #[.int .i64 t467, .int .i64 t468] 25 (0, 0))) := ⟨h4_⟩
         have n5_ : Aside0 (w33.heap[gb480]? = some (.cells #[.int .i64 0, .int .i64 0] 25 (0, 0))) := ⟨h5_⟩
         have n6_ : Aside0 (w.heap.size ≤ gb480) := ⟨h6_⟩
         have n7_ : Aside0 (w.heap.size ≤ gb480) := ⟨h7_⟩
         have n8_ : Aside0 (gb459 ≠ gb480) := ⟨h8_⟩
         have n9_ : Aside0 (gb480 ≠ gb459) := ⟨h9_⟩
         have n10_ : Aside0 (gb460 ≠ gb480) := ⟨h10_⟩
         have n11_ : Aside0 (gb480 ≠ gb460) := ⟨h11_⟩
         have n12_ : Aside0 (gb469 ≠ gb480) := ⟨h12_⟩
         have n13_ : Aside0 (gb480 ≠ gb469) := ⟨h13_⟩
         have n14_ : Aside0 (Below w.heap.size w w33) := ⟨h14_⟩
         clear BK459
         clear BK460
         clear BK469
         clear HB
         clear h0_ h1_ h2_ h3_ h4_ h5_ h6_ h7_ h8_ h9_ h10_ h11_ h12_ h13_ h14_
         have HO472 := n0_
         have HO476 := n1_
         have BK459 := n2_
         have BK460 := n3_
         have BK469 := n4_
         have BK480 := n5_
         have GW480 := n6_
         have GE480 := n7_
         have NB459_480 := n8_
         have NB480_459 := n9_
         have NB460_480 := n10_
         have NB480_460 := n11_
         have NB469_480 := n12_
         have NB480_469 := n13_
         have HB := n14_
         clear n0_ n1_ n2_ n3_ n4_ n5_ n6_ n7_ n8_ n9_ n10_ n11_ n12_ n13_ n14_
         have hHeld : w33.cell? ⟨gb459, 5, none⟩ = some (.int .i64 a0_5) := hS_
         obtain ⟨Ao34, co34, eo34⟩ := Kd.R_slice HO472.out
         (first | subst eo34 | (injection eo34 with f1_ f2_ f3_; have f4_ := f1_.symm; have f5_ := f3_.symm; clear f1_ f2_ f3_; subst f4_; subst f5_))
         refine norm_ (a' := ?_) ?_ ?_
         rotate_left
         ·simp only [putAll, Act.put, List.setIfInBounds_toArray, List.set_cons_zero, List.set_cons_succ]
          rfl
         refine one_ (i := 3) (N := some 46) #[true, true, true, true, true, true, true, true, false, false, true, true, true, false, true, false] rfl rfl (one_of HT_.out (by kernel_rfl)) (by decide) (fun K hK => ?_)
         refine goes_ Try.func44 (by kernel_rfl) rfl #[.slice Ao34 y470.length co34] (by rfl) rfl rfl (by (try simp only [List.map_toArray, List.map_cons, List.map_nil]); first | done | rfl | (simp only [List.length_drop, List.length_take]; rfl)) ?_
         with_reducible refine (clepsydraref01_Add.calls k _ _ y470 t473 _ ?side1 ?side2 A13.out).mono ?_
         (case side1 => repeat (first | exact (Kd.R_reads' HO472.out).2.2 | (with_reducible refine Kd.C_alloc ?_ _) | (with_reducible refine Kd.C_drewN ?_ _) | (with_reducible refine Kd.C_drew ?_)))
         (case side2 => exact (Kd.R_reads' HO472.out).2.1)
         rintro e w' ⟨rfl, ⟨nd, rfl⟩⟩
         refine ⟨_, rfl, ?_⟩
         refine hK.out _ _ ((blk_cell BK459.out 5).trans rfl) (fun hHeld => ?_)
         clear hK K
         refine norm_ (a' := ?_) ?_ ?_
         rotate_left
         ·show Act.put _ (some 46) _ = _
          simp only [Act.put, List.setIfInBounds_toArray, List.set_cons_zero, List.set_cons_succ, i64_w, i32_w]
          rfl
         exact norm_ (by first | (simp only [putAll, Act.put, List.setIfInBounds_toArray, List.set_cons_zero, List.set_cons_succ]; done) | (simp only [putAll, Act.put, List.setIfInBounds_toArray, List.set_cons_zero, List.set_cons_succ]; rfl)) (hJ2_3_7_14 (.slice Ao34 y470.length co34, v475, gb480) _ ⟨hHeld, (by (with_reducible repeat (first | apply Kd.R_alloc | apply Kd.R_drewN | apply Kd.R_drew)); exact HO472.out), (by (with_reducible repeat (first | apply Kd.R_alloc | apply Kd.R_drewN | apply Kd.R_drew)); exact HO476.out), (by (with_reducible repeat (first | refine blk_drewN ?_ _ | refine blk_drew ?_ | refine blk_alloc ?_ _)); exact BK459.out), (by (with_reducible repeat (first | refine blk_drewN ?_ _ | refine blk_drew ?_ | refine blk_alloc ?_ _)); exact BK460.out), (by (with_reducible repeat (first | refine blk_drewN ?_ _ | refine blk_drew ?_ | refine blk_alloc ?_ _)); exact BK469.out), (by (with_reducible repeat (first | refine blk_drewN ?_ _ | refine blk_drew ?_ | refine blk_alloc ?_ _)); exact BK480.out), GW480.out, GE480.out, NB459_480.out, NB480_459.out, NB460_480.out, NB480_460.out, NB469_480.out, NB480_469.out, (by repeat (first | (with_reducible first | exact HB.out | apply below_alloc | apply pw_below_drewN | apply below_drew1 | refine below_set ?_ GE459.out | refine below_set ?_ GE460.out | refine below_set ?_ GE469.out | refine below_set ?_ GE480.out) | exact HB.out))⟩)
       ·skip
        rintro ⟨v471, gb480⟩ w32 ⟨hS_, h0_, h1_, h2_, h3_, h4_, h5_, h6_, h7_, h8_, h9_, h10_, h11_, h12_, h13_⟩
        have n0_ : Aside0 (Kd.R (Kd.int .i64) 3 w32 w.heap.size (fun _ => True) v471 y470) := ⟨h0_⟩
        have n1_ : Aside0 (w32.heap[gb459]? = some (.cells #[.int .i64 a0_0, .int .i64 a0_1, .int .i64 a0_2, .int .i64 a0_3, .int .i64 a0_4, .int .i64 a0_5, .int .i64 a0_6, .int .i64 a0_7, .int .i64 a0_8, .int .i64 a0_9, .int .i64 a0_10, .int .i64 a0_11] 23 (0, 0))) := ⟨h1_⟩
        have n2_ : Aside0 (w32.heap[gb460]? = some (.cells #[.int .i64 0, .int .i64 0] 25 (0, 0))) := ⟨h2_⟩
        have n3_ : Aside0 (w32.heap[gb469]? = some (.cells #[.int .i64 t467, .int .i64 t468] 25 (0, 0))) := ⟨h3_⟩
        have n4_ : Aside0 (w32.heap[gb480]? = some (.cells #[.int .i64 0, .int .i64 0] 25 (0, 0))) := ⟨h4_⟩
        have n5_ : Aside0 (w.heap.size ≤ gb480) := ⟨h5_⟩
        have n6_ : Aside0 (w.heap.size ≤ gb480) := ⟨h6_⟩
        have n7_ : Aside0 (gb459 ≠ gb480) := ⟨h7_⟩
        have n8_ : Aside0 (gb480 ≠ gb459) := ⟨h8_⟩
        have n9_ : Aside0 (gb460 ≠ gb480) := ⟨h9_⟩
        have n10_ : Aside0 (gb480 ≠ gb460) := ⟨h10_⟩
        have n11_ : Aside0 (gb469 ≠ gb480) := ⟨h11_⟩
        have n12_ : Aside0 (gb480 ≠ gb469) := ⟨h12_⟩
        have n13_ : Aside0 (Below w.heap.size w w32) := ⟨h13_⟩
        clear BK459
        clear BK460
        clear BK469
        clear HB
        clear h0_ h1_ h2_ h3_ h4_ h5_ h6_ h7_ h8_ h9_ h10_ h11_ h12_ h13_
        have HO472 := n0_
        have BK459 := n1_
        have BK460 := n2_
        have BK469 := n3_
        have BK480 := n4_
        have GW480 := n5_
        have GE480 := n6_
        have NB459_480 := n7_
        have NB480_459 := n8_
        have NB460_480 := n9_
        have NB480_460 := n10_
        have NB469_480 := n11_
        have NB480_469 := n12_
        have HB := n13_
        clear n0_ n1_ n2_ n3_ n4_ n5_ n6_ n7_ n8_ n9_ n10_ n11_ n12_ n13_
        have hHeld : w32.cell? ⟨gb459, 5, none⟩ = some (.int .i64 a0_5) := hS_
        refine norm_ (a' := ?_) ?_ ?_
        rotate_left
        ·simp only [putAll, Act.put, List.setIfInBounds_toArray, List.set_cons_zero, List.set_cons_succ]
         rfl
        refine one_ (i := 7) (N := some 50) #[true, true, true, true, true, true, true, true, false, false, true, true, true, false, true, false] rfl rfl (one_of HT_.out (by kernel_rfl)) (by decide) (fun K hK => ?_)
        refine Kd.R_lit_step (Kd.int .i64) _ 3 ?hg (N := 50) ?hd (xs := ([t462, a0_5] : List Int)) (inner := [.int .i64 t462, .int .i64 a0_5]) (ok := fun _ => True) (okp := fun _ => True) ?hr ?hp (fun _ hk => hk) trivial (Below.refl _ _) (Nat.le_refl _) (by simp) ?_; (case hd => rfl); (case hg => rfl); (case hr => first | (go_simp; done) | (go_simp; rfl)); (case hp => exact (Reps.one (show Kd.M (Kd.int .i64) _ _ _ t462 [.int .i64 t462] from rfl) (Reps.one (show Kd.M (Kd.int .i64) _ _ _ a0_5 [.int .i64 a0_5] from rfl) (Reps.none _ _))))
        intro v475 w33 ho34 hb hg_ hnew_
        clear hg_ hnew_
        (first | rw [← Ny474.out] at ho34 | (simp only [Int.reduceToNat] at ho34; rw [← Ny474.out] at ho34))
        have n0_ := Aside0.mk (Kd.R_elder' (by (with_reducible repeat (first | apply Kd.R_alloc | apply Kd.R_drewN | apply Kd.R_drew)); exact HO472.out) (Kd.R_base ho34) hb)
        have n1_ := Aside0.mk (Kd.R_lower (Kd.R_new' ho34 (Kd.R_lt (by (with_reducible repeat (first | apply Kd.R_alloc | apply Kd.R_drewN | apply Kd.R_drew)); exact HO472.out))) (below_size (by repeat (first | (with_reducible first | exact HB.out | apply below_alloc | apply pw_below_drewN | apply below_drew1 | refine below_set ?_ GE459.out | refine below_set ?_ GE460.out | refine below_set ?_ GE469.out | refine below_set ?_ GE480.out) | exact HB.out))))
        have n2_ := Aside0.mk (blk_below (g := gb459) (o := .cells #[.int .i64 a0_0, .int .i64 a0_1, .int .i64 a0_2, .int .i64 a0_3, .int .i64 a0_4, .int .i64 a0_5, .int .i64 a0_6, .int .i64 a0_7, .int .i64 a0_8, .int .i64 a0_9, .int .i64 a0_10, .int .i64 a0_11] 23 (0, 0)) (by (with_reducible repeat (first | refine blk_drewN ?_ _ | refine blk_drew ?_ | refine blk_alloc ?_ _)); exact BK459.out) hb)
        have n3_ := Aside0.mk (blk_below (g := gb460) (o := .cells #[.int .i64 0, .int .i64 0] 25 (0, 0)) (by (with_reducible repeat (first | refine blk_drewN ?_ _ | refine blk_drew ?_ | refine blk_alloc ?_ _)); exact BK460.out) hb)
        have n4_ := Aside0.mk (blk_below (g := gb469) (o := .cells #[.int .i64 t467, .int .i64 t468] 25 (0, 0)) (by (with_reducible repeat (first | refine blk_drewN ?_ _ | refine blk_drew ?_ | refine blk_alloc ?_ _)); exact BK469.out) hb)
        have n5_ := Aside0.mk (blk_below (g := gb480) (o := .cells #[.int .i64 0, .int .i64 0] 25 (0, 0)) (by (with_reducible repeat (first | refine blk_drewN ?_ _ | refine blk_drew ?_ | refine blk_alloc ?_ _)); exact BK480.out) hb)
        have n6_ := Aside0.mk (below_step (by repeat (first | (with_reducible first | exact HB.out | apply below_alloc | apply pw_below_drewN | apply below_drew1 | refine below_set ?_ GE459.out | refine below_set ?_ GE460.out | refine below_set ?_ GE469.out | refine below_set ?_ GE480.out) | exact HB.out)) hb)
        clear HO472
        clear BK459
        clear BK460
        clear BK469
        clear BK480
        clear HB
        have HO472 := n0_
        have HO476 := n1_
        have BK459 := n2_
        have BK460 := n3_
        have BK469 := n4_
        have BK480 := n5_
        have HB := n6_
        clear n0_ n1_ n2_ n3_ n4_ n5_ n6_
        clear hb ho34
        refine hK.out _ _ ((blk_cell BK459.out 5).trans rfl) (fun hHeld => ?_)
        clear hK K
        refine norm_ (a' := ?_) ?_ ?_
        rotate_left
        ·show Act.put _ (some 50) _ = _
         simp only [Act.put, List.setIfInBounds_toArray, List.set_cons_zero, List.set_cons_succ, i64_w, i32_w]
         rfl
        exact norm_ (by first | (simp only [putAll, Act.put, List.setIfInBounds_toArray, List.set_cons_zero, List.set_cons_succ]; done) | (simp only [putAll, Act.put, List.setIfInBounds_toArray, List.set_cons_zero, List.set_cons_succ]; rfl)) (hJ2_3_7_14 (_, _, gb480) _ ⟨hHeld, (by (with_reducible repeat (first | apply Kd.R_alloc | apply Kd.R_drewN | apply Kd.R_drew)); exact Kd.R_mono HO472.out (fun _ hk => hk.2)), (by (with_reducible repeat (first | apply Kd.R_alloc | apply Kd.R_drewN | apply Kd.R_drew)); exact Kd.R_mono HO476.out (fun _ hk => hk.2)), (by (with_reducible repeat (first | refine blk_drewN ?_ _ | refine blk_drew ?_ | refine blk_alloc ?_ _)); exact BK459.out), (by (with_reducible repeat (first | refine blk_drewN ?_ _ | refine blk_drew ?_ | refine blk_alloc ?_ _)); exact BK460.out), (by (with_reducible repeat (first | refine blk_drewN ?_ _ | refine blk_drew ?_ | refine blk_alloc ?_ _)); exact BK469.out), (by (with_reducible repeat (first | refine blk_drewN ?_ _ | refine blk_drew ?_ | refine blk_alloc ?_ _)); exact BK480.out), GW480.out, GE480.out, NB459_480.out, NB480_459.out, NB460_480.out, NB480_460.out, NB469_480.out, NB480_469.out, (by repeat (first | (with_reducible first | exact HB.out | apply below_alloc | apply pw_below_drewN | apply below_drew1 | refine below_set ?_ GE459.out | refine below_set ?_ GE460.out | refine below_set ?_ GE469.out | refine below_set ?_ GE480.out) | exact HB.out))⟩)
      ·skip
       rintro ⟨v471, v475⟩ w33 ⟨hS_, h0_, h1_, h2_, h3_, h4_, h5_⟩
       have n0_ : Aside0 (Kd.R (Kd.int .i64) 3 w33 w.heap.size (fun k_ => some k_ ≠ (v475 : Value).ownBlock) v471 y470) := ⟨h0_⟩
       have n1_ : Aside0 (Kd.R (Kd.int .i64) 3 w33 w.heap.size (fun k_ => some k_ ≠ (v471 : Value).ownBlock) v475 y474) := ⟨h1_⟩
       have n2_ : Aside0 (w33.heap[gb459]? = some (.cells #[.int .i64 a0_0, .int .i64 a0_1, .int .i64 a0_2, .int .i64 a0_3, .int .i64 a0_4, .int .i64 a0_5, .int .i64 a0_6, .int .i64 a0_7, .int .i64 a0_8, .int .i64 a0_9, .int .i64 a0_10, .int .i64 a0_11] 23 (0, 0))) := ⟨h2_⟩
       have n3_ : Aside0 (w33.heap[gb460]? = some (.cells #[.int .i64 0, .int .i64 0] 25 (0, 0))) := ⟨h3_⟩
       have n4_ : Aside0 (w33.heap[gb469]? = some (.cells #[.int .i64 t467, .int .i64 t468] 25 (0, 0))) := ⟨h4_⟩
       have n5_ : Aside0 (Below w.heap.size w w33) := ⟨h5_⟩
       clear BK459
       clear BK460
       clear BK469
       clear HB
       clear h0_ h1_ h2_ h3_ h4_ h5_
       have HO472 := n0_
       have HO476 := n1_
       have BK459 := n2_
       have BK460 := n3_
       have BK469 := n4_
       have HB := n5_
       clear n0_ n1_ n2_ n3_ n4_ n5_
       have hHeld : w33.cell? ⟨gb459, 5, none⟩ = some (.int .i64 a0_5) := hS_
       obtain ⟨Ao34, co34, eo34⟩ := Kd.R_slice HO476.out
       (first | subst eo34 | (injection eo34 with f1_ f2_ f3_; have f4_ := f1_.symm; have f5_ := f3_.symm; clear f1_ f2_ f3_; subst f4_; subst f5_))
       refine norm_ (a' := ?_) ?_ ?_
       rotate_left
       ·simp only [putAll, Act.put, List.setIfInBounds_toArray, List.set_cons_zero, List.set_cons_succ]
        rfl
       refine two_ (i := 8) (j := 14) (Ni := some 51) (Nj := some 16) #[true, true, true, true, true, true, true, true, true, false, true, true, true, false, false, false] #[true, true, true, true, true, true, true, true, false, false, true, true, true, false, true, false] rfl rfl rfl rfl (two_of HT_.out (by kernel_rfl)) (by decide) (by decide) (fun K hK => ?_) (fun K hK => ?_)
       ·skip
        refine goes_ Try.func44 (by kernel_rfl) rfl #[.slice Ao34 y474.length co34] (by rfl) rfl rfl (by (try simp only [List.map_toArray, List.map_cons, List.map_nil]); first | done | rfl | (simp only [List.length_drop, List.length_take]; rfl)) ?_
        with_reducible refine (clepsydraref01_Add.calls k _ _ y474 t477 _ ?side1 ?side2 A14.out).mono ?_
        (case side1 => repeat (first | exact (Kd.R_reads' HO476.out).2.2 | (with_reducible refine Kd.C_alloc ?_ _) | (with_reducible refine Kd.C_drewN ?_ _) | (with_reducible refine Kd.C_drew ?_)))
        (case side2 => exact (Kd.R_reads' HO476.out).2.1)
        rintro e w' ⟨rfl, ⟨nd, rfl⟩⟩
        refine ⟨_, rfl, ?_⟩
        refine hK.out _ _ ((blk_cell BK459.out 5).trans rfl) (fun hHeld => ?_)
        clear hK K
        refine norm_ (a' := ?_) ?_ ?_
        rotate_left
        ·show Act.put _ (some 51) _ = _
         simp only [Act.put, List.setIfInBounds_toArray, List.set_cons_zero, List.set_cons_succ, i64_w, i32_w]
         rfl
        refine pure_ (i := 9) (N := some 52) (v := ?_) (a' := ?_) #[true, true, true, true, true, true, true, true, true, true, true, true, true, false, false, false] rfl rfl (any_of HT_.out (by kernel_rfl)) (fun _ _ _ h => h) (Or.inl ⟨by rfl, ?_⟩) ?_ ?_
        rotate_left
        ·intro w'
         go_simp
         with_reducible rfl
        rotate_left
        ·simp only [Act.put, List.setIfInBounds_toArray, List.set_cons_zero, List.set_cons_succ, i64_w, i32_w]
         rfl
        exact norm_ (by first | (simp only [putAll, Act.put, List.setIfInBounds_toArray, List.set_cons_zero, List.set_cons_succ]; done) | (simp only [putAll, Act.put, List.setIfInBounds_toArray, List.set_cons_zero, List.set_cons_succ]; rfl)) (hJ2_3_7_8 (v471, .slice Ao34 y474.length co34) _ ⟨hHeld, (by (with_reducible repeat (first | apply Kd.R_alloc | apply Kd.R_drewN | apply Kd.R_drew)); exact HO472.out), (by (with_reducible repeat (first | apply Kd.R_alloc | apply Kd.R_drewN | apply Kd.R_drew)); exact HO476.out), (by (with_reducible repeat (first | refine blk_drewN ?_ _ | refine blk_drew ?_ | refine blk_alloc ?_ _)); exact BK459.out), (by (with_reducible repeat (first | refine blk_drewN ?_ _ | refine blk_drew ?_ | refine blk_alloc ?_ _)); exact BK460.out), (by (with_reducible repeat (first | refine blk_drewN ?_ _ | refine blk_drew ?_ | refine blk_alloc ?_ _)); exact BK469.out), (by repeat (first | (with_reducible first | exact HB.out | apply below_alloc | apply pw_below_drewN | apply below_drew1 | refine below_set ?_ GE459.out | refine below_set ?_ GE460.out | refine below_set ?_ GE469.out) | exact HB.out))⟩)
       ·skip
        refine box_step ?hg (N := 16) ?hd (cs := #[.int .i64 0, .int .i64 0]) (t := 25) ?hr ?_; (case hd => rfl); (case hg => rfl); (case hr => first | (go_simp; done) | (go_simp; rfl))
        intro gb480 hg w34 hbox hb
        have n0_ := Aside0.mk (Kd.R_below (by (with_reducible repeat (first | apply Kd.R_alloc | apply Kd.R_drewN | apply Kd.R_drew)); exact HO472.out) hb)
        have n1_ := Aside0.mk (Kd.R_below (by (with_reducible repeat (first | apply Kd.R_alloc | apply Kd.R_drewN | apply Kd.R_drew)); exact HO476.out) hb)
        have n2_ := Aside0.mk (blk_below (g := gb459) (o := .cells #[.int .i64 a0_0, .int .i64 a0_1, .int .i64 a0_2, .int .i64 a0_3, .int .i64 a0_4, .int .i64 a0_5, .int .i64 a0_6, .int .i64 a0_7, .int .i64 a0_8, .int .i64 a0_9, .int .i64 a0_10, .int .i64 a0_11] 23 (0, 0)) (by (with_reducible repeat (first | refine blk_drewN ?_ _ | refine blk_drew ?_ | refine blk_alloc ?_ _)); exact BK459.out) hb)
        have n3_ := Aside0.mk (blk_below (g := gb460) (o := .cells #[.int .i64 0, .int .i64 0] 25 (0, 0)) (by (with_reducible repeat (first | refine blk_drewN ?_ _ | refine blk_drew ?_ | refine blk_alloc ?_ _)); exact BK460.out) hb)
        have n4_ := Aside0.mk (blk_below (g := gb469) (o := .cells #[.int .i64 t467, .int .i64 t468] 25 (0, 0)) (by (with_reducible repeat (first | refine blk_drewN ?_ _ | refine blk_drew ?_ | refine blk_alloc ?_ _)); exact BK469.out) hb)
        have n5_ := Aside0.mk (below_step (by repeat (first | (with_reducible first | exact HB.out | apply below_alloc | apply pw_below_drewN | apply below_drew1 | refine below_set ?_ GE459.out | refine below_set ?_ GE460.out | refine below_set ?_ GE469.out) | exact HB.out)) hb)
        have n6_ := Aside0.mk (hbox)
        have n7_ := Aside0.mk ((by rw [hg]; exact (below_size (by repeat (first | (with_reducible first | exact HB.out | apply below_alloc | apply pw_below_drewN | apply below_drew1 | refine below_set ?_ GE459.out | refine below_set ?_ GE460.out | refine below_set ?_ GE469.out) | exact HB.out))) : w.heap.size ≤ gb480))
        have n8_ := Aside0.mk ((by rw [hg]; exact (below_size (by repeat (first | (with_reducible first | exact HB.out | apply below_alloc | apply pw_below_drewN | apply below_drew1 | refine below_set ?_ GE459.out | refine below_set ?_ GE460.out | refine below_set ?_ GE469.out) | exact HB.out))) : w.heap.size ≤ gb480))
        have n9_ := Aside0.mk ((by rw [hg]; exact Nat.ne_of_lt (blk_lt (g := gb459) (o := .cells #[.int .i64 a0_0, .int .i64 a0_1, .int .i64 a0_2, .int .i64 a0_3, .int .i64 a0_4, .int .i64 a0_5, .int .i64 a0_6, .int .i64 a0_7, .int .i64 a0_8, .int .i64 a0_9, .int .i64 a0_10, .int .i64 a0_11] 23 (0, 0)) (by (with_reducible repeat (first | refine blk_drewN ?_ _ | refine blk_drew ?_ | refine blk_alloc ?_ _)); exact BK459.out)) : gb459 ≠ gb480))
        have n10_ := Aside0.mk ((by rw [hg]; exact Nat.ne_of_gt (blk_lt (g := gb459) (o := .cells #[.int .i64 a0_0, .int .i64 a0_1, .int .i64 a0_2, .int .i64 a0_3, .int .i64 a0_4, .int .i64 a0_5, .int .i64 a0_6, .int .i64 a0_7, .int .i64 a0_8, .int .i64 a0_9, .int .i64 a0_10, .int .i64 a0_11] 23 (0, 0)) (by (with_reducible repeat (first | refine blk_drewN ?_ _ | refine blk_drew ?_ | refine blk_alloc ?_ _)); exact BK459.out)) : gb480 ≠ gb459))
        have n11_ := Aside0.mk ((by rw [hg]; exact Nat.ne_of_lt (blk_lt (g := gb460) (o := .cells #[.int .i64 0, .int .i64 0] 25 (0, 0)) (by (with_reducible repeat (first | refine blk_drewN ?_ _ | refine blk_drew ?_ | refine blk_alloc ?_ _)); exact BK460.out)) : gb460 ≠ gb480))
        have n12_ := Aside0.mk ((by rw [hg]; exact Nat.ne_of_gt (blk_lt (g := gb460) (o := .cells #[.int .i64 0, .int .i64 0] 25 (0, 0)) (by (with_reducible repeat (first | refine blk_drewN ?_ _ | refine blk_drew ?_ | refine blk_alloc ?_ _)); exact BK460.out)) : gb480 ≠ gb460))
        have n13_ := Aside0.mk ((by rw [hg]; exact Nat.ne_of_lt (blk_lt (g := gb469) (o := .cells #[.int .i64 t467, .int .i64 t468] 25 (0, 0)) (by (with_reducible repeat (first | refine blk_drewN ?_ _ | refine blk_drew ?_ | refine blk_alloc ?_ _)); exact BK469.out)) : gb469 ≠ gb480))
        have n14_ := Aside0.mk ((by rw [hg]; exact Nat.ne_of_gt (blk_lt (g := gb469) (o := .cells #[.int .i64 t467, .int .i64 t468] 25 (0, 0)) (by (with_reducible repeat (first | refine blk_drewN ?_ _ | refine blk_drew ?_ | refine blk_alloc ?_ _)); exact BK469.out)) : gb480 ≠ gb469))
        clear HO472
        clear HO476
        clear BK459
        clear BK460
        clear BK469
        clear HB
        have HO472 := n0_
        have HO476 := n1_
        have BK459 := n2_
        have BK460 := n3_
        have BK469 := n4_
        have HB := n5_
        have BK480 := n6_
        have GW480 := n7_
        have GE480 := n8_
        have NB459_480 := n9_
        have NB480_459 := n10_
        have NB460_480 := n11_
        have NB480_460 := n12_
        have NB469_480 := n13_
        have NB480_469 := n14_
        clear n0_ n1_ n2_ n3_ n4_ n5_ n6_ n7_ n8_ n9_ n10_ n11_ n12_ n13_ n14_
        clear hb hbox hg
        refine hK.out _ _ ((blk_cell BK459.out 5).trans rfl) (fun hHeld => ?_)
        clear hK K
        refine norm_ (a' := ?_) ?_ ?_
        rotate_left
        ·show Act.put _ (some 16) _ = _
         simp only [Act.put, List.setIfInBounds_toArray, List.set_cons_zero, List.set_cons_succ, i64_w, i32_w]
         rfl
        exact norm_ (by first | (simp only [putAll, Act.put, List.setIfInBounds_toArray, List.set_cons_zero, List.set_cons_succ]; done) | (simp only [putAll, Act.put, List.setIfInBounds_toArray, List.set_cons_zero, List.set_cons_succ]; rfl)) (hJ2_3_7_14 (_, _, gb480) _ ⟨hHeld, (by (with_reducible repeat (first | apply Kd.R_alloc | apply Kd.R_drewN | apply Kd.R_drew)); exact HO472.out), (by (with_reducible repeat (first | apply Kd.R_alloc | apply Kd.R_drewN | apply Kd.R_drew)); exact HO476.out), (by (with_reducible repeat (first | refine blk_drewN ?_ _ | refine blk_drew ?_ | refine blk_alloc ?_ _)); exact BK459.out), (by (with_reducible repeat (first | refine blk_drewN ?_ _ | refine blk_drew ?_ | refine blk_alloc ?_ _)); exact BK460.out), (by (with_reducible repeat (first | refine blk_drewN ?_ _ | refine blk_drew ?_ | refine blk_alloc ?_ _)); exact BK469.out), (by (with_reducible repeat (first | refine blk_drewN ?_ _ | refine blk_drew ?_ | refine blk_alloc ?_ _)); exact BK480.out), GW480.out, GE480.out, NB459_480.out, NB480_459.out, NB460_480.out, NB480_460.out, NB469_480.out, NB480_469.out, (by repeat (first | (with_reducible first | exact HB.out | apply below_alloc | apply pw_below_drewN | apply below_drew1 | refine below_set ?_ GE459.out | refine below_set ?_ GE460.out | refine below_set ?_ GE469.out | refine below_set ?_ GE480.out) | exact HB.out))⟩)
     ·skip
      rintro ⟨v471, v475, gb480⟩ w34 ⟨hS_, h0_, h1_, h2_, h3_, h4_, h5_, h6_, h7_, h8_, h9_, h10_, h11_, h12_, h13_, h14_⟩
      have n0_ : Aside0 (Kd.R (Kd.int .i64) 3 w34 w.heap.size (fun k_ => some k_ ≠ (v475 : Value).ownBlock) v471 y470) := ⟨h0_⟩
      have n1_ : Aside0 (Kd.R (Kd.int .i64) 3 w34 w.heap.size (fun k_ => some k_ ≠ (v471 : Value).ownBlock) v475 y474) := ⟨h1_⟩
      have n2_ : Aside0 (w34.heap[gb459]? = some (.cells #[.int .i64 a0_0, .int .i64 a0_1, .int .i64 a0_2, .int .i64 a0_3, .int .i64 a0_4, .int .i64 a0_5, .int .i64 a0_6, .int .i64 a0_7, .int .i64 a0_8, .int .i64 a0_9, .int .i64 a0_10, .int .i64 a0_11] 23 (0, 0))) := ⟨h2_⟩
      have n3_ : Aside0 (w34.heap[gb460]? = some (.cells #[.int .i64 0, .int .i64 0] 25 (0, 0))) := ⟨h3_⟩
      have n4_ : Aside0 (w34.heap[gb469]? = some (.cells #[.int .i64 t467, .int .i64 t468] 25 (0, 0))) := ⟨h4_⟩
      have n5_ : Aside0 (w34.heap[gb480]? = some (.cells #[.int .i64 0, .int .i64 0] 25 (0, 0))) := ⟨h5_⟩
      have n6_ : Aside0 (w.heap.size ≤ gb480) := ⟨h6_⟩
      have n7_ : Aside0 (w.heap.size ≤ gb480) := ⟨h7_⟩
      have n8_ : Aside0 (gb459 ≠ gb480) := ⟨h8_⟩
      have n9_ : Aside0 (gb480 ≠ gb459) := ⟨h9_⟩
      have n10_ : Aside0 (gb460 ≠ gb480) := ⟨h10_⟩
      have n11_ : Aside0 (gb480 ≠ gb460) := ⟨h11_⟩
      have n12_ : Aside0 (gb469 ≠ gb480) := ⟨h12_⟩
      have n13_ : Aside0 (gb480 ≠ gb469) := ⟨h13_⟩
      have n14_ : Aside0 (Below w.heap.size w w34) := ⟨h14_⟩
      clear BK459
      clear BK460
      clear BK469
      clear HB
      clear h0_ h1_ h2_ h3_ h4_ h5_ h6_ h7_ h8_ h9_ h10_ h11_ h12_ h13_ h14_
      have HO472 := n0_
      have HO476 := n1_
      have BK459 := n2_
      have BK460 := n3_
      have BK469 := n4_
      have BK480 := n5_
      have GW480 := n6_
      have GE480 := n7_
      have NB459_480 := n8_
      have NB480_459 := n9_
      have NB460_480 := n10_
      have NB480_460 := n11_
      have NB469_480 := n12_
      have NB480_469 := n13_
      have HB := n14_
      clear n0_ n1_ n2_ n3_ n4_ n5_ n6_ n7_ n8_ n9_ n10_ n11_ n12_ n13_ n14_
      have hHeld : w34.cell? ⟨gb459, 5, none⟩ = some (.int .i64 a0_5) := hS_
      obtain ⟨Ao35, co35, eo35⟩ := Kd.R_slice HO476.out
      (first | subst eo35 | (injection eo35 with f1_ f2_ f3_; have f4_ := f1_.symm; have f5_ := f3_.symm; clear f1_ f2_ f3_; subst f4_; subst f5_))
      refine norm_ (a' := ?_) ?_ ?_
      rotate_left
      ·simp only [putAll, Act.put, List.setIfInBounds_toArray, List.set_cons_zero, List.set_cons_succ]
       rfl
      refine one_ (i := 8) (N := some 51) #[true, true, true, true, true, true, true, true, true, false, true, true, true, false, true, false] rfl rfl (one_of HT_.out (by kernel_rfl)) (by decide) (fun K hK => ?_)
      refine goes_ Try.func44 (by kernel_rfl) rfl #[.slice Ao35 y474.length co35] (by rfl) rfl rfl (by (try simp only [List.map_toArray, List.map_cons, List.map_nil]); first | done | rfl | (simp only [List.length_drop, List.length_take]; rfl)) ?_
      with_reducible refine (clepsydraref01_Add.calls k _ _ y474 t477 _ ?side1 ?side2 A14.out).mono ?_
      (case side1 => repeat (first | exact (Kd.R_reads' HO476.out).2.2 | (with_reducible refine Kd.C_alloc ?_ _) | (with_reducible refine Kd.C_drewN ?_ _) | (with_reducible refine Kd.C_drew ?_)))
      (case side2 => exact (Kd.R_reads' HO476.out).2.1)
      rintro e w' ⟨rfl, ⟨nd, rfl⟩⟩
      refine ⟨_, rfl, ?_⟩
      refine hK.out _ _ ((blk_cell BK459.out 5).trans rfl) (fun hHeld => ?_)
      clear hK K
      refine norm_ (a' := ?_) ?_ ?_
      rotate_left
      ·show Act.put _ (some 51) _ = _
       simp only [Act.put, List.setIfInBounds_toArray, List.set_cons_zero, List.set_cons_succ, i64_w, i32_w]
       rfl
      refine pure_ (i := 9) (N := some 52) (v := ?_) (a' := ?_) #[true, true, true, true, true, true, true, true, true, true, true, true, true, false, true, false] rfl rfl (any_of HT_.out (by kernel_rfl)) (fun _ _ _ h => h) (Or.inl ⟨by rfl, ?_⟩) ?_ ?_
      rotate_left
      ·intro w'
       go_simp
       with_reducible rfl
      rotate_left
      ·simp only [Act.put, List.setIfInBounds_toArray, List.set_cons_zero, List.set_cons_succ, i64_w, i32_w]
       rfl
      exact norm_ (by first | (simp only [putAll, Act.put, List.setIfInBounds_toArray, List.set_cons_zero, List.set_cons_succ]; done) | (simp only [putAll, Act.put, List.setIfInBounds_toArray, List.set_cons_zero, List.set_cons_succ]; rfl)) (hJ2_3_7_8_14 (v471, .slice Ao35 y474.length co35, gb480) _ ⟨hHeld, (by (with_reducible repeat (first | apply Kd.R_alloc | apply Kd.R_drewN | apply Kd.R_drew)); exact HO472.out), (by (with_reducible repeat (first | apply Kd.R_alloc | apply Kd.R_drewN | apply Kd.R_drew)); exact HO476.out), (by (with_reducible repeat (first | refine blk_drewN ?_ _ | refine blk_drew ?_ | refine blk_alloc ?_ _)); exact BK459.out), (by (with_reducible repeat (first | refine blk_drewN ?_ _ | refine blk_drew ?_ | refine blk_alloc ?_ _)); exact BK460.out), (by (with_reducible repeat (first | refine blk_drewN ?_ _ | refine blk_drew ?_ | refine blk_alloc ?_ _)); exact BK469.out), (by (with_reducible repeat (first | refine blk_drewN ?_ _ | refine blk_drew ?_ | refine blk_alloc ?_ _)); exact BK480.out), GW480.out, GE480.out, NB459_480.out, NB480_459.out, NB460_480.out, NB480_460.out, NB469_480.out, NB480_469.out, (by repeat (first | (with_reducible first | exact HB.out | apply below_alloc | apply pw_below_drewN | apply below_drew1 | refine below_set ?_ GE459.out | refine below_set ?_ GE460.out | refine below_set ?_ GE469.out | refine below_set ?_ GE480.out) | exact HB.out))⟩)
    ·skip
     rintro ⟨v471, v475⟩ w34 ⟨hS_, h0_, h1_, h2_, h3_, h4_, h5_⟩
     have n0_ : Aside0 (Kd.R (Kd.int .i64) 3 w34 w.heap.size (fun k_ => some k_ ≠ (v475 : Value).ownBlock) v471 y470) := ⟨h0_⟩
     have n1_ : Aside0 (Kd.R (Kd.int .i64) 3 w34 w.heap.size (fun k_ => some k_ ≠ (v471 : Value).ownBlock) v475 y474) := ⟨h1_⟩
     have n2_ : Aside0 (w34.heap[gb459]? = some (.cells #[.int .i64 a0_0, .int .i64 a0_1, .int .i64 a0_2, .int .i64 a0_3, .int .i64 a0_4, .int .i64 a0_5, .int .i64 a0_6, .int .i64 a0_7, .int .i64 a0_8, .int .i64 a0_9, .int .i64 a0_10, .int .i64 a0_11] 23 (0, 0))) := ⟨h2_⟩
     have n3_ : Aside0 (w34.heap[gb460]? = some (.cells #[.int .i64 0, .int .i64 0] 25 (0, 0))) := ⟨h3_⟩
     have n4_ : Aside0 (w34.heap[gb469]? = some (.cells #[.int .i64 t467, .int .i64 t468] 25 (0, 0))) := ⟨h4_⟩
     have n5_ : Aside0 (Below w.heap.size w w34) := ⟨h5_⟩
     clear BK459
     clear BK460
     clear BK469
     clear HB
     clear h0_ h1_ h2_ h3_ h4_ h5_
     have HO472 := n0_
     have HO476 := n1_
     have BK459 := n2_
     have BK460 := n3_
     have BK469 := n4_
     have HB := n5_
     clear n0_ n1_ n2_ n3_ n4_ n5_
     have hHeld : w34.cell? ⟨gb459, 5, none⟩ = some (.int .i64 a0_5) := hS_
     refine norm_ (a' := ?_) ?_ ?_
     rotate_left
     ·simp only [putAll, Act.put, List.setIfInBounds_toArray, List.set_cons_zero, List.set_cons_succ]
      rfl
     refine two_ (i := 13) (j := 14) (Ni := some 56) (Nj := some 16) #[true, true, true, true, true, true, true, true, true, true, true, true, true, true, false, false] #[true, true, true, true, true, true, true, true, true, true, true, true, true, false, true, false] rfl rfl rfl rfl (two_of HT_.out (by kernel_rfl)) (by decide) (by decide) (fun K hK => ?_) (fun K hK => ?_)
     ·skip
      refine goes_ Try.func42 (by kernel_rfl) rfl #[.agg #[.int .i64 t473, .int .i64 t477], .int .i64 (wrap64 (-t464)), .int .i64 t464] (by rfl) rfl rfl (by (try simp only [List.map_toArray, List.map_cons, List.map_nil]); first | done | rfl | (simp only [List.length_drop, List.length_take]; rfl)) ?_
      with_reducible refine (clepsydraref03_Shift.calls k t473 t477 (wrap64 (-t464)) t464 t478 t479 _ A15.out).mono ?_
      rintro e w35 ⟨rfl, hb⟩
      refine ⟨_, rfl, ?_⟩
      have n0_ := Aside0.mk (Kd.R_below (by (with_reducible repeat (first | apply Kd.R_alloc | apply Kd.R_drewN | apply Kd.R_drew)); exact HO472.out) hb)
      have n1_ := Aside0.mk (Kd.R_below (by (with_reducible repeat (first | apply Kd.R_alloc | apply Kd.R_drewN | apply Kd.R_drew)); exact HO476.out) hb)
      have n2_ := Aside0.mk (blk_below (g := gb459) (o := .cells #[.int .i64 a0_0, .int .i64 a0_1, .int .i64 a0_2, .int .i64 a0_3, .int .i64 a0_4, .int .i64 a0_5, .int .i64 a0_6, .int .i64 a0_7, .int .i64 a0_8, .int .i64 a0_9, .int .i64 a0_10, .int .i64 a0_11] 23 (0, 0)) (by (with_reducible repeat (first | refine blk_drewN ?_ _ | refine blk_drew ?_ | refine blk_alloc ?_ _)); exact BK459.out) hb)
      have n3_ := Aside0.mk (blk_below (g := gb460) (o := .cells #[.int .i64 0, .int .i64 0] 25 (0, 0)) (by (with_reducible repeat (first | refine blk_drewN ?_ _ | refine blk_drew ?_ | refine blk_alloc ?_ _)); exact BK460.out) hb)
      have n4_ := Aside0.mk (blk_below (g := gb469) (o := .cells #[.int .i64 t467, .int .i64 t468] 25 (0, 0)) (by (with_reducible repeat (first | refine blk_drewN ?_ _ | refine blk_drew ?_ | refine blk_alloc ?_ _)); exact BK469.out) hb)
      have n5_ := Aside0.mk (below_step (by repeat (first | (with_reducible first | exact HB.out | apply below_alloc | apply pw_below_drewN | apply below_drew1 | refine below_set ?_ GE459.out | refine below_set ?_ GE460.out | refine below_set ?_ GE469.out) | exact HB.out)) hb)
      clear HO472
      clear HO476
      clear BK459
      clear BK460
      clear BK469
      clear HB
      have HO472 := n0_
      have HO476 := n1_
      have BK459 := n2_
      have BK460 := n3_
      have BK469 := n4_
      have HB := n5_
      clear n0_ n1_ n2_ n3_ n4_ n5_
      (try clear hb)
      (try clear hb2)
      (try clear hk)
      (try clear hi)
      refine hK.out _ _ ((blk_cell BK459.out 5).trans rfl) (fun hHeld => ?_)
      clear hK K
      refine norm_ (a' := ?_) ?_ ?_
      rotate_left
      ·show Act.put _ (some 56) _ = _
       simp only [Act.put, List.setIfInBounds_toArray, List.set_cons_zero, List.set_cons_succ, i64_w, i32_w]
       rfl
      exact norm_ (by first | (simp only [putAll, Act.put, List.setIfInBounds_toArray, List.set_cons_zero, List.set_cons_succ]; done) | (simp only [putAll, Act.put, List.setIfInBounds_toArray, List.set_cons_zero, List.set_cons_succ]; rfl)) (hJ2_3_7_8_13 (_, _) _ ⟨hHeld, (by (with_reducible repeat (first | apply Kd.R_alloc | apply Kd.R_drewN | apply Kd.R_drew)); exact HO472.out), (by (with_reducible repeat (first | apply Kd.R_alloc | apply Kd.R_drewN | apply Kd.R_drew)); exact HO476.out), (by (with_reducible repeat (first | refine blk_drewN ?_ _ | refine blk_drew ?_ | refine blk_alloc ?_ _)); exact BK459.out), (by (with_reducible repeat (first | refine blk_drewN ?_ _ | refine blk_drew ?_ | refine blk_alloc ?_ _)); exact BK460.out), (by (with_reducible repeat (first | refine blk_drewN ?_ _ | refine blk_drew ?_ | refine blk_alloc ?_ _)); exact BK469.out), (by repeat (first | (with_reducible first | exact HB.out | apply below_alloc | apply pw_below_drewN | apply below_drew1 | refine below_set ?_ GE459.out | refine below_set ?_ GE460.out | refine below_set ?_ GE469.out) | exact HB.out))⟩)
     ·skip
      refine box_step ?hg (N := 16) ?hd (cs := #[.int .i64 0, .int .i64 0]) (t := 25) ?hr ?_; (case hd => rfl); (case hg => rfl); (case hr => first | (go_simp; done) | (go_simp; rfl))
      intro gb480 hg w35 hbox hb
      have n0_ := Aside0.mk (Kd.R_below (by (with_reducible repeat (first | apply Kd.R_alloc | apply Kd.R_drewN | apply Kd.R_drew)); exact HO472.out) hb)
      have n1_ := Aside0.mk (Kd.R_below (by (with_reducible repeat (first | apply Kd.R_alloc | apply Kd.R_drewN | apply Kd.R_drew)); exact HO476.out) hb)
      have n2_ := Aside0.mk (blk_below (g := gb459) (o := .cells #[.int .i64 a0_0, .int .i64 a0_1, .int .i64 a0_2, .int .i64 a0_3, .int .i64 a0_4, .int .i64 a0_5, .int .i64 a0_6, .int .i64 a0_7, .int .i64 a0_8, .int .i64 a0_9, .int .i64 a0_10, .int .i64 a0_11] 23 (0, 0)) (by (with_reducible repeat (first | refine blk_drewN ?_ _ | refine blk_drew ?_ | refine blk_alloc ?_ _)); exact BK459.out) hb)
      have n3_ := Aside0.mk (blk_below (g := gb460) (o := .cells #[.int .i64 0, .int .i64 0] 25 (0, 0)) (by (with_reducible repeat (first | refine blk_drewN ?_ _ | refine blk_drew ?_ | refine blk_alloc ?_ _)); exact BK460.out) hb)
      have n4_ := Aside0.mk (blk_below (g := gb469) (o := .cells #[.int .i64 t467, .int .i64 t468] 25 (0, 0)) (by (with_reducible repeat (first | refine blk_drewN ?_ _ | refine blk_drew ?_ | refine blk_alloc ?_ _)); exact BK469.out) hb)
      have n5_ := Aside0.mk (below_step (by repeat (first | (with_reducible first | exact HB.out | apply below_alloc | apply pw_below_drewN | apply below_drew1 | refine below_set ?_ GE459.out | refine below_set ?_ GE460.out | refine below_set ?_ GE469.out) | exact HB.out)) hb)
      have n6_ := Aside0.mk (hbox)
      have n7_ := Aside0.mk ((by rw [hg]; exact (below_size (by repeat (first | (with_reducible first | exact HB.out | apply below_alloc | apply pw_below_drewN | apply below_drew1 | refine below_set ?_ GE459.out | refine below_set ?_ GE460.out | refine below_set ?_ GE469.out) | exact HB.out))) : w.heap.size ≤ gb480))
      have n8_ := Aside0.mk ((by rw [hg]; exact (below_size (by repeat (first | (with_reducible first | exact HB.out | apply below_alloc | apply pw_below_drewN | apply below_drew1 | refine below_set ?_ GE459.out | refine below_set ?_ GE460.out | refine below_set ?_ GE469.out) | exact HB.out))) : w.heap.size ≤ gb480))
      have n9_ := Aside0.mk ((by rw [hg]; exact Nat.ne_of_lt (blk_lt (g := gb459) (o := .cells #[.int .i64 a0_0, .int .i64 a0_1, .int .i64 a0_2, .int .i64 a0_3, .int .i64 a0_4, .int .i64 a0_5, .int .i64 a0_6, .int .i64 a0_7, .int .i64 a0_8, .int .i64 a0_9, .int .i64 a0_10, .int .i64 a0_11] 23 (0, 0)) (by (with_reducible repeat (first | refine blk_drewN ?_ _ | refine blk_drew ?_ | refine blk_alloc ?_ _)); exact BK459.out)) : gb459 ≠ gb480))
      have n10_ := Aside0.mk ((by rw [hg]; exact Nat.ne_of_gt (blk_lt (g := gb459) (o := .cells #[.int .i64 a0_0, .int .i64 a0_1, .int .i64 a0_2, .int .i64 a0_3, .int .i64 a0_4, .int .i64 a0_5, .int .i64 a0_6, .int .i64 a0_7, .int .i64 a0_8, .int .i64 a0_9, .int .i64 a0_10, .int .i64 a0_11] 23 (0, 0)) (by (with_reducible repeat (first | refine blk_drewN ?_ _ | refine blk_drew ?_ | refine blk_alloc ?_ _)); exact BK459.out)) : gb480 ≠ gb459))
      have n11_ := Aside0.mk ((by rw [hg]; exact Nat.ne_of_lt (blk_lt (g := gb460) (o := .cells #[.int .i64 0, .int .i64 0] 25 (0, 0)) (by (with_reducible repeat (first | refine blk_drewN ?_ _ | refine blk_drew ?_ | refine blk_alloc ?_ _)); exact BK460.out)) : gb460 ≠ gb480))
      have n12_ := Aside0.mk ((by rw [hg]; exact Nat.ne_of_gt (blk_lt (g := gb460) (o := .cells #[.int .i64 0, .int .i64 0] 25 (0, 0)) (by (with_reducible repeat (first | refine blk_drewN ?_ _ | refine blk_drew ?_ | refine blk_alloc ?_ _)); exact BK460.out)) : gb480 ≠ gb460))
      have n13_ := Aside0.mk ((by rw [hg]; exact Nat.ne_of_lt (blk_lt (g := gb469) (o := .cells #[.int .i64 t467, .int .i64 t468] 25 (0, 0)) (by (with_reducible repeat (first | refine blk_drewN ?_ _ | refine blk_drew ?_ | refine blk_alloc ?_ _)); exact BK469.out)) : gb469 ≠ gb480))
      have n14_ := Aside0.mk ((by rw [hg]; exact Nat.ne_of_gt (blk_lt (g := gb469) (o := .cells #[.int .i64 t467, .int .i64 t468] 25 (0, 0)) (by (with_reducible repeat (first | refine blk_drewN ?_ _ | refine blk_drew ?_ | refine blk_alloc ?_ _)); exact BK469.out)) : gb480 ≠ gb469))
      clear HO472
      clear HO476
      clear BK459
      clear BK460
      clear BK469
      clear HB
      have HO472 := n0_
      have HO476 := n1_
      have BK459 := n2_
      have BK460 := n3_
      have BK469 := n4_
      have HB := n5_
      have BK480 := n6_
      have GW480 := n7_
      have GE480 := n8_
      have NB459_480 := n9_
      have NB480_459 := n10_
      have NB460_480 := n11_
      have NB480_460 := n12_
      have NB469_480 := n13_
      have NB480_469 := n14_
      clear n0_ n1_ n2_ n3_ n4_ n5_ n6_ n7_ n8_ n9_ n10_ n11_ n12_ n13_ n14_
      clear hb hbox hg
      refine hK.out _ _ ((blk_cell BK459.out 5).trans rfl) (fun hHeld => ?_)
      clear hK K
      refine norm_ (a' := ?_) ?_ ?_
      rotate_left
      ·show Act.put _ (some 16) _ = _
       simp only [Act.put, List.setIfInBounds_toArray, List.set_cons_zero, List.set_cons_succ, i64_w, i32_w]
       rfl
      exact norm_ (by first | (simp only [putAll, Act.put, List.setIfInBounds_toArray, List.set_cons_zero, List.set_cons_succ]; done) | (simp only [putAll, Act.put, List.setIfInBounds_toArray, List.set_cons_zero, List.set_cons_succ]; rfl)) (hJ2_3_7_8_14 (_, _, gb480) _ ⟨hHeld, (by (with_reducible repeat (first | apply Kd.R_alloc | apply Kd.R_drewN | apply Kd.R_drew)); exact HO472.out), (by (with_reducible repeat (first | apply Kd.R_alloc | apply Kd.R_drewN | apply Kd.R_drew)); exact HO476.out), (by (with_reducible repeat (first | refine blk_drewN ?_ _ | refine blk_drew ?_ | refine blk_alloc ?_ _)); exact BK459.out), (by (with_reducible repeat (first | refine blk_drewN ?_ _ | refine blk_drew ?_ | refine blk_alloc ?_ _)); exact BK460.out), (by (with_reducible repeat (first | refine blk_drewN ?_ _ | refine blk_drew ?_ | refine blk_alloc ?_ _)); exact BK469.out), (by (with_reducible repeat (first | refine blk_drewN ?_ _ | refine blk_drew ?_ | refine blk_alloc ?_ _)); exact BK480.out), GW480.out, GE480.out, NB459_480.out, NB480_459.out, NB460_480.out, NB480_460.out, NB469_480.out, NB480_469.out, (by repeat (first | (with_reducible first | exact HB.out | apply below_alloc | apply pw_below_drewN | apply below_drew1 | refine below_set ?_ GE459.out | refine below_set ?_ GE460.out | refine below_set ?_ GE469.out | refine below_set ?_ GE480.out) | exact HB.out))⟩)
   ·skip
    rintro ⟨v471, v475, gb480⟩ w35 ⟨hS_, h0_, h1_, h2_, h3_, h4_, h5_, h6_, h7_, h8_, h9_, h10_, h11_, h12_, h13_, h14_⟩
    have n0_ : Aside0 (Kd.R (Kd.int .i64) 3 w35 w.heap.size (fun k_ => some k_ ≠ (v475 : Value).ownBlock) v471 y470) := ⟨h0_⟩
    have n1_ : Aside0 (Kd.R (Kd.int .i64) 3 w35 w.heap.size (fun k_ => some k_ ≠ (v471 : Value).ownBlock) v475 y474) := ⟨h1_⟩
    have n2_ : Aside0 (w35.heap[gb459]? = some (.cells #[.int .i64 a0_0, .int .i64 a0_1, .int .i64 a0_2, .int .i64 a0_3, .int .i64 a0_4, .int .i64 a0_5, .int .i64 a0_6, .int .i64 a0_7, .int .i64 a0_8, .int .i64 a0_9, .int .i64 a0_10, .int .i64 a0_11] 23 (0, 0))) := ⟨h2_⟩
    have n3_ : Aside0 (w35.heap[gb460]? = some (.cells #[.int .i64 0, .int .i64 0] 25 (0, 0))) := ⟨h3_⟩
    have n4_ : Aside0 (w35.heap[gb469]? = some (.cells #[.int .i64 t467, .int .i64 t468] 25 (0, 0))) := ⟨h4_⟩
    have n5_ : Aside0 (w35.heap[gb480]? = some (.cells #[.int .i64 0, .int .i64 0] 25 (0, 0))) := ⟨h5_⟩
    have n6_ : Aside0 (w.heap.size ≤ gb480) := ⟨h6_⟩
    have n7_ : Aside0 (w.heap.size ≤ gb480) := ⟨h7_⟩
    have n8_ : Aside0 (gb459 ≠ gb480) := ⟨h8_⟩
    have n9_ : Aside0 (gb480 ≠ gb459) := ⟨h9_⟩
    have n10_ : Aside0 (gb460 ≠ gb480) := ⟨h10_⟩
    have n11_ : Aside0 (gb480 ≠ gb460) := ⟨h11_⟩
    have n12_ : Aside0 (gb469 ≠ gb480) := ⟨h12_⟩
    have n13_ : Aside0 (gb480 ≠ gb469) := ⟨h13_⟩
    have n14_ : Aside0 (Below w.heap.size w w35) := ⟨h14_⟩
    clear BK459
    clear BK460
    clear BK469
    clear HB
    clear h0_ h1_ h2_ h3_ h4_ h5_ h6_ h7_ h8_ h9_ h10_ h11_ h12_ h13_ h14_
    have HO472 := n0_
    have HO476 := n1_
    have BK459 := n2_
    have BK460 := n3_
    have BK469 := n4_
    have BK480 := n5_
    have GW480 := n6_
    have GE480 := n7_
    have NB459_480 := n8_
    have NB480_459 := n9_
    have NB460_480 := n10_
    have NB480_460 := n11_
    have NB469_480 := n12_
    have NB480_469 := n13_
    have HB := n14_
    clear n0_ n1_ n2_ n3_ n4_ n5_ n6_ n7_ n8_ n9_ n10_ n11_ n12_ n13_ n14_
    have hHeld : w35.cell? ⟨gb459, 5, none⟩ = some (.int .i64 a0_5) := hS_
    refine norm_ (a' := ?_) ?_ ?_
    rotate_left
    ·simp only [putAll, Act.put, List.setIfInBounds_toArray, List.set_cons_zero, List.set_cons_succ]
     rfl
    refine one_ (i := 13) (N := some 56) #[true, true, true, true, true, true, true, true, true, true, true, true, true, true, true, false] rfl rfl (one_of HT_.out (by kernel_rfl)) (by decide) (fun K hK => ?_)
    refine goes_ Try.func42 (by kernel_rfl) rfl #[.agg #[.int .i64 t473, .int .i64 t477], .int .i64 (wrap64 (-t464)), .int .i64 t464] (by rfl) rfl rfl (by (try simp only [List.map_toArray, List.map_cons, List.map_nil]); first | done | rfl | (simp only [List.length_drop, List.length_take]; rfl)) ?_
    with_reducible refine (clepsydraref03_Shift.calls k t473 t477 (wrap64 (-t464)) t464 t478 t479 _ A15.out).mono ?_
    rintro e w36 ⟨rfl, hb⟩
    refine ⟨_, rfl, ?_⟩
    have n0_ := Aside0.mk (Kd.R_below (by (with_reducible repeat (first | apply Kd.R_alloc | apply Kd.R_drewN | apply Kd.R_drew)); exact HO472.out) hb)
    have n1_ := Aside0.mk (Kd.R_below (by (with_reducible repeat (first | apply Kd.R_alloc | apply Kd.R_drewN | apply Kd.R_drew)); exact HO476.out) hb)
    have n2_ := Aside0.mk (blk_below (g := gb459) (o := .cells #[.int .i64 a0_0, .int .i64 a0_1, .int .i64 a0_2, .int .i64 a0_3, .int .i64 a0_4, .int .i64 a0_5, .int .i64 a0_6, .int .i64 a0_7, .int .i64 a0_8, .int .i64 a0_9, .int .i64 a0_10, .int .i64 a0_11] 23 (0, 0)) (by (with_reducible repeat (first | refine blk_drewN ?_ _ | refine blk_drew ?_ | refine blk_alloc ?_ _)); exact BK459.out) hb)
    have n3_ := Aside0.mk (blk_below (g := gb460) (o := .cells #[.int .i64 0, .int .i64 0] 25 (0, 0)) (by (with_reducible repeat (first | refine blk_drewN ?_ _ | refine blk_drew ?_ | refine blk_alloc ?_ _)); exact BK460.out) hb)
    have n4_ := Aside0.mk (blk_below (g := gb469) (o := .cells #[.int .i64 t467, .int .i64 t468] 25 (0, 0)) (by (with_reducible repeat (first | refine blk_drewN ?_ _ | refine blk_drew ?_ | refine blk_alloc ?_ _)); exact BK469.out) hb)
    have n5_ := Aside0.mk (blk_below (g := gb480) (o := .cells #[.int .i64 0, .int .i64 0] 25 (0, 0)) (by (with_reducible repeat (first | refine blk_drewN ?_ _ | refine blk_drew ?_ | refine blk_alloc ?_ _)); exact BK480.out) hb)
    have n6_ := Aside0.mk (below_step (by repeat (first | (with_reducible first | exact HB.out | apply below_alloc | apply pw_below_drewN | apply below_drew1 | refine below_set ?_ GE459.out | refine below_set ?_ GE460.out | refine below_set ?_ GE469.out | refine below_set ?_ GE480.out) | exact HB.out)) hb)
    clear HO472
    clear HO476
    clear BK459
    clear BK460
    clear BK469
    clear BK480
    clear HB
    have HO472 := n0_
    have HO476 := n1_
    have BK459 := n2_
    have BK460 := n3_
    have BK469 := n4_
    have BK480 := n5_
    have HB := n6_
    clear n0_ n1_ n2_ n3_ n4_ n5_ n6_
    (try clear hb)
    (try clear hb2)
    (try clear hk)
    (try clear hi)
    refine hK.out _ _ ((blk_cell BK459.out 5).trans rfl) (fun hHeld => ?_)
    clear hK K
    refine norm_ (a' := ?_) ?_ ?_
    rotate_left
    ·show Act.put _ (some 56) _ = _
     simp only [Act.put, List.setIfInBounds_toArray, List.set_cons_zero, List.set_cons_succ, i64_w, i32_w]
     rfl
    exact norm_ (by first | (simp only [putAll, Act.put, List.setIfInBounds_toArray, List.set_cons_zero, List.set_cons_succ]; done) | (simp only [putAll, Act.put, List.setIfInBounds_toArray, List.set_cons_zero, List.set_cons_succ]; rfl)) (hJ2_3_7_8_13_14 (_, _, gb480) _ ⟨hHeld, (by (with_reducible repeat (first | apply Kd.R_alloc | apply Kd.R_drewN | apply Kd.R_drew)); exact HO472.out), (by (with_reducible repeat (first | apply Kd.R_alloc | apply Kd.R_drewN | apply Kd.R_drew)); exact HO476.out), (by (with_reducible repeat (first | refine blk_drewN ?_ _ | refine blk_drew ?_ | refine blk_alloc ?_ _)); exact BK459.out), (by (with_reducible repeat (first | refine blk_drewN ?_ _ | refine blk_drew ?_ | refine blk_alloc ?_ _)); exact BK460.out), (by (with_reducible repeat (first | refine blk_drewN ?_ _ | refine blk_drew ?_ | refine blk_alloc ?_ _)); exact BK469.out), (by (with_reducible repeat (first | refine blk_drewN ?_ _ | refine blk_drew ?_ | refine blk_alloc ?_ _)); exact BK480.out), GW480.out, GE480.out, NB459_480.out, NB480_459.out, NB460_480.out, NB480_460.out, NB469_480.out, NB480_469.out, (by repeat (first | (with_reducible first | exact HB.out | apply below_alloc | apply pw_below_drewN | apply below_drew1 | refine below_set ?_ GE459.out | refine below_set ?_ GE460.out | refine below_set ?_ GE469.out | refine below_set ?_ GE480.out) | exact HB.out))⟩)
  ·skip
   rintro ⟨v471, v475⟩ w35 ⟨hS_, h0_, h1_, h2_, h3_, h4_, h5_⟩
   have n0_ : Aside0 (Kd.R (Kd.int .i64) 3 w35 w.heap.size (fun k_ => some k_ ≠ (v475 : Value).ownBlock) v471 y470) := ⟨h0_⟩
   have n1_ : Aside0 (Kd.R (Kd.int .i64) 3 w35 w.heap.size (fun k_ => some k_ ≠ (v471 : Value).ownBlock) v475 y474) := ⟨h1_⟩
   have n2_ : Aside0 (w35.heap[gb459]? = some (.cells #[.int .i64 a0_0, .int .i64 a0_1, .int .i64 a0_2, .int .i64 a0_3, .int .i64 a0_4, .int .i64 a0_5, .int .i64 a0_6, .int .i64 a0_7, .int .i64 a0_8, .int .i64 a0_9, .int .i64 a0_10, .int .i64 a0_11] 23 (0, 0))) := ⟨h2_⟩
   have n3_ : Aside0 (w35.heap[gb460]? = some (.cells #[.int .i64 0, .int .i64 0] 25 (0, 0))) := ⟨h3_⟩
   have n4_ : Aside0 (w35.heap[gb469]? = some (.cells #[.int .i64 t467, .int .i64 t468] 25 (0, 0))) := ⟨h4_⟩
   have n5_ : Aside0 (Below w.heap.size w w35) := ⟨h5_⟩
   clear BK459
   clear BK460
   clear BK469
   clear HB
   clear h0_ h1_ h2_ h3_ h4_ h5_
   have HO472 := n0_
   have HO476 := n1_
   have BK459 := n2_
   have BK460 := n3_
   have BK469 := n4_
   have HB := n5_
   clear n0_ n1_ n2_ n3_ n4_ n5_
   have hHeld : w35.cell? ⟨gb459, 5, none⟩ = some (.int .i64 a0_5) := hS_
   refine norm_ (a' := ?_) ?_ ?_
   rotate_left
   ·simp only [putAll, Act.put, List.setIfInBounds_toArray, List.set_cons_zero, List.set_cons_succ]
    rfl
   refine one_ (i := 14) (N := some 16) #[true, true, true, true, true, true, true, true, true, true, true, true, true, true, true, false] rfl rfl (one_of HT_.out (by kernel_rfl)) (by decide) (fun K hK => ?_)
   refine box_step ?hg (N := 16) ?hd (cs := #[.int .i64 0, .int .i64 0]) (t := 25) ?hr ?_; (case hd => rfl); (case hg => rfl); (case hr => first | (go_simp; done) | (go_simp; rfl))
   intro gb480 hg w36 hbox hb
   have n0_ := Aside0.mk (Kd.R_below (by (with_reducible repeat (first | apply Kd.R_alloc | apply Kd.R_drewN | apply Kd.R_drew)); exact HO472.out) hb)
   have n1_ := Aside0.mk (Kd.R_below (by (with_reducible repeat (first | apply Kd.R_alloc | apply Kd.R_drewN | apply Kd.R_drew)); exact HO476.out) hb)
   have n2_ := Aside0.mk (blk_below (g := gb459) (o := .cells #[.int .i64 a0_0, .int .i64 a0_1, .int .i64 a0_2, .int .i64 a0_3, .int .i64 a0_4, .int .i64 a0_5, .int .i64 a0_6, .int .i64 a0_7, .int .i64 a0_8, .int .i64 a0_9, .int .i64 a0_10, .int .i64 a0_11] 23 (0, 0)) (by (with_reducible repeat (first | refine blk_drewN ?_ _ | refine blk_drew ?_ | refine blk_alloc ?_ _)); exact BK459.out) hb)
   have n3_ := Aside0.mk (blk_below (g := gb460) (o := .cells #[.int .i64 0, .int .i64 0] 25 (0, 0)) (by (with_reducible repeat (first | refine blk_drewN ?_ _ | refine blk_drew ?_ | refine blk_alloc ?_ _)); exact BK460.out) hb)
   have n4_ := Aside0.mk (blk_below (g := gb469) (o := .cells #[.int .i64 t467, .int .i64 t468] 25 (0, 0)) (by (with_reducible repeat (first | refine blk_drewN ?_ _ | refine blk_drew ?_ | refine blk_alloc ?_ _)); exact BK469.out) hb)
   have n5_ := Aside0.mk (below_step (by repeat (first | (with_reducible first | exact HB.out | apply below_alloc | apply pw_below_drewN | apply below_drew1 | refine below_set ?_ GE459.out | refine below_set ?_ GE460.out | refine below_set ?_ GE469.out) | exact HB.out)) hb)
   have n6_ := Aside0.mk (hbox)
   have n7_ := Aside0.mk ((by rw [hg]; exact (below_size (by repeat (first | (with_reducible first | exact HB.out | apply below_alloc | apply pw_below_drewN | apply below_drew1 | refine below_set ?_ GE459.out | refine below_set ?_ GE460.out | refine below_set ?_ GE469.out) | exact HB.out))) : w.heap.size ≤ gb480))
   have n8_ := Aside0.mk ((by rw [hg]; exact (below_size (by repeat (first | (with_reducible first | exact HB.out | apply below_alloc | apply pw_below_drewN | apply below_drew1 | refine below_set ?_ GE459.out | refine below_set ?_ GE460.out | refine below_set ?_ GE469.out) | exact HB.out))) : w.heap.size ≤ gb480))
   have n9_ := Aside0.mk ((by rw [hg]; exact Nat.ne_of_lt (blk_lt (g := gb459) (o := .cells #[.int .i64 a0_0, .int .i64 a0_1, .int .i64 a0_2, .int .i64 a0_3, .int .i64 a0_4, .int .i64 a0_5, .int .i64 a0_6, .int .i64 a0_7, .int .i64 a0_8, .int .i64 a0_9, .int .i64 a0_10, .int .i64 a0_11] 23 (0, 0)) (by (with_reducible repeat (first | refine blk_drewN ?_ _ | refine blk_drew ?_ | refine blk_alloc ?_ _)); exact BK459.out)) : gb459 ≠ gb480))
   have n10_ := Aside0.mk ((by rw [hg]; exact Nat.ne_of_gt (blk_lt (g := gb459) (o := .cells #[.int .i64 a0_0, .int .i64 a0_1, .int .i64 a0_2, .int .i64 a0_3, .int .i64 a0_4, .int .i64 a0_5, .int .i64 a0_6, .int .i64 a0_7, .int .i64 a0_8, .int .i64 a0_9, .int .i64 a0_10, .int .i64 a0_11] 23 (0, 0)) (by (with_reducible repeat (first | refine blk_drewN ?_ _ | refine blk_drew ?_ | refine blk_alloc ?_ _)); exact BK459.out)) : gb480 ≠ gb459))
   have n11_ := Aside0.mk ((by rw [hg]; exact Nat.ne_of_lt (blk_lt (g := gb460) (o := .cells #[.int .i64 0, .int .i64 0] 25 (0, 0)) (by (with_reducible repeat (first | refine blk_drewN ?_ _ | refine blk_drew ?_ | refine blk_alloc ?_ _)); exact BK460.out)) : gb460 ≠ gb480))
   have n12_ := Aside0.mk ((by rw [hg]; exact Nat.ne_of_gt (blk_lt (g := gb460) (o := .cells #[.int .i64 0, .int .i64 0] 25 (0, 0)) (by (with_reducible repeat (first | refine blk_drewN ?_ _ | refine blk_drew ?_ | refine blk_alloc ?_ _)); exact BK460.out)) : gb480 ≠ gb460))
   have n13_ := Aside0.mk ((by rw [hg]; exact Nat.ne_of_lt (blk_lt (g := gb469) (o := .cells #[.int .i64 t467, .int .i64 t468] 25 (0, 0)) (by (with_reducible repeat (first | refine blk_drewN ?_ _ | refine blk_drew ?_ | refine blk_alloc ?_ _)); exact BK469.out)) : gb469 ≠ gb480))
   have n14_ := Aside0.mk ((by rw [hg]; exact Nat.ne_of_gt (blk_lt (g := gb469) (o := .cells #[.int .i64 t467, .int .i64 t468] 25 (0, 0)) (by (with_reducible repeat (first | refine blk_drewN ?_ _ | refine blk_drew ?_ | refine blk_alloc ?_ _)); exact BK469.out)) : gb480 ≠ gb469))
   clear HO472
   clear HO476
   clear BK459
   clear BK460
   clear BK469
   clear HB
   have HO472 := n0_
   have HO476 := n1_
   have BK459 := n2_
   have BK460 := n3_
   have BK469 := n4_
   have HB := n5_
   have BK480 := n6_
   have GW480 := n7_
   have GE480 := n8_
   have NB459_480 := n9_
   have NB480_459 := n10_
   have NB460_480 := n11_
   have NB480_460 := n12_
   have NB469_480 := n13_
   have NB480_469 := n14_
   clear n0_ n1_ n2_ n3_ n4_ n5_ n6_ n7_ n8_ n9_ n10_ n11_ n12_ n13_ n14_
   clear hb hbox hg
   refine hK.out _ _ ((blk_cell BK459.out 5).trans rfl) (fun hHeld => ?_)
   clear hK K
   refine norm_ (a' := ?_) ?_ ?_
   rotate_left
   ·show Act.put _ (some 16) _ = _
    simp only [Act.put, List.setIfInBounds_toArray, List.set_cons_zero, List.set_cons_succ, i64_w, i32_w]
    rfl
   exact norm_ (by first | (simp only [putAll, Act.put, List.setIfInBounds_toArray, List.set_cons_zero, List.set_cons_succ]; done) | (simp only [putAll, Act.put, List.setIfInBounds_toArray, List.set_cons_zero, List.set_cons_succ]; rfl)) (hJ2_3_7_8_13_14 (_, _, gb480) _ ⟨hHeld, (by (with_reducible repeat (first | apply Kd.R_alloc | apply Kd.R_drewN | apply Kd.R_drew)); exact HO472.out), (by (with_reducible repeat (first | apply Kd.R_alloc | apply Kd.R_drewN | apply Kd.R_drew)); exact HO476.out), (by (with_reducible repeat (first | refine blk_drewN ?_ _ | refine blk_drew ?_ | refine blk_alloc ?_ _)); exact BK459.out), (by (with_reducible repeat (first | refine blk_drewN ?_ _ | refine blk_drew ?_ | refine blk_alloc ?_ _)); exact BK460.out), (by (with_reducible repeat (first | refine blk_drewN ?_ _ | refine blk_drew ?_ | refine blk_alloc ?_ _)); exact BK469.out), (by (with_reducible repeat (first | refine blk_drewN ?_ _ | refine blk_drew ?_ | refine blk_alloc ?_ _)); exact BK480.out), GW480.out, GE480.out, NB459_480.out, NB480_459.out, NB460_480.out, NB480_460.out, NB469_480.out, NB480_469.out, (by repeat (first | (with_reducible first | exact HB.out | apply below_alloc | apply pw_below_drewN | apply below_drew1 | refine below_set ?_ GE459.out | refine below_set ?_ GE460.out | refine below_set ?_ GE469.out | refine below_set ?_ GE480.out) | exact HB.out))⟩)
 rintro ⟨v471, v475, gb480⟩ w36 ⟨hS_, h0_, h1_, h2_, h3_, h4_, h5_, h6_, h7_, h8_, h9_, h10_, h11_, h12_, h13_, h14_⟩
 have n0_ : Aside0 (Kd.R (Kd.int .i64) 3 w36 w.heap.size (fun k_ => some k_ ≠ (v475 : Value).ownBlock) v471 y470) := ⟨h0_⟩
 have n1_ : Aside0 (Kd.R (Kd.int .i64) 3 w36 w.heap.size (fun k_ => some k_ ≠ (v471 : Value).ownBlock) v475 y474) := ⟨h1_⟩
 have n2_ : Aside0 (w36.heap[gb459]? = some (.cells #[.int .i64 a0_0, .int .i64 a0_1, .int .i64 a0_2, .int .i64 a0_3, .int .i64 a0_4, .int .i64 a0_5, .int .i64 a0_6, .int .i64 a0_7, .int .i64 a0_8, .int .i64 a0_9, .int .i64 a0_10, .int .i64 a0_11] 23 (0, 0))) := ⟨h2_⟩
 have n3_ : Aside0 (w36.heap[gb460]? = some (.cells #[.int .i64 0, .int .i64 0] 25 (0, 0))) := ⟨h3_⟩
 have n4_ : Aside0 (w36.heap[gb469]? = some (.cells #[.int .i64 t467, .int .i64 t468] 25 (0, 0))) := ⟨h4_⟩
 have n5_ : Aside0 (w36.heap[gb480]? = some (.cells #[.int .i64 0, .int .i64 0] 25 (0, 0))) := ⟨h5_⟩
 have n6_ : Aside0 (w.heap.size ≤ gb480) := ⟨h6_⟩
 have n7_ : Aside0 (w.heap.size ≤ gb480) := ⟨h7_⟩
 have n8_ : Aside0 (gb459 ≠ gb480) := ⟨h8_⟩
 have n9_ : Aside0 (gb480 ≠ gb459) := ⟨h9_⟩
 have n10_ : Aside0 (gb460 ≠ gb480) := ⟨h10_⟩
 have n11_ : Aside0 (gb480 ≠ gb460) := ⟨h11_⟩
 have n12_ : Aside0 (gb469 ≠ gb480) := ⟨h12_⟩
 have n13_ : Aside0 (gb480 ≠ gb469) := ⟨h13_⟩
 have n14_ : Aside0 (Below w.heap.size w w36) := ⟨h14_⟩
 clear BK459
 clear BK460
 clear BK469
 clear HB
 clear h0_ h1_ h2_ h3_ h4_ h5_ h6_ h7_ h8_ h9_ h10_ h11_ h12_ h13_ h14_
 have HO472 := n0_
 have HO476 := n1_
 have BK459 := n2_
 have BK460 := n3_
 have BK469 := n4_
 have BK480 := n5_
 have GW480 := n6_
 have GE480 := n7_
 have NB459_480 := n8_
 have NB480_459 := n9_
 have NB460_480 := n10_
 have NB480_460 := n11_
 have NB469_480 := n12_
 have NB480_469 := n13_
 have HB := n14_
 clear n0_ n1_ n2_ n3_ n4_ n5_ n6_ n7_ n8_ n9_ n10_ n11_ n12_ n13_ n14_
 have hHeld : w36.cell? ⟨gb459, 5, none⟩ = some (.int .i64 a0_5) := hS_
 refine norm_ (a' := ?_) ?_ ?_
 rotate_left
 ·simp only [putAll, Act.put, List.setIfInBounds_toArray, List.set_cons_zero, List.set_cons_succ]
  rfl
 refine one_ (i := 15) (N := none) #[true, true, true, true, true, true, true, true, true, true, true, true, true, true, true, true] rfl rfl (one_of HT_.out (by kernel_rfl)) (by decide) (fun K hK => ?_)
 have hs37 : w36.cell? ⟨gb480, 0, none⟩ = some (.int .i64 0) := (blk_cell BK480.out 0).trans rfl
 have hfs37 := blk_frozen BK480.out 0
 have hns37_0 := NB459_480.out
 have hns37_1 := NB460_480.out
 have hns37_2 := NB469_480.out
 have hms37_0 := NB480_459.out
 have hms37_1 := NB480_460.out
 have hms37_2 := NB480_469.out
 have hs38 : w36.cell? ⟨gb480, 1, none⟩ = some (.int .i64 0) := (blk_cell BK480.out 1).trans rfl
 have hfs38 := blk_frozen BK480.out 1
 have hns38_0 := NB459_480.out
 have hns38_1 := NB460_480.out
 have hns38_2 := NB469_480.out
 have hms38_0 := NB480_459.out
 have hms38_1 := NB480_460.out
 have hms38_2 := NB480_469.out
 refine skip_ (w1 := ?_) (by rfl) rfl ?_ ?_
 rotate_left
 ·go_simp
  rfl
 refine hK.out _ _ (((cell_far (p := ⟨gb480, _, none⟩) NB459_480.out _).trans (((cell_far (p := ⟨gb480, _, none⟩) NB459_480.out _).trans (hHeld))))) (fun hHeld => ?_)
 clear hK K
 refine done_ (done_of HT_.out (by kernel_rfl)) ?_
 have hnb39 := NB469_480.out
 have hnc39 := NB480_469.out
 have hcz40_0 : w36.cell? ⟨gb469, 0, none⟩ = some (.int .i64 t467) := (blk_cell BK469.out 0).trans rfl
 have hcz40_1 : w36.cell? ⟨gb469, 1, none⟩ = some (.int .i64 t468) := (blk_cell BK469.out 1).trans rfl
 have hfz40_0 := blk_frozen BK469.out 0
 have hfz40_1 := blk_frozen BK469.out 1
 have hnb41 := NB480_459.out
 have hnc41 := NB459_480.out
 have hnb42 := NB480_460.out
 have hnc42 := NB460_480.out
 have hcz43_0 : w36.cell? ⟨gb480, 0, none⟩ = some (.int .i64 0) := (blk_cell BK480.out 0).trans rfl
 have hcz43_1 : w36.cell? ⟨gb480, 1, none⟩ = some (.int .i64 0) := (blk_cell BK480.out 1).trans rfl
 have hfz43_0 := blk_frozen BK480.out 0
 have hfz43_1 := blk_frozen BK480.out 1
 try go_wp2_with (first | ((with_reducible refine gate_dst (N := 59) rfl ?_); refine Kd.R_lit k25 _ 25 ?hg (N := 59) ?hd (xs := ([(⟨t467, t468⟩ : S25), (⟨t478, t479⟩ : S25)] : List (S25))) (inner := [.int .i64 t467, .int .i64 t468, .int .i64 t478, .int .i64 t479]) (ok := fun _ => True) (okp := fun _ => True) ?hr ?hp (fun _ hk => hk) trivial (Below.refl _ _) (Nat.le_refl _) (by simp) ?_; (case hd => rfl); (case hg => rfl); (case hr => first | (go_simp; done) | (go_simp; rfl)); (case hp => exact (Reps.c2 (show Kd.M k25 _ _ _ (⟨t467, t468⟩ : S25) [.int .i64 t467, .int .i64 t468] from (k25_mkM _ _ _ (⟨t467, t468⟩ : S25) )) (Reps.c2 (show Kd.M k25 _ _ _ (⟨t478, t479⟩ : S25) [.int .i64 t478, .int .i64 t479] from (k25_mkM _ _ _ (⟨t478, t479⟩ : S25) )) (Reps.none _ _)))); intro v482 w44 ho45 hb hg_ hnew_; clear hg_ hnew_; (first | rw [← Ny481.out] at ho45 | (simp only [Int.reduceToNat] at ho45; rw [← Ny481.out] at ho45)); have n0_ := Aside0.mk (Kd.R_below (by (with_reducible repeat (first | apply Kd.R_alloc | apply Kd.R_drewN | apply Kd.R_drew)); exact (Kd.R_mono (Kd.R_far (p := ⟨gb480, 1, none⟩) (Kd.R_far (p := ⟨gb480, 0, none⟩) (Kd.R_types HO472.out BK480.out (by decide)) (fun _ hk => hk.2) (.int .i64 t478)) (fun _ hk => hk.2) (.int .i64 t479)) (fun _ h_ => h_.1))) hb); have n1_ := Aside0.mk (Kd.R_below (by (with_reducible repeat (first | apply Kd.R_alloc | apply Kd.R_drewN | apply Kd.R_drew)); exact (Kd.R_mono (Kd.R_far (p := ⟨gb480, 1, none⟩) (Kd.R_far (p := ⟨gb480, 0, none⟩) (Kd.R_types HO476.out BK480.out (by decide)) (fun _ hk => hk.2) (.int .i64 t478)) (fun _ hk => hk.2) (.int .i64 t479)) (fun _ h_ => h_.1))) hb); have n2_ := Aside0.mk (Kd.R_lower (Kd.R_newB (Kd.R_newB (Kd.R_newB ho45 (g := gb460) (o := .cells #[.int .i64 0, .int .i64 0] 25 (0, 0)) (by (with_reducible repeat (first | refine blk_drewN ?_ _ | refine blk_drew ?_ | refine blk_alloc ?_ _)); refine blk_far ?_ NB460_480.out _; (with_reducible repeat (first | refine blk_drewN ?_ _ | refine blk_drew ?_ | refine blk_alloc ?_ _)); refine blk_far ?_ NB460_480.out _; (with_reducible repeat (first | refine blk_drewN ?_ _ | refine blk_drew ?_ | refine blk_alloc ?_ _)); exact BK460.out)) (g := gb469) (o := .cells #[.int .i64 t467, .int .i64 t468] 25 (0, 0)) (by (with_reducible repeat (first | refine blk_drewN ?_ _ | refine blk_drew ?_ | refine blk_alloc ?_ _)); refine blk_far ?_ NB469_480.out _; (with_reducible repeat (first | refine blk_drewN ?_ _ | refine blk_drew ?_ | refine blk_alloc ?_ _)); refine blk_far ?_ NB469_480.out _; (with_reducible repeat (first | refine blk_drewN ?_ _ | refine blk_drew ?_ | refine blk_alloc ?_ _)); exact BK469.out)) (g := gb480) (o := .cells #[.int .i64 t478, .int .i64 t479] 25 (0, 0)) (by (with_reducible repeat (first | refine blk_drewN ?_ _ | refine blk_drew ?_ | refine blk_alloc ?_ _)); refine blk_put (cs := #[.int .i64 t478, .int .i64 0]) ?_ 1 _ rfl; (with_reducible repeat (first | refine blk_drewN ?_ _ | refine blk_drew ?_ | refine blk_alloc ?_ _)); refine blk_put (cs := #[.int .i64 0, .int .i64 0]) ?_ 0 _ rfl; (with_reducible repeat (first | refine blk_drewN ?_ _ | refine blk_drew ?_ | refine blk_alloc ?_ _)); exact BK480.out)) (below_size (by repeat (first | (with_reducible first | exact HB.out | apply below_alloc | apply pw_below_drewN | apply below_drew1 | refine below_set ?_ GE459.out | refine below_set ?_ GE460.out | refine below_set ?_ GE469.out | refine below_set ?_ GE480.out) | exact HB.out)))); have n3_ := Aside0.mk (blk_below (g := gb459) (o := .cells #[.int .i64 a0_0, .int .i64 a0_1, .int .i64 a0_2, .int .i64 a0_3, .int .i64 a0_4, .int .i64 a0_5, .int .i64 a0_6, .int .i64 a0_7, .int .i64 a0_8, .int .i64 a0_9, .int .i64 a0_10, .int .i64 a0_11] 23 (0, 0)) (by (with_reducible repeat (first | refine blk_drewN ?_ _ | refine blk_drew ?_ | refine blk_alloc ?_ _)); refine blk_far ?_ NB459_480.out _; (with_reducible repeat (first | refine blk_drewN ?_ _ | refine blk_drew ?_ | refine blk_alloc ?_ _)); refine blk_far ?_ NB459_480.out _; (with_reducible repeat (first | refine blk_drewN ?_ _ | refine blk_drew ?_ | refine blk_alloc ?_ _)); exact BK459.out) hb); have n4_ := Aside0.mk (blk_below (g := gb460) (o := .cells #[.int .i64 0, .int .i64 0] 25 (0, 0)) (by (with_reducible repeat (first | refine blk_drewN ?_ _ | refine blk_drew ?_ | refine blk_alloc ?_ _)); refine blk_far ?_ NB460_480.out _; (with_reducible repeat (first | refine blk_drewN ?_ _ | refine blk_drew ?_ | refine blk_alloc ?_ _)); refine blk_far ?_ NB460_480.out _; (with_reducible repeat (first | refine blk_drewN ?_ _ | refine blk_drew ?_ | refine blk_alloc ?_ _)); exact BK460.out) hb); have n5_ := Aside0.mk (blk_below (g := gb469) (o := .cells #[.int .i64 t467, .int .i64 t468] 25 (0, 0)) (by (with_reducible repeat (first | refine blk_drewN ?_ _ | refine blk_drew ?_ | refine blk_alloc ?_ _)); refine blk_far ?_ NB469_480.out _; (with_reducible repeat (first | refine blk_drewN ?_ _ | refine blk_drew ?_ | refine blk_alloc ?_ _)); refine blk_far ?_ NB469_480.out _; (with_reducible repeat (first | refine blk_drewN ?_ _ | refine blk_drew ?_ | refine blk_alloc ?_ _)); exact BK469.out) hb); have n6_ := Aside0.mk (blk_below (g := gb480) (o := .cells #[.int .i64 t478, .int .i64 t479] 25 (0, 0)) (by (with_reducible repeat (first | refine blk_drewN ?_ _ | refine blk_drew ?_ | refine blk_alloc ?_ _)); refine blk_put (cs := #[.int .i64 t478, .int .i64 0]) ?_ 1 _ rfl; (with_reducible repeat (first | refine blk_drewN ?_ _ | refine blk_drew ?_ | refine blk_alloc ?_ _)); refine blk_put (cs := #[.int .i64 0, .int .i64 0]) ?_ 0 _ rfl; (with_reducible repeat (first | refine blk_drewN ?_ _ | refine blk_drew ?_ | refine blk_alloc ?_ _)); exact BK480.out) hb); have n7_ := Aside0.mk (below_step (by repeat (first | (with_reducible first | exact HB.out | apply below_alloc | apply pw_below_drewN | apply below_drew1 | refine below_set ?_ GE459.out | refine below_set ?_ GE460.out | refine below_set ?_ GE469.out | refine below_set ?_ GE480.out) | exact HB.out)) hb); clear HO472; clear HO476; clear BK459; clear BK460; clear BK469; clear BK480; clear HB; have HO472 := n0_; have HO476 := n1_; have HO483 := n2_; have BK459 := n3_; have BK460 := n4_; have BK469 := n5_; have BK480 := n6_; have HB := n7_; clear n0_ n1_ n2_ n3_ n4_ n5_ n6_ n7_; clear hb ho45; obtain ⟨Ao46, co46, eo46⟩ := Kd.R_slice HO483.out; subst eo46) | ((with_reducible refine gate_callee (f := 60) rfl ?_); refine goesL_ (some 60) rfl rfl Try.func60 (by kernel_rfl) rfl #[.slice Ao46 y481.length co46] rfl (by (try simp only [List.map_toArray, List.map_cons, List.map_nil]); first | done | rfl | (simp only [List.length_drop, List.length_take]; rfl)) ?_; (with_reducible refine (clepsydraref03_Meet.calls k _ _ y481 t484 t485 _ ?side1 ?side2 A16.out).mono ?_); (case side1 => repeat (first | exact (Kd.R_reads' HO483.out).2.2 | (with_reducible refine Kd.C_alloc ?_ _) | (with_reducible refine Kd.C_drewN ?_ _) | (with_reducible refine Kd.C_drew ?_))); (case side2 => exact (Kd.R_reads' HO483.out).2.1); rintro e w47 ⟨rfl, hb⟩; refine ⟨_, rfl, ?_⟩; have n0_ := Aside0.mk (Kd.R_below (by (with_reducible repeat (first | apply Kd.R_alloc | apply Kd.R_drewN | apply Kd.R_drew)); exact HO472.out) hb); have n1_ := Aside0.mk (Kd.R_below (by (with_reducible repeat (first | apply Kd.R_alloc | apply Kd.R_drewN | apply Kd.R_drew)); exact HO476.out) hb); have n2_ := Aside0.mk (Kd.R_below (by (with_reducible repeat (first | apply Kd.R_alloc | apply Kd.R_drewN | apply Kd.R_drew)); exact HO483.out) hb); have n3_ := Aside0.mk (blk_below (g := gb459) (o := .cells #[.int .i64 a0_0, .int .i64 a0_1, .int .i64 a0_2, .int .i64 a0_3, .int .i64 a0_4, .int .i64 a0_5, .int .i64 a0_6, .int .i64 a0_7, .int .i64 a0_8, .int .i64 a0_9, .int .i64 a0_10, .int .i64 a0_11] 23 (0, 0)) (by (with_reducible repeat (first | refine blk_drewN ?_ _ | refine blk_drew ?_ | refine blk_alloc ?_ _)); exact BK459.out) hb); have n4_ := Aside0.mk (blk_below (g := gb460) (o := .cells #[.int .i64 0, .int .i64 0] 25 (0, 0)) (by (with_reducible repeat (first | refine blk_drewN ?_ _ | refine blk_drew ?_ | refine blk_alloc ?_ _)); exact BK460.out) hb); have n5_ := Aside0.mk (blk_below (g := gb469) (o := .cells #[.int .i64 t467, .int .i64 t468] 25 (0, 0)) (by (with_reducible repeat (first | refine blk_drewN ?_ _ | refine blk_drew ?_ | refine blk_alloc ?_ _)); exact BK469.out) hb); have n6_ := Aside0.mk (blk_below (g := gb480) (o := .cells #[.int .i64 t478, .int .i64 t479] 25 (0, 0)) (by (with_reducible repeat (first | refine blk_drewN ?_ _ | refine blk_drew ?_ | refine blk_alloc ?_ _)); exact BK480.out) hb); have n7_ := Aside0.mk (below_step (by repeat (first | (with_reducible first | exact HB.out | apply below_alloc | apply pw_below_drewN | apply below_drew1 | refine below_set ?_ GE459.out | refine below_set ?_ GE460.out | refine below_set ?_ GE469.out | refine below_set ?_ GE480.out) | exact HB.out)) hb); clear HO472; clear HO476; clear HO483; clear BK459; clear BK460; clear BK469; clear BK480; clear HB; have HO472 := n0_; have HO476 := n1_; have HO483 := n2_; have BK459 := n3_; have BK460 := n4_; have BK469 := n5_; have BK480 := n6_; have HB := n7_; clear n0_ n1_ n2_ n3_ n4_ n5_ n6_ n7_; (try clear hb); (try clear hb2); (try clear hk); (try clear hi); have hcz48_0 : w47.cell? ⟨gb460, 0, none⟩ = some (.int .i64 0) := (blk_cell BK460.out 0).trans rfl; have hcz48_1 : w47.cell? ⟨gb460, 1, none⟩ = some (.int .i64 0) := (blk_cell BK460.out 1).trans rfl; have hfz48_0 := blk_frozen BK460.out 0; have hfz48_1 := blk_frozen BK460.out 1))
 refine bodyPost_ret (results_cell_row rfl _ _ gb460 25 #[.int .i64 t484, .int .i64 t485] (0, 0) _ rfl (by (with_reducible repeat (first | refine blk_drewN ?_ _ | refine blk_drew ?_ | refine blk_alloc ?_ _)); refine blk_put (cs := #[.int .i64 t484, .int .i64 0]) ?_ 1 _ rfl; (with_reducible repeat (first | refine blk_drewN ?_ _ | refine blk_drew ?_ | refine blk_alloc ?_ _)); refine blk_put (cs := #[.int .i64 0, .int .i64 0]) ?_ 0 _ rfl; (with_reducible repeat (first | refine blk_drewN ?_ _ | refine blk_drew ?_ | refine blk_alloc ?_ _)); exact BK460.out) Try.underlying25 rfl (by kernel_rfl)) rfl ?_
 exact ⟨by first | rfl | (simp [errW_none, errW_some] <;> rfl) | (simp [*, errW_none, errW_some] <;> rfl), by repeat (first | (with_reducible first | exact HB.out | apply below_alloc | apply pw_below_drewN | apply below_drew1 | refine below_set ?_ GE459.out | refine below_set ?_ GE460.out | refine below_set ?_ GE469.out | refine below_set ?_ GE480.out) | exact HB.out)⟩

end Go.Proofs.Ytigpigfoahlfjaa.Q
