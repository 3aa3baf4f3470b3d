/- The calls of these Go functions answer what the Lean functions beside them answer; written by a program (wip/pr2.py, out of the print of the loaded program); under no condition but those that stand in the theorems. -/
import Derived.Test.YtigpigfoahlfjaaQx0
import Derived.Test.YtigpigfoahlfjaaQx29
import Derived.Test.YtigpigfoahlfjaaQx32
import Derived.Test.YtigpigfoahlfjaaQx37
namespace Go.Proofs.Ytigpigfoahlfjaa.Q
open Go.RowKit Go.Proofs.YtigpigfoahlfjaaW.PrintWords Go.Proofs.YtigpigfoahlfjaaW.PrintLast Go.Proofs.YtigpigfoahlfjaaW.PrintMore
attribute [local go_sem] max2_int min2_int max_two min_two max_three min_three max_four min_four   -- for this text's walks alone
set_option linter.unusedVariables false
set_option linter.unusedSimpArgs false

/-! ### probe_Best: function 37 -/
def probe_Best.l0 : Nat → Bool → List (S57) → Int → Int → Int → Int → Int → Int → Int → Int → Int → Int → Int → Int → Int → Int → Int → Int → Option (Int × Int × Bool)
 | 0, _, _, _, _, _, _, _, _, _, _, _, _, _, _, _, _, _, _ => none
 | k + 1, x7, x12, x13, x14, x537000, x537001, x537002, x537003, x537004, x537005, x537006, x537007, x537008, x537009, x537010, x537011, x539000, x539001 => if x14 < x13 then (if 0 ≤ x14 then (if x14 < (x12.length : Int) then ((probe_Ahead.f k x537000 x537001 x537002 x537003 x537004 x537005 x537006 x537007 x537008 x537009 x537010 x537011 ((rd_T57 x12 x14).f0) ((rd_T57 x12 x14).f1) ((rd_T57 x12 x14).f2) ((rd_T57 x12 x14).f3)).bind fun bt541 => ((span_Empty.f bt541.1 bt541.2).bind fun t544 => (if t544 = true then (probe_Best.l0 k x7 x12 x13 (wrap64 (x14 + 1)) x537000 x537001 x537002 x537003 x537004 x537005 x537006 x537007 x537008 x537009 x537010 x537011 x539000 x539001) else (if x7 = true then ((span_Wide.f k bt541.1 bt541.2).bind fun t545 => ((span_Wide.f k x539000 x539001).bind fun t546 => (if t545 < t546 then (probe_Best.l0 k true x12 x13 (wrap64 (x14 + 1)) x537000 x537001 x537002 x537003 x537004 x537005 x537006 x537007 x537008 x537009 x537010 x537011 bt541.1 bt541.2) else (probe_Best.l0 k x7 x12 x13 (wrap64 (x14 + 1)) x537000 x537001 x537002 x537003 x537004 x537005 x537006 x537007 x537008 x537009 x537010 x537011 x539000 x539001)))) else (probe_Best.l0 k true x12 x13 (wrap64 (x14 + 1)) x537000 x537001 x537002 x537003 x537004 x537005 x537006 x537007 x537008 x537009 x537010 x537011 bt541.1 bt541.2))))) else (none)) else (none)) else (some (x539000, x539001, x7))
def probe_Best.f (k : Nat) (a0_0 : Int) (a0_1 : Int) (a0_2 : Int) (a0_3 : Int) (a0_4 : Int) (a0_5 : Int) (a0_6 : Int) (a0_7 : Int) (a0_8 : Int) (a0_9 : Int) (a0_10 : Int) (a0_11 : Int) (l1 : List (S57)) : Option (Int × Int × Bool) := probe_Best.l0 k false l1 (l1.length : Int) 0 a0_0 a0_1 a0_2 a0_3 a0_4 a0_5 a0_6 a0_7 a0_8 a0_9 a0_10 a0_11 0 0
theorem probe_Best.mono_l : ∀ k, (∀ y0 y1 y2 y3 y4 y5 y6 y7 y8 y9 y10 y11 y12 y13 y14 y15 y16 y17, LeO (probe_Best.l0 k y0 y1 y2 y3 y4 y5 y6 y7 y8 y9 y10 y11 y12 y13 y14 y15 y16 y17) (probe_Best.l0 (k + 1) y0 y1 y2 y3 y4 y5 y6 y7 y8 y9 y10 y11 y12 y13 y14 y15 y16 y17))
 | 0 => fun _ _ _ _ _ _ _ _ _ _ _ _ _ _ _ _ _ _ r h => by simp [probe_Best.l0] at h
 | k + 1 => by
  have ih0 := probe_Best.mono_l k
  ·intro y0 y1 y2 y3 y4 y5 y6 y7 y8 y9 y10 y11 y12 y13 y14 y15 y16 y17
   unfold probe_Best.l0
   repeat' first
   | (with_reducible exact ih0 _ _ _ _ _ _ _ _ _ _ _ _ _ _ _ _ _ _)
   | (with_reducible exact probe_Ahead.mono _ _ _ _ _ _ _ _ _ _ _ _ _ _ _ _ _)
   | (with_reducible exact span_Wide.mono _ _ _)
   | (with_reducible exact LeO.refl _)
   | (with_reducible exact LeO.none _)
   | (with_reducible refine LeO.ite ?_ ?_)
   | (with_reducible refine LeO.bind ?_ (fun _ => ?_))
   | exact ih0 _ _ _ _ _ _ _ _ _ _ _ _ _ _ _ _ _ _
   | exact probe_Ahead.mono _ _ _ _ _ _ _ _ _ _ _ _ _ _ _ _ _
   | exact span_Wide.mono _ _ _
   | exact LeO.none _
   | refine LeO.ite ?_ ?_
   | refine LeO.bind ?_ (fun _ => ?_)
theorem probe_Best.mono : ∀ a0 a1 a2 a3 a4 a5 a6 a7 a8 a9 a10 a11 a12 k, LeO (probe_Best.f k a0 a1 a2 a3 a4 a5 a6 a7 a8 a9 a10 a11 a12) (probe_Best.f (k + 1) a0 a1 a2 a3 a4 a5 a6 a7 a8 a9 a10 a11 a12) := by
 intro a0 a1 a2 a3 a4 a5 a6 a7 a8 a9 a10 a11 a12 k
 have ih0 := probe_Best.mono_l k
 unfold probe_Best.f
 repeat' first
   | (with_reducible exact ih0 _ _ _ _ _ _ _ _ _ _ _ _ _ _ _ _ _ _)
   | (with_reducible exact probe_Ahead.mono _ _ _ _ _ _ _ _ _ _ _ _ _ _ _ _ _)
   | (with_reducible exact span_Wide.mono _ _ _)
   | (with_reducible exact LeO.refl _)
   | (with_reducible exact LeO.none _)
   | (with_reducible refine LeO.ite ?_ ?_)
   | (with_reducible refine LeO.bind ?_ (fun _ => ?_))
   | exact ih0 _ _ _ _ _ _ _ _ _ _ _ _ _ _ _ _ _ _
   | exact probe_Ahead.mono _ _ _ _ _ _ _ _ _ _ _ _ _ _ _ _ _
   | exact span_Wide.mono _ _ _
   | exact LeO.none _
   | refine LeO.ite ?_ ?_
   | refine LeO.bind ?_ (fun _ => ?_)
def probe_Best.T6 : Bool × List (List Nat × List Nat) := (true, [([], []), ([0], [0]), ([1], [1]), ([2, 1], [2]), ([3], [3]), ([4, 3], [3, 4]), ([5, 3, 3], [3, 5]), ([6], [6]), ([7, 6, 6], [6, 7]), ([6], [6]), ([9, 8, 6], [6, 9]), ([8, 10, 6], [6, 8, 10]), ([6, 11, 3], [3, 6, 11]), ([3, 12], [3, 12])])
def probe_Best.B6 : List Nat := [0, 1, 3, 7, 15, 31, 63, 127, 255, 127, 1023, 2047, 4095, 8191]
theorem probe_Best.tab6 : rtab .any (opsOf Try.f37 6) = probe_Best.T6 := by kernel_rfl
theorem probe_Best.bits6 : waitsOk probe_Best.T6.2 probe_Best.B6 = true := by kernel_rfl
set_option maxHeartbeats 8000000 in
set_option maxRecDepth 100000 in
theorem probe_Best.calls (k : Nat) (a0_0 : Int) (a0_1 : Int) (a0_2 : Int) (a0_3 : Int) (a0_4 : Int) (a0_5 : Int) (a0_6 : Int) (a0_7 : Int) (a0_8 : Int) (a0_9 : Int) (a0_10 : Int) (a0_11 : Int) (A1 : Option Addr) (c1 : Nat) (l1 : List (S57)) (r1 : Int) (r2 : Int) (r3 : Bool) (w : World) (hr1 : Kd.C k57 w A1 l1.length l1) (hc1 : l1.length ≤ c1) (h : probe_Best.f k a0_0 a0_1 a0_2 a0_3 a0_4 a0_5 a0_6 a0_7 a0_8 a0_9 a0_10 a0_11 l1 = some (r1, r2, r3)) :
  Calls Try.prog 37 #[.agg #[.int .i64 a0_0, .int .i64 a0_1, .int .i64 a0_2, .int .i64 a0_3, .int .i64 a0_4, .int .i64 a0_5, .int .i64 a0_6, .int .i64 a0_7, .int .i64 a0_8, .int .i64 a0_9, .int .i64 a0_10, .int .i64 a0_11], .slice A1 l1.length c1] w fun e w' => e = .returned (.tuple #[.agg #[.int .i64 r1, .int .i64 r2], .bool r3]) ∧ Below w.heap.size w w' := by
 have hu23 := Try.underlying23
 have hu25 := Try.underlying25
 have hu57 := Try.underlying57
 have HR1 := Aside0.mk hr1
 have HC1 := Aside0.mk hc1
 clear hr1 hc1
 have HB := Aside0.mk (Below.refl w.heap.size w)
 have H : (probe_Best.l0 k false l1 (l1.length : Int) 0 a0_0 a0_1 a0_2 a0_3 a0_4 a0_5 a0_6 a0_7 a0_8 a0_9 a0_10 a0_11 0 0) = some (r1, r2, r3) := h
 clear h
 have H' := Aside0.mk H
 clear H
 go_enter Try.func37, Try.ntmps37
 go_wp2_with (first | ((with_reducible refine gate_dst (N := 2) rfl ?_); refine box_event ?hg (N := 2) ?hd (cs := #[.int .i64 a0_0, .int .i64 a0_1, .int .i64 a0_2, .int .i64 a0_3, .int .i64 a0_4, .int .i64 a0_5, .int .i64 a0_6, .int .i64 a0_7, .int .i64 a0_8, .int .i64 a0_9, .int .i64 a0_10, .int .i64 a0_11]) (t := 23) ?hr ?_; (case hd => rfl); (case hg => rfl); (case hr => first | (go_simp; done) | (go_simp; rfl)); intro gb536 hg w3 hbox hb; have n0_ := Aside0.mk (below_step (by repeat (first | (with_reducible first | exact HB.out | apply below_alloc | apply pw_below_drewN | apply below_drew1) | exact HB.out)) hb); have n1_ := Aside0.mk (hbox); have n2_ := Aside0.mk ((by rw [hg]; exact (below_size (by repeat (first | (with_reducible first | exact HB.out | apply below_alloc | apply pw_below_drewN | apply below_drew1) | exact HB.out))) : w.heap.size ≤ gb536)); have n3_ := Aside0.mk ((by rw [hg]; exact (below_size (by repeat (first | (with_reducible first | exact HB.out | apply below_alloc | apply pw_below_drewN | apply below_drew1) | exact HB.out))) : w.heap.size ≤ gb536)); clear HB; have HB := n0_; have BK536 := n1_; have GW536 := n2_; have GE536 := n3_; clear n0_ n1_ n2_ n3_; clear hb hbox hg) | ((with_reducible refine gate_dst (N := 4) rfl ?_); refine box_event ?hg (N := 4) ?hd (cs := #[.int .i64 0, .int .i64 0]) (t := 25) ?hr ?_; (case hd => rfl); (case hg => rfl); (case hr => first | (go_simp; done) | (go_simp; rfl)); intro gb537 hg w4 hbox hb; have n0_ := Aside0.mk (blk_below (g := gb536) (o := .cells #[.int .i64 a0_0, .int .i64 a0_1, .int .i64 a0_2, .int .i64 a0_3, .int .i64 a0_4, .int .i64 a0_5, .int .i64 a0_6, .int .i64 a0_7, .int .i64 a0_8, .int .i64 a0_9, .int .i64 a0_10, .int .i64 a0_11] 23 (0, 0)) (by (with_reducible repeat (first | refine blk_drewN ?_ _ | refine blk_drew ?_ | refine blk_alloc ?_ _)); exact BK536.out) hb); have n1_ := Aside0.mk (below_step (by repeat (first | (with_reducible first | exact HB.out | apply below_alloc | apply pw_below_drewN | apply below_drew1 | refine below_set ?_ GE536.out) | exact HB.out)) hb); have n2_ := Aside0.mk (hbox); have n3_ := Aside0.mk ((by rw [hg]; exact (below_size (by repeat (first | (with_reducible first | exact HB.out | apply below_alloc | apply pw_below_drewN | apply below_drew1 | refine below_set ?_ GE536.out) | exact HB.out))) : w.heap.size ≤ gb537)); have n4_ := Aside0.mk ((by rw [hg]; exact (below_size (by repeat (first | (with_reducible first | exact HB.out | apply below_alloc | apply pw_below_drewN | apply below_drew1 | refine below_set ?_ GE536.out) | exact HB.out))) : w.heap.size ≤ gb537)); have n5_ := Aside0.mk ((by rw [hg]; exact Nat.ne_of_lt (blk_lt (g := gb536) (o := .cells #[.int .i64 a0_0, .int .i64 a0_1, .int .i64 a0_2, .int .i64 a0_3, .int .i64 a0_4, .int .i64 a0_5, .int .i64 a0_6, .int .i64 a0_7, .int .i64 a0_8, .int .i64 a0_9, .int .i64 a0_10, .int .i64 a0_11] 23 (0, 0)) (by (with_reducible repeat (first | refine blk_drewN ?_ _ | refine blk_drew ?_ | refine blk_alloc ?_ _)); exact BK536.out)) : gb536 ≠ gb537)); have n6_ := Aside0.mk ((by rw [hg]; exact Nat.ne_of_gt (blk_lt (g := gb536) (o := .cells #[.int .i64 a0_0, .int .i64 a0_1, .int .i64 a0_2, .int .i64 a0_3, .int .i64 a0_4, .int .i64 a0_5, .int .i64 a0_6, .int .i64 a0_7, .int .i64 a0_8, .int .i64 a0_9, .int .i64 a0_10, .int .i64 a0_11] 23 (0, 0)) (by (with_reducible repeat (first | refine blk_drewN ?_ _ | refine blk_drew ?_ | refine blk_alloc ?_ _)); exact BK536.out)) : gb537 ≠ gb536)); clear BK536; clear HB; have BK536 := n0_; have HB := n1_; have BK537 := n2_; have GW537 := n3_; have GE537 := n4_; have NB536_537 := n5_; have NB537_536 := n6_; clear n0_ n1_ n2_ n3_ n4_ n5_ n6_; clear hb hbox hg) | ((with_reducible refine gate_dst (N := 6) rfl ?_); refine box_event ?hg (N := 6) ?hd (cs := #[.int .i64 0, .int .i64 0]) (t := 25) ?hr ?_; (case hd => rfl); (case hg => rfl); (case hr => first | (go_simp; done) | (go_simp; rfl)); intro gb538 hg w5 hbox hb; have n0_ := Aside0.mk (blk_below (g := gb536) (o := .cells #[.int .i64 a0_0, .int .i64 a0_1, .int .i64 a0_2, .int .i64 a0_3, .int .i64 a0_4, .int .i64 a0_5, .int .i64 a0_6, .int .i64 a0_7, .int .i64 a0_8, .int .i64 a0_9, .int .i64 a0_10, .int .i64 a0_11] 23 (0, 0)) (by (with_reducible repeat (first | refine blk_drewN ?_ _ | refine blk_drew ?_ | refine blk_alloc ?_ _)); exact BK536.out) hb); have n1_ := Aside0.mk (blk_below (g := gb537) (o := .cells #[.int .i64 0, .int .i64 0] 25 (0, 0)) (by (with_reducible repeat (first | refine blk_drewN ?_ _ | refine blk_drew ?_ | refine blk_alloc ?_ _)); exact BK537.out) hb); have n2_ := Aside0.mk (below_step (by repeat (first | (with_reducible first | exact HB.out | apply below_alloc | apply pw_below_drewN | apply below_drew1 | refine below_set ?_ GE536.out | refine below_set ?_ GE537.out) | exact HB.out)) hb); have n3_ := Aside0.mk (hbox); have n4_ := Aside0.mk ((by rw [hg]; exact (below_size (by repeat (first | (with_reducible first | exact HB.out | apply below_alloc | apply pw_below_drewN | apply below_drew1 | refine below_set ?_ GE536.out | refine below_set ?_ GE537.out) | exact HB.out))) : w.heap.size ≤ gb538)); have n5_ := Aside0.mk ((by rw [hg]; exact (below_size (by repeat (first | (with_reducible first | exact HB.out | apply below_alloc | apply pw_below_drewN | apply below_drew1 | refine below_set ?_ GE536.out | refine below_set ?_ GE537.out) | exact HB.out))) : w.heap.size ≤ gb538)); have n6_ := Aside0.mk ((by rw [hg]; exact Nat.ne_of_lt (blk_lt (g := gb536) (o := .cells #[.int .i64 a0_0, .int .i64 a0_1, .int .i64 a0_2, .int .i64 a0_3, .int .i64 a0_4, .int .i64 a0_5, .int .i64 a0_6, .int .i64 a0_7, .int .i64 a0_8, .int .i64 a0_9, .int .i64 a0_10, .int .i64 a0_11] 23 (0, 0)) (by (with_reducible repeat (first | refine blk_drewN ?_ _ | refine blk_drew ?_ | refine blk_alloc ?_ _)); exact BK536.out)) : gb536 ≠ gb538)); have n7_ := Aside0.mk ((by rw [hg]; exact Nat.ne_of_gt (blk_lt (g := gb536) (o := .cells #[.int .i64 a0_0, .int .i64 a0_1, .int .i64 a0_2, .int .i64 a0_3, .int .i64 a0_4, .int .i64 a0_5, .int .i64 a0_6, .int .i64 a0_7, .int .i64 a0_8, .int .i64 a0_9, .int .i64 a0_10, .int .i64 a0_11] 23 (0, 0)) (by (with_reducible repeat (first | refine blk_drewN ?_ _ | refine blk_drew ?_ | refine blk_alloc ?_ _)); exact BK536.out)) : gb538 ≠ gb536)); have n8_ := Aside0.mk ((by rw [hg]; exact Nat.ne_of_lt (blk_lt (g := gb537) (o := .cells #[.int .i64 0, .int .i64 0] 25 (0, 0)) (by (with_reducible repeat (first | refine blk_drewN ?_ _ | refine blk_drew ?_ | refine blk_alloc ?_ _)); exact BK537.out)) : gb537 ≠ gb538)); have n9_ := Aside0.mk ((by rw [hg]; exact Nat.ne_of_gt (blk_lt (g := gb537) (o := .cells #[.int .i64 0, .int .i64 0] 25 (0, 0)) (by (with_reducible repeat (first | refine blk_drewN ?_ _ | refine blk_drew ?_ | refine blk_alloc ?_ _)); exact BK537.out)) : gb538 ≠ gb537)); clear BK536; clear BK537; clear HB; have BK536 := n0_; have BK537 := n1_; have HB := n2_; have BK538 := n3_; have GW538 := n4_; have GE538 := n5_; have NB536_538 := n6_; have NB538_536 := n7_; have NB537_538 := n8_; have NB538_537 := n9_; clear n0_ n1_ n2_ n3_ n4_ n5_ n6_ n7_ n8_ n9_; clear hb hbox hg; have hnb6 := NB538_536.out; have hnc6 := NB536_538.out; have hnb7 := NB538_537.out; have hnc7 := NB537_538.out; have hcz8_0 : w5.cell? ⟨gb538, 0, none⟩ = some (.int .i64 0) := (blk_cell BK538.out 0).trans rfl; have hcz8_1 : w5.cell? ⟨gb538, 1, none⟩ = some (.int .i64 0) := (blk_cell BK538.out 1).trans rfl; have hfz8_0 := blk_frozen BK538.out 0; have hfz8_1 := blk_frozen BK538.out 1))
 go_loopg [7, 14] k (fun kq v7 v14 w' => ∃ (x7_1 : Bool) (x14_1 : Int) (x539000_1 : Int) (x539001_1 : Int), v7 = .bool x7_1 ∧ v14 = .int .i64 x14_1 ∧ Aside0 (probe_Best.l0 kq x7_1 l1 (l1.length : Int) x14_1 a0_0 a0_1 a0_2 a0_3 a0_4 a0_5 a0_6 a0_7 a0_8 a0_9 a0_10 a0_11 x539000_1 x539001_1 = some (r1, r2, r3)) ∧ Aside0 (kq ≤ k) ∧ Aside0 (w'.heap[gb536]? = some (.cells #[.int .i64 a0_0, .int .i64 a0_1, .int .i64 a0_2, .int .i64 a0_3, .int .i64 a0_4, .int .i64 a0_5, .int .i64 a0_6, .int .i64 a0_7, .int .i64 a0_8, .int .i64 a0_9, .int .i64 a0_10, .int .i64 a0_11] 23 (0, 0))) ∧ Aside0 (w'.heap[gb537]? = some (.cells #[.int .i64 0, .int .i64 0] 25 (0, 0))) ∧ Aside0 (w'.heap[gb538]? = some (.cells #[.int .i64 x539000_1, .int .i64 x539001_1] 25 (0, 0))) ∧ Aside0 (Below w.heap.size w w'))
 case atStart => exact ⟨(false), (0), (0), (0), (by first | rfl | (simp; done) | (simp [*]; done) | (simp [Int.tdiv_eq_ediv_of_nonneg]; done) | (simp [Go.RowKit.wrap64]; done) | (simp [*, Go.RowKit.wrap64]; done)), (by first | rfl | (simp; done) | (simp [*]; done) | (simp [Int.tdiv_eq_ediv_of_nonneg]; done) | (simp [Go.RowKit.wrap64]; done) | (simp [*, Go.RowKit.wrap64]; done)), H', ⟨Nat.le_refl _⟩, ⟨by (with_reducible repeat (first | refine blk_drewN ?_ _ | refine blk_drew ?_ | refine blk_alloc ?_ _)); refine blk_far ?_ NB536_538.out _; (with_reducible repeat (first | refine blk_drewN ?_ _ | refine blk_drew ?_ | refine blk_alloc ?_ _)); refine blk_far ?_ NB536_538.out _; (with_reducible repeat (first | refine blk_drewN ?_ _ | refine blk_drew ?_ | refine blk_alloc ?_ _)); exact BK536.out⟩, ⟨by (with_reducible repeat (first | refine blk_drewN ?_ _ | refine blk_drew ?_ | refine blk_alloc ?_ _)); refine blk_far ?_ NB537_538.out _; (with_reducible repeat (first | refine blk_drewN ?_ _ | refine blk_drew ?_ | refine blk_alloc ?_ _)); refine blk_far ?_ NB537_538.out _; (with_reducible repeat (first | refine blk_drewN ?_ _ | refine blk_drew ?_ | refine blk_alloc ?_ _)); exact BK537.out⟩, ⟨by (with_reducible repeat (first | refine blk_drewN ?_ _ | refine blk_drew ?_ | refine blk_alloc ?_ _)); refine blk_put (cs := #[.int .i64 0, .int .i64 0]) ?_ 1 _ rfl; (with_reducible repeat (first | refine blk_drewN ?_ _ | refine blk_drew ?_ | refine blk_alloc ?_ _)); refine blk_put (cs := #[.int .i64 0, .int .i64 0]) ?_ 0 _ rfl; (with_reducible repeat (first | refine blk_drewN ?_ _ | refine blk_drew ?_ | refine blk_alloc ?_ _)); exact BK538.out⟩, ⟨by repeat (first | (with_reducible first | exact HB.out | apply below_alloc | apply pw_below_drewN | apply below_drew1 | refine below_set ?_ GE536.out | refine below_set ?_ GE537.out | refine below_set ?_ GE538.out) | exact HB.out)⟩⟩
 case round =>
  clear H'
  try clear c1
  try clear p2
  try clear c3
  try clear c6
  try clear c7
  try clear hcz8_0
  try clear hcz8_1
  try clear hfz8_0
  try clear hfz8_1
  obtain ⟨x7_1, x14_1, x539000_1, x539001_1, rfl, rfl, HA, HK1, BK536, BK537, BK538, HB⟩ := hrel
  cases gk with
  | zero => exact absurd HA.out (by simp [probe_Best.l0])
  | succ k1 =>
   have H := HA.out
   clear HA
   simp only [probe_Best.l0] at H
   by_cases c9 : x14_1 < (l1.length : Int)
   ·rw [if_pos c9] at H
    have c9b0 : decide (x14_1 < (l1.length : Int)) = true := decide_eq_true c9
    clear c9
    by_cases c10 : 0 ≤ x14_1
    ·rw [if_pos c10] at H
     have c10b0 : decide (0 ≤ x14_1) = true := decide_eq_true c10
     clear c10
     by_cases c11 : x14_1 < (l1.length : Int)
     ·rw [if_pos c11] at H
      have c11b0 : decide (x14_1 < (l1.length : Int)) = true := decide_eq_true c11
      clear c11
      replace H := Option.bind_eq_some_iff.mp H
      obtain ⟨⟨t541, t542⟩, A120, H⟩ := H
      replace H : ((span_Empty.f t541 t542).bind fun t544 => (if t544 = true then (probe_Best.l0 k1 x7_1 l1 (l1.length : Int) (wrap64 (x14_1 + 1)) a0_0 a0_1 a0_2 a0_3 a0_4 a0_5 a0_6 a0_7 a0_8 a0_9 a0_10 a0_11 x539000_1 x539001_1) else (if x7_1 = true then ((span_Wide.f k1 t541 t542).bind fun t545 => ((span_Wide.f k1 x539000_1 x539001_1).bind fun t546 => (if t545 < t546 then (probe_Best.l0 k1 true l1 (l1.length : Int) (wrap64 (x14_1 + 1)) a0_0 a0_1 a0_2 a0_3 a0_4 a0_5 a0_6 a0_7 a0_8 a0_9 a0_10 a0_11 t541 t542) else (probe_Best.l0 k1 x7_1 l1 (l1.length : Int) (wrap64 (x14_1 + 1)) a0_0 a0_1 a0_2 a0_3 a0_4 a0_5 a0_6 a0_7 a0_8 a0_9 a0_10 a0_11 x539000_1 x539001_1)))) else (probe_Best.l0 k1 true l1 (l1.length : Int) (wrap64 (x14_1 + 1)) a0_0 a0_1 a0_2 a0_3 a0_4 a0_5 a0_6 a0_7 a0_8 a0_9 a0_10 a0_11 t541 t542)))) = some (r1, r2, r3) := H
      have A12 := Aside0.mk A120
      clear A120
      replace H := Option.bind_eq_some_iff.mp H
      obtain ⟨t544, A130, H⟩ := H
      replace H : (if t544 = true then (probe_Best.l0 k1 x7_1 l1 (l1.length : Int) (wrap64 (x14_1 + 1)) a0_0 a0_1 a0_2 a0_3 a0_4 a0_5 a0_6 a0_7 a0_8 a0_9 a0_10 a0_11 x539000_1 x539001_1) else (if x7_1 = true then ((span_Wide.f k1 t541 t542).bind fun t545 => ((span_Wide.f k1 x539000_1 x539001_1).bind fun t546 => (if t545 < t546 then (probe_Best.l0 k1 true l1 (l1.length : Int) (wrap64 (x14_1 + 1)) a0_0 a0_1 a0_2 a0_3 a0_4 a0_5 a0_6 a0_7 a0_8 a0_9 a0_10 a0_11 t541 t542) else (probe_Best.l0 k1 x7_1 l1 (l1.length : Int) (wrap64 (x14_1 + 1)) a0_0 a0_1 a0_2 a0_3 a0_4 a0_5 a0_6 a0_7 a0_8 a0_9 a0_10 a0_11 x539000_1 x539001_1)))) else (probe_Best.l0 k1 true l1 (l1.length : Int) (wrap64 (x14_1 + 1)) a0_0 a0_1 a0_2 a0_3 a0_4 a0_5 a0_6 a0_7 a0_8 a0_9 a0_10 a0_11 t541 t542))) = some (r1, r2, r3) := H
      have A13 := Aside0.mk A130
      clear A130
      by_cases c14 : t544 = true
      ·subst c14
       have H1 : (probe_Best.l0 k1 x7_1 l1 (l1.length : Int) (wrap64 (x14_1 + 1)) a0_0 a0_1 a0_2 a0_3 a0_4 a0_5 a0_6 a0_7 a0_8 a0_9 a0_10 a0_11 x539000_1 x539001_1) = some (r1, r2, r3) := by rw [if_pos rfl] at H; exact H
       clear H
       have H := H1
       clear H1
       have H' := Aside0.mk H
       clear H
       have p539 : 0 ≤ (x14_1 : Int) := of_decide_eq_true (by first | (with_reducible assumption) | assumption)
       have q539 : x14_1 < (l1.length : Int) := of_decide_eq_true (by first | (with_reducible assumption) | assumption)
       obtain ⟨ad539, e539, hx539_0, hx539_1, hx539_2, hx539_3⟩ := at_T57 HR1.out x14_1 p539 q539
       cases e539
       replace hx539_0 := (HB.out.cell (World.block_lt_of_cell? w _ hx539_0)).trans hx539_0
       replace hx539_1 := (HB.out.cell (World.block_lt_of_cell? w _ hx539_1)).trans hx539_1
       replace hx539_2 := (HB.out.cell (World.block_lt_of_cell? w _ hx539_2)).trans hx539_2
       replace hx539_3 := (HB.out.cell (World.block_lt_of_cell? w _ hx539_3)).trans hx539_3
       replace p539 := eq_true p539
       replace q539 := eq_true q539
       try go_wp2_with (first | ((with_reducible refine gate_dst (N := 9) rfl ?_); refine box_event ?hg (N := 9) ?hd (cs := #[.int .i64 0, .int .i64 0, .int .i64 0, .int .i64 0]) (t := 57) ?hr ?_; (case hd => rfl); (case hg => rfl); (case hr => first | (go_simp; done) | (go_simp; rfl)); intro gb540 hg w15 hbox hb; have n0_ := Aside0.mk (blk_below (g := gb536) (o := .cells #[.int .i64 a0_0, .int .i64 a0_1, .int .i64 a0_2, .int .i64 a0_3, .int .i64 a0_4, .int .i64 a0_5, .int .i64 a0_6, .int .i64 a0_7, .int .i64 a0_8, .int .i64 a0_9, .int .i64 a0_10, .int .i64 a0_11] 23 (0, 0)) (by (with_reducible repeat (first | refine blk_drewN ?_ _ | refine blk_drew ?_ | refine blk_alloc ?_ _)); exact BK536.out) hb); have n1_ := Aside0.mk (blk_below (g := gb537) (o := .cells #[.int .i64 0, .int .i64 0] 25 (0, 0)) (by (with_reducible repeat (first | refine blk_drewN ?_ _ | refine blk_drew ?_ | refine blk_alloc ?_ _)); exact BK537.out) hb); have n2_ := Aside0.mk (blk_below (g := gb538) (o := .cells #[.int .i64 x539000_1, .int .i64 x539001_1] 25 (0, 0)) (by (with_reducible repeat (first | refine blk_drewN ?_ _ | refine blk_drew ?_ | refine blk_alloc ?_ _)); exact BK538.out) hb); have n3_ := Aside0.mk (below_step (by repeat (first | (with_reducible first | exact HB.out | apply below_alloc | apply pw_below_drewN | apply below_drew1 | refine below_set ?_ GE536.out | refine below_set ?_ GE537.out | refine below_set ?_ GE538.out) | exact HB.out)) hb); have n4_ := Aside0.mk (hbox); have n5_ := Aside0.mk ((by rw [hg]; exact (below_size (by repeat (first | (with_reducible first | exact HB.out | apply below_alloc | apply pw_below_drewN | apply below_drew1 | refine below_set ?_ GE536.out | refine below_set ?_ GE537.out | refine below_set ?_ GE538.out) | exact HB.out))) : w.heap.size ≤ gb540)); have n6_ := Aside0.mk ((by rw [hg]; exact (below_size (by repeat (first | (with_reducible first | exact HB.out | apply below_alloc | apply pw_below_drewN | apply below_drew1 | refine below_set ?_ GE536.out | refine below_set ?_ GE537.out | refine below_set ?_ GE538.out) | exact HB.out))) : w.heap.size ≤ gb540)); have n7_ := Aside0.mk ((by rw [hg]; exact Nat.ne_of_lt (blk_lt (g := gb536) (o := .cells #[.int .i64 a0_0, .int .i64 a0_1, .int .i64 a0_2, .int .i64 a0_3, .int .i64 a0_4, .int .i64 a0_5, .int .i64 a0_6, .int .i64 a0_7, .int .i64 a0_8, .int .i64 a0_9, .int .i64 a0_10, .int .i64 a0_11] 23 (0, 0)) (by (with_reducible repeat (first | refine blk_drewN ?_ _ | refine blk_drew ?_ | refine blk_alloc ?_ _)); exact BK536.out)) : gb536 ≠ gb540)); have n8_ := Aside0.mk ((by rw [hg]; exact Nat.ne_of_gt (blk_lt (g := gb536) (o := .cells #[.int .i64 a0_0, .int .i64 a0_1, .int .i64 a0_2, .int .i64 a0_3, .int .i64 a0_4, .int .i64 a0_5, .int .i64 a0_6, .int .i64 a0_7, .int .i64 a0_8, .int .i64 a0_9, .int .i64 a0_10, .int .i64 a0_11] 23 (0, 0)) (by (with_reducible repeat (first | refine blk_drewN ?_ _ | refine blk_drew ?_ | refine blk_alloc ?_ _)); exact BK536.out)) : gb540 ≠ gb536)); have n9_ := Aside0.mk ((by rw [hg]; exact Nat.ne_of_lt (blk_lt (g := gb537) (o := .cells #[.int .i64 0, .int .i64 0] 25 (0, 0)) (by (with_reducible repeat (first | refine blk_drewN ?_ _ | refine blk_drew ?_ | refine blk_alloc ?_ _)); exact BK537.out)) : gb537 ≠ gb540)); have n10_ := Aside0.mk ((by rw [hg]; exact Nat.ne_of_gt (blk_lt (g := gb537) (o := .cells #[.int .i64 0, .int .i64 0] 25 (0, 0)) (by (with_reducible repeat (first | refine blk_drewN ?_ _ | refine blk_drew ?_ | refine blk_alloc ?_ _)); exact BK537.out)) : gb540 ≠ gb537)); have n11_ := Aside0.mk ((by rw [hg]; exact Nat.ne_of_lt (blk_lt (g := gb538) (o := .cells #[.int .i64 x539000_1, .int .i64 x539001_1] 25 (0, 0)) (by (with_reducible repeat (first | refine blk_drewN ?_ _ | refine blk_drew ?_ | refine blk_alloc ?_ _)); exact BK538.out)) : gb538 ≠ gb540)); have n12_ := Aside0.mk ((by rw [hg]; exact Nat.ne_of_gt (blk_lt (g := gb538) (o := .cells #[.int .i64 x539000_1, .int .i64 x539001_1] 25 (0, 0)) (by (with_reducible repeat (first | refine blk_drewN ?_ _ | refine blk_drew ?_ | refine blk_alloc ?_ _)); exact BK538.out)) : gb540 ≠ gb538)); clear BK536; clear BK537; clear BK538; clear HB; have BK536 := n0_; have BK537 := n1_; have BK538 := n2_; have HB := n3_; have BK540 := n4_; have GW540 := n5_; have GE540 := n6_; have NB536_540 := n7_; have NB540_536 := n8_; have NB537_540 := n9_; have NB540_537 := n10_; have NB538_540 := n11_; have NB540_538 := n12_; clear n0_ n1_ n2_ n3_ n4_ n5_ n6_ n7_ n8_ n9_ n10_ n11_ n12_; clear hb hbox hg; have hnb16 := NB540_536.out; have hnc16 := NB536_540.out; have hnb17 := NB540_537.out; have hnc17 := NB537_540.out; have hnb18 := NB540_538.out; have hnc18 := NB538_540.out; have hcz19_0 : w15.cell? ⟨gb540, 0, none⟩ = some (.int .i64 0) := (blk_cell BK540.out 0).trans rfl; have hcz19_1 : w15.cell? ⟨gb540, 1, none⟩ = some (.int .i64 0) := (blk_cell BK540.out 1).trans rfl; have hcz19_2 : w15.cell? ⟨gb540, 2, none⟩ = some (.int .i64 0) := (blk_cell BK540.out 2).trans rfl; have hcz19_3 : w15.cell? ⟨gb540, 3, none⟩ = some (.int .i64 0) := (blk_cell BK540.out 3).trans rfl; have hfz19_0 := blk_frozen BK540.out 0; have hfz19_1 := blk_frozen BK540.out 1; have hfz19_2 := blk_frozen BK540.out 2; have hfz19_3 := blk_frozen BK540.out 3; have hnb20 := NB536_537.out; have hnc20 := NB537_536.out; have hnb21 := NB536_538.out; have hnc21 := NB538_536.out; have hcz22_0 : w15.cell? ⟨gb536, 0, none⟩ = some (.int .i64 a0_0) := (blk_cell BK536.out 0).trans rfl; have hcz22_1 : w15.cell? ⟨gb536, 1, none⟩ = some (.int .i64 a0_1) := (blk_cell BK536.out 1).trans rfl; have hcz22_2 : w15.cell? ⟨gb536, 2, none⟩ = some (.int .i64 a0_2) := (blk_cell BK536.out 2).trans rfl; have hcz22_3 : w15.cell? ⟨gb536, 3, none⟩ = some (.int .i64 a0_3) := (blk_cell BK536.out 3).trans rfl; have hcz22_4 : w15.cell? ⟨gb536, 4, none⟩ = some (.int .i64 a0_4) := (blk_cell BK536.out 4).trans rfl; have hcz22_5 : w15.cell? ⟨gb536, 5, none⟩ = some (.int .i64 a0_5) := (blk_cell BK536.out 5).trans rfl; have hcz22_6 : w15.cell? ⟨gb536, 6, none⟩ = some (.int .i64 a0_6) := (blk_cell BK536.out 6).trans rfl; have hcz22_7 : w15.cell? ⟨gb536, 7, none⟩ = some (.int .i64 a0_7) := (blk_cell BK536.out 7).trans rfl; have hcz22_8 : w15.cell? ⟨gb536, 8, none⟩ = some (.int .i64 a0_8) := (blk_cell BK536.out 8).trans rfl; have hcz22_9 : w15.cell? ⟨gb536, 9, none⟩ = some (.int .i64 a0_9) := (blk_cell BK536.out 9).trans rfl; have hcz22_10 : w15.cell? ⟨gb536, 10, none⟩ = some (.int .i64 a0_10) := (blk_cell BK536.out 10).trans rfl; have hcz22_11 : w15.cell? ⟨gb536, 11, none⟩ = some (.int .i64 a0_11) := (blk_cell BK536.out 11).trans rfl; have hfz22_0 := blk_frozen BK536.out 0; have hfz22_1 := blk_frozen BK536.out 1; have hfz22_2 := blk_frozen BK536.out 2; have hfz22_3 := blk_frozen BK536.out 3; have hfz22_4 := blk_frozen BK536.out 4; have hfz22_5 := blk_frozen BK536.out 5; have hfz22_6 := blk_frozen BK536.out 6; have hfz22_7 := blk_frozen BK536.out 7; have hfz22_8 := blk_frozen BK536.out 8; have hfz22_9 := blk_frozen BK536.out 9; have hfz22_10 := blk_frozen BK536.out 10; have hfz22_11 := blk_frozen BK536.out 11) | ((with_reducible refine gate_callee (f := 33) rfl ?_); refine goesL_ (some 20) rfl rfl Try.func33 (by kernel_rfl) rfl #[.agg #[.int .i64 a0_0, .int .i64 a0_1, .int .i64 a0_2, .int .i64 a0_3, .int .i64 a0_4, .int .i64 a0_5, .int .i64 a0_6, .int .i64 a0_7, .int .i64 a0_8, .int .i64 a0_9, .int .i64 a0_10, .int .i64 a0_11], .agg #[.int .i64 ((rd_T57 l1 x14_1).f0), .int .i64 ((rd_T57 l1 x14_1).f1), .int .i64 ((rd_T57 l1 x14_1).f2), .int .i64 ((rd_T57 l1 x14_1).f3)]] rfl (by (try simp only [List.map_toArray, List.map_cons, List.map_nil]); first | done | rfl | (simp only [List.length_drop, List.length_take]; rfl)) ?_; (with_reducible refine (probe_Ahead.calls k1 a0_0 a0_1 a0_2 a0_3 a0_4 a0_5 a0_6 a0_7 a0_8 a0_9 a0_10 a0_11 ((rd_T57 l1 x14_1).f0) ((rd_T57 l1 x14_1).f1) ((rd_T57 l1 x14_1).f2) ((rd_T57 l1 x14_1).f3) t541 t542 _ A12.out).mono ?_); rintro e w23 ⟨rfl, hb⟩; refine ⟨_, rfl, ?_⟩; have n0_ := Aside0.mk (blk_below (g := gb536) (o := .cells #[.int .i64 a0_0, .int .i64 a0_1, .int .i64 a0_2, .int .i64 a0_3, .int .i64 a0_4, .int .i64 a0_5, .int .i64 a0_6, .int .i64 a0_7, .int .i64 a0_8, .int .i64 a0_9, .int .i64 a0_10, .int .i64 a0_11] 23 (0, 0)) (by (with_reducible repeat (first | refine blk_drewN ?_ _ | refine blk_drew ?_ | refine blk_alloc ?_ _)); refine blk_far ?_ NB536_540.out _; (with_reducible repeat (first | refine blk_drewN ?_ _ | refine blk_drew ?_ | refine blk_alloc ?_ _)); refine blk_far ?_ NB536_540.out _; (with_reducible repeat (first | refine blk_drewN ?_ _ | refine blk_drew ?_ | refine blk_alloc ?_ _)); refine blk_far ?_ NB536_540.out _; (with_reducible repeat (first | refine blk_drewN ?_ _ | refine blk_drew ?_ | refine blk_alloc ?_ _)); refine blk_far ?_ NB536_540.out _; (with_reducible repeat (first | refine blk_drewN ?_ _ | refine blk_drew ?_ | refine blk_alloc ?_ _)); exact BK536.out) hb); have n1_ := Aside0.mk (blk_below (g := gb537) (o := .cells #[.int .i64 0, .int .i64 0] 25 (0, 0)) (by (with_reducible repeat (first | refine blk_drewN ?_ _ | refine blk_drew ?_ | refine blk_alloc ?_ _)); refine blk_far ?_ NB537_540.out _; (with_reducible repeat (first | refine blk_drewN ?_ _ | refine blk_drew ?_ | refine blk_alloc ?_ _)); refine blk_far ?_ NB537_540.out _; (with_reducible repeat (first | refine blk_drewN ?_ _ | refine blk_drew ?_ | refine blk_alloc ?_ _)); refine blk_far ?_ NB537_540.out _; (with_reducible repeat (first | refine blk_drewN ?_ _ | refine blk_drew ?_ | refine blk_alloc ?_ _)); refine blk_far ?_ NB537_540.out _; (with_reducible repeat (first | refine blk_drewN ?_ _ | refine blk_drew ?_ | refine blk_alloc ?_ _)); exact BK537.out) hb); have n2_ := Aside0.mk (blk_below (g := gb538) (o := .cells #[.int .i64 x539000_1, .int .i64 x539001_1] 25 (0, 0)) (by (with_reducible repeat (first | refine blk_drewN ?_ _ | refine blk_drew ?_ | refine blk_alloc ?_ _)); refine blk_far ?_ NB538_540.out _; (with_reducible repeat (first | refine blk_drewN ?_ _ | refine blk_drew ?_ | refine blk_alloc ?_ _)); refine blk_far ?_ NB538_540.out _; (with_reducible repeat (first | refine blk_drewN ?_ _ | refine blk_drew ?_ | refine blk_alloc ?_ _)); refine blk_far ?_ NB538_540.out _; (with_reducible repeat (first | refine blk_drewN ?_ _ | refine blk_drew ?_ | refine blk_alloc ?_ _)); refine blk_far ?_ NB538_540.out _; (with_reducible repeat (first | refine blk_drewN ?_ _ | refine blk_drew ?_ | refine blk_alloc ?_ _)); exact BK538.out) hb); have n3_ := Aside0.mk (blk_below (g := gb540) (o := .cells #[.int .i64 ((rd_T57 l1 x14_1).f0), .int .i64 ((rd_T57 l1 x14_1).f1), .int .i64 ((rd_T57 l1 x14_1).f2), .int .i64 ((rd_T57 l1 x14_1).f3)] 57 (0, 0)) (by (with_reducible repeat (first | refine blk_drewN ?_ _ | refine blk_drew ?_ | refine blk_alloc ?_ _)); refine blk_put (cs := #[.int .i64 ((rd_T57 l1 x14_1).f0), .int .i64 ((rd_T57 l1 x14_1).f1), .int .i64 ((rd_T57 l1 x14_1).f2), .int .i64 0]) ?_ 3 _ rfl; (with_reducible repeat (first | refine blk_drewN ?_ _ | refine blk_drew ?_ | refine blk_alloc ?_ _)); refine blk_put (cs := #[.int .i64 ((rd_T57 l1 x14_1).f0), .int .i64 ((rd_T57 l1 x14_1).f1), .int .i64 0, .int .i64 0]) ?_ 2 _ rfl; (with_reducible repeat (first | refine blk_drewN ?_ _ | refine blk_drew ?_ | refine blk_alloc ?_ _)); refine blk_put (cs := #[.int .i64 ((rd_T57 l1 x14_1).f0), .int .i64 0, .int .i64 0, .int .i64 0]) ?_ 1 _ rfl; (with_reducible repeat (first | refine blk_drewN ?_ _ | refine blk_drew ?_ | refine blk_alloc ?_ _)); refine blk_put (cs := #[.int .i64 0, .int .i64 0, .int .i64 0, .int .i64 0]) ?_ 0 _ rfl; (with_reducible repeat (first | refine blk_drewN ?_ _ | refine blk_drew ?_ | refine blk_alloc ?_ _)); exact BK540.out) hb); have n4_ := Aside0.mk (below_step (by repeat (first | (with_reducible first | exact HB.out | apply below_alloc | apply pw_below_drewN | apply below_drew1 | refine below_set ?_ GE536.out | refine below_set ?_ GE537.out | refine below_set ?_ GE538.out | refine below_set ?_ GE540.out) | exact HB.out)) hb); clear BK536; clear BK537; clear BK538; clear BK540; clear HB; have BK536 := n0_; have BK537 := n1_; have BK538 := n2_; have BK540 := n3_; have HB := n4_; clear n0_ n1_ n2_ n3_ n4_; (try clear hb); (try clear hb2); (try clear hk); (try clear hi)) | ((with_reducible refine gate_dst (N := 10) rfl ?_); refine box_event ?hg (N := 10) ?hd (cs := #[.int .i64 0, .int .i64 0]) (t := 25) ?hr ?_; (case hd => rfl); (case hg => rfl); (case hr => first | (go_simp; done) | (go_simp; rfl)); intro gb543 hg w24 hbox hb; have n0_ := Aside0.mk (blk_below (g := gb536) (o := .cells #[.int .i64 a0_0, .int .i64 a0_1, .int .i64 a0_2, .int .i64 a0_3, .int .i64 a0_4, .int .i64 a0_5, .int .i64 a0_6, .int .i64 a0_7, .int .i64 a0_8, .int .i64 a0_9, .int .i64 a0_10, .int .i64 a0_11] 23 (0, 0)) (by (with_reducible repeat (first | refine blk_drewN ?_ _ | refine blk_drew ?_ | refine blk_alloc ?_ _)); exact BK536.out) hb); have n1_ := Aside0.mk (blk_below (g := gb537) (o := .cells #[.int .i64 0, .int .i64 0] 25 (0, 0)) (by (with_reducible repeat (first | refine blk_drewN ?_ _ | refine blk_drew ?_ | refine blk_alloc ?_ _)); exact BK537.out) hb); have n2_ := Aside0.mk (blk_below (g := gb538) (o := .cells #[.int .i64 x539000_1, .int .i64 x539001_1] 25 (0, 0)) (by (with_reducible repeat (first | refine blk_drewN ?_ _ | refine blk_drew ?_ | refine blk_alloc ?_ _)); exact BK538.out) hb); have n3_ := Aside0.mk (blk_below (g := gb540) (o := .cells #[.int .i64 ((rd_T57 l1 x14_1).f0), .int .i64 ((rd_T57 l1 x14_1).f1), .int .i64 ((rd_T57 l1 x14_1).f2), .int .i64 ((rd_T57 l1 x14_1).f3)] 57 (0, 0)) (by (with_reducible repeat (first | refine blk_drewN ?_ _ | refine blk_drew ?_ | refine blk_alloc ?_ _)); exact BK540.out) hb); have n4_ := Aside0.mk (below_step (by repeat (first | (with_reducible first | exact HB.out | apply below_alloc | apply pw_below_drewN | apply below_drew1 | refine below_set ?_ GE536.out | refine below_set ?_ GE537.out | refine below_set ?_ GE538.out | refine below_set ?_ GE540.out) | exact HB.out)) hb); have n5_ := Aside0.mk (hbox); have n6_ := Aside0.mk ((by rw [hg]; exact (below_size (by repeat (first | (with_reducible first | exact HB.out | apply below_alloc | apply pw_below_drewN | apply below_drew1 | refine below_set ?_ GE536.out | refine below_set ?_ GE537.out | refine below_set ?_ GE538.out | refine below_set ?_ GE540.out) | exact HB.out))) : w.heap.size ≤ gb543)); have n7_ := Aside0.mk ((by rw [hg]; exact (below_size (by repeat (first | (with_reducible first | exact HB.out | apply below_alloc | apply pw_below_drewN | apply below_drew1 | refine below_set ?_ GE536.out | refine below_set ?_ GE537.out | refine below_set ?_ GE538.out | refine below_set ?_ GE540.out) | exact HB.out))) : w.heap.size ≤ gb543)); have n8_ := Aside0.mk ((by rw [hg]; exact Nat.ne_of_lt (blk_lt (g := gb536) (o := .cells #[.int .i64 a0_0, .int .i64 a0_1, .int .i64 a0_2, .int .i64 a0_3, .int .i64 a0_4, .int .i64 a0_5, .int .i64 a0_6, .int .i64 a0_7, .int .i64 a0_8, .int .i64 a0_9, .int .i64 a0_10, .int .i64 a0_11] 23 (0, 0)) (by (with_reducible repeat (first | refine blk_drewN ?_ _ | refine blk_drew ?_ | refine blk_alloc ?_ _)); exact BK536.out)) : gb536 ≠ gb543)); have n9_ := Aside0.mk ((by rw [hg]; exact Nat.ne_of_gt (blk_lt (g := gb536) (o := .cells #[.int .i64 a0_0, .int .i64 a0_1, .int .i64 a0_2, .int .i64 a0_3, .int .i64 a0_4, .int .i64 a0_5, .int .i64 a0_6, .int .i64 a0_7, .int .i64 a0_8, .int .i64 a0_9, .int .i64 a0_10, .int .i64 a0_11] 23 (0, 0)) (by (with_reducible repeat (first | refine blk_drewN ?_ _ | refine blk_drew ?_ | refine blk_alloc ?_ _)); exact BK536.out)) : gb543 ≠ gb536)); have n10_ := Aside0.mk ((by rw [hg]; exact Nat.ne_of_lt (blk_lt (g := gb537) (o := .cells #[.int .i64 0, .int .i64 0] 25 (0, 0)) (by (with_reducible repeat (first | refine blk_drewN ?_ _ | refine blk_drew ?_ | refine blk_alloc ?_ _)); exact BK537.out)) : gb537 ≠ gb543)); have n11_ := Aside0.mk ((by rw [hg]; exact Nat.ne_of_gt (blk_lt (g := gb537) (o := .cells #[.int .i64 0, .int .i64 0] 25 (0, 0)) (by (with_reducible repeat (first | refine blk_drewN ?_ _ | refine blk_drew ?_ | refine blk_alloc ?_ _)); exact BK537.out)) : gb543 ≠ gb537)); have n12_ := Aside0.mk ((by rw [hg]; exact Nat.ne_of_lt (blk_lt (g := gb538) (o := .cells #[.int .i64 x539000_1, .int .i64 x539001_1] 25 (0, 0)) (by (with_reducible repeat (first | refine blk_drewN ?_ _ | refine blk_drew ?_ | refine blk_alloc ?_ _)); exact BK538.out)) : gb538 ≠ gb543)); have n13_ := Aside0.mk ((by rw [hg]; exact Nat.ne_of_gt (blk_lt (g := gb538) (o := .cells #[.int .i64 x539000_1, .int .i64 x539001_1] 25 (0, 0)) (by (with_reducible repeat (first | refine blk_drewN ?_ _ | refine blk_drew ?_ | refine blk_alloc ?_ _)); exact BK538.out)) : gb543 ≠ gb538)); have n14_ := Aside0.mk ((by rw [hg]; exact Nat.ne_of_lt (blk_lt (g := gb540) (o := .cells #[.int .i64 ((rd_T57 l1 x14_1).f0), .int .i64 ((rd_T57 l1 x14_1).f1), .int .i64 ((rd_T57 l1 x14_1).f2), .int .i64 ((rd_T57 l1 x14_1).f3)] 57 (0, 0)) (by (with_reducible repeat (first | refine blk_drewN ?_ _ | refine blk_drew ?_ | refine blk_alloc ?_ _)); exact BK540.out)) : gb540 ≠ gb543)); have n15_ := Aside0.mk ((by rw [hg]; exact Nat.ne_of_gt (blk_lt (g := gb540) (o := .cells #[.int .i64 ((rd_T57 l1 x14_1).f0), .int .i64 ((rd_T57 l1 x14_1).f1), .int .i64 ((rd_T57 l1 x14_1).f2), .int .i64 ((rd_T57 l1 x14_1).f3)] 57 (0, 0)) (by (with_reducible repeat (first | refine blk_drewN ?_ _ | refine blk_drew ?_ | refine blk_alloc ?_ _)); exact BK540.out)) : gb543 ≠ gb540)); clear BK536; clear BK537; clear BK538; clear BK540; clear HB; have BK536 := n0_; have BK537 := n1_; have BK538 := n2_; have BK540 := n3_; have HB := n4_; have BK543 := n5_; have GW543 := n6_; have GE543 := n7_; have NB536_543 := n8_; have NB543_536 := n9_; have NB537_543 := n10_; have NB543_537 := n11_; have NB538_543 := n12_; have NB543_538 := n13_; have NB540_543 := n14_; have NB543_540 := n15_; clear n0_ n1_ n2_ n3_ n4_ n5_ n6_ n7_ n8_ n9_ n10_ n11_ n12_ n13_ n14_ n15_; clear hb hbox hg; have hnb25 := NB543_536.out; have hnc25 := NB536_543.out; have hnb26 := NB543_537.out; have hnc26 := NB537_543.out; have hnb27 := NB543_538.out; have hnc27 := NB538_543.out; have hnb28 := NB543_540.out; have hnc28 := NB540_543.out; have hcz29_0 : w24.cell? ⟨gb543, 0, none⟩ = some (.int .i64 0) := (blk_cell BK543.out 0).trans rfl; have hcz29_1 : w24.cell? ⟨gb543, 1, none⟩ = some (.int .i64 0) := (blk_cell BK543.out 1).trans rfl; have hfz29_0 := blk_frozen BK543.out 0; have hfz29_1 := blk_frozen BK543.out 1))
       have n0_ : Aside0 (((w24.setCell ⟨gb543, 0, none⟩ (.int .i64 t541)).setCell ⟨gb543, 1, none⟩ (.int .i64 t542)).heap[gb536]? = some (.cells #[.int .i64 a0_0, .int .i64 a0_1, .int .i64 a0_2, .int .i64 a0_3, .int .i64 a0_4, .int .i64 a0_5, .int .i64 a0_6, .int .i64 a0_7, .int .i64 a0_8, .int .i64 a0_9, .int .i64 a0_10, .int .i64 a0_11] 23 (0, 0))) := ⟨by (with_reducible repeat (first | refine blk_drewN ?_ _ | refine blk_drew ?_ | refine blk_alloc ?_ _)); refine blk_far ?_ NB536_543.out _; (with_reducible repeat (first | refine blk_drewN ?_ _ | refine blk_drew ?_ | refine blk_alloc ?_ _)); refine blk_far ?_ NB536_543.out _; (with_reducible repeat (first | refine blk_drewN ?_ _ | refine blk_drew ?_ | refine blk_alloc ?_ _)); exact BK536.out⟩
       have n1_ : Aside0 (((w24.setCell ⟨gb543, 0, none⟩ (.int .i64 t541)).setCell ⟨gb543, 1, none⟩ (.int .i64 t542)).heap[gb537]? = some (.cells #[.int .i64 0, .int .i64 0] 25 (0, 0))) := ⟨by (with_reducible repeat (first | refine blk_drewN ?_ _ | refine blk_drew ?_ | refine blk_alloc ?_ _)); refine blk_far ?_ NB537_543.out _; (with_reducible repeat (first | refine blk_drewN ?_ _ | refine blk_drew ?_ | refine blk_alloc ?_ _)); refine blk_far ?_ NB537_543.out _; (with_reducible repeat (first | refine blk_drewN ?_ _ | refine blk_drew ?_ | refine blk_alloc ?_ _)); exact BK537.out⟩
       have n2_ : Aside0 (((w24.setCell ⟨gb543, 0, none⟩ (.int .i64 t541)).setCell ⟨gb543, 1, none⟩ (.int .i64 t542)).heap[gb538]? = some (.cells #[.int .i64 x539000_1, .int .i64 x539001_1] 25 (0, 0))) := ⟨by (with_reducible repeat (first | refine blk_drewN ?_ _ | refine blk_drew ?_ | refine blk_alloc ?_ _)); refine blk_far ?_ NB538_543.out _; (with_reducible repeat (first | refine blk_drewN ?_ _ | refine blk_drew ?_ | refine blk_alloc ?_ _)); refine blk_far ?_ NB538_543.out _; (with_reducible repeat (first | refine blk_drewN ?_ _ | refine blk_drew ?_ | refine blk_alloc ?_ _)); exact BK538.out⟩
       have n3_ : Aside0 (((w24.setCell ⟨gb543, 0, none⟩ (.int .i64 t541)).setCell ⟨gb543, 1, none⟩ (.int .i64 t542)).heap[gb540]? = some (.cells #[.int .i64 ((rd_T57 l1 x14_1).f0), .int .i64 ((rd_T57 l1 x14_1).f1), .int .i64 ((rd_T57 l1 x14_1).f2), .int .i64 ((rd_T57 l1 x14_1).f3)] 57 (0, 0))) := ⟨by (with_reducible repeat (first | refine blk_drewN ?_ _ | refine blk_drew ?_ | refine blk_alloc ?_ _)); refine blk_far ?_ NB540_543.out _; (with_reducible repeat (first | refine blk_drewN ?_ _ | refine blk_drew ?_ | refine blk_alloc ?_ _)); refine blk_far ?_ NB540_543.out _; (with_reducible repeat (first | refine blk_drewN ?_ _ | refine blk_drew ?_ | refine blk_alloc ?_ _)); exact BK540.out⟩
       have n4_ : Aside0 (((w24.setCell ⟨gb543, 0, none⟩ (.int .i64 t541)).setCell ⟨gb543, 1, none⟩ (.int .i64 t542)).heap[gb543]? = some (.cells #[.int .i64 t541, .int .i64 t542] 25 (0, 0))) := ⟨by (with_reducible repeat (first | refine blk_drewN ?_ _ | refine blk_drew ?_ | refine blk_alloc ?_ _)); refine blk_put (cs := #[.int .i64 t541, .int .i64 0]) ?_ 1 _ rfl; (with_reducible repeat (first | refine blk_drewN ?_ _ | refine blk_drew ?_ | refine blk_alloc ?_ _)); refine blk_put (cs := #[.int .i64 0, .int .i64 0]) ?_ 0 _ rfl; (with_reducible repeat (first | refine blk_drewN ?_ _ | refine blk_drew ?_ | refine blk_alloc ?_ _)); exact BK543.out⟩
       have n5_ : Aside0 (Below w.heap.size w ((w24.setCell ⟨gb543, 0, none⟩ (.int .i64 t541)).setCell ⟨gb543, 1, none⟩ (.int .i64 t542))) := ⟨by repeat (first | (with_reducible first | exact HB.out | apply below_alloc | apply pw_below_drewN | apply below_drew1 | refine below_set ?_ GE536.out | refine below_set ?_ GE537.out | refine below_set ?_ GE538.out | refine below_set ?_ GE540.out | refine below_set ?_ GE543.out) | exact HB.out)⟩
       (try clear BK536)
       (try clear BK537)
       (try clear BK538)
       (try clear BK540)
       (try clear BK543)
       (try clear HB)
       generalize ((w24.setCell ⟨gb543, 0, none⟩ (.int .i64 t541)).setCell ⟨gb543, 1, none⟩ (.int .i64 t542)) = w30 at n0_ n1_ n2_ n3_ n4_ n5_ ⊢
       have BK536 := n0_
       have BK537 := n1_
       have BK538 := n2_
       have BK540 := n3_
       have BK543 := n4_
       have HB := n5_
       clear n0_ n1_ n2_ n3_ n4_ n5_
       have n0_ := Aside0.mk (blk_drew BK536.out)
       have n1_ := Aside0.mk (blk_drew BK537.out)
       have n2_ := Aside0.mk (blk_drew BK538.out)
       have n3_ := Aside0.mk (blk_drew BK540.out)
       have n4_ := Aside0.mk (blk_drew BK543.out)
       have n5_ := Aside0.mk (below_drew1 HB.out)
       clear BK536
       clear BK537
       clear BK538
       clear BK540
       clear BK543
       clear HB
       have BK536 := n0_
       have BK537 := n1_
       have BK538 := n2_
       have BK540 := n3_
       have BK543 := n4_
       have HB := n5_
       clear n0_ n1_ n2_ n3_ n4_ n5_
       refine start_ (n := 14) (S := fun w' => w'.cell? ⟨gb543, 0, none⟩ = some (.int .i64 t541) ∧ w'.cell? ⟨gb543, 1, none⟩ = some (.int .i64 t542)) (ds := []) #[false, false, false, false, false, false, false, false, false, false, false, false, false, false] (by kernel_rfl) rfl rfl ⟨(blk_cell BK543.out 0).trans rfl, (blk_cell BK543.out 1).trans rfl⟩ (fun hHeld => ?_); refine with_tabW probe_Best.tab6 probe_Best.bits6 (fun HT_ HW_ => ?_)
       generalize w30.drew = w31 at BK536 BK537 BK538 BK540 BK543 HB hHeld ⊢
       refine take_ (i := 0) (N := some 21) (v := ?_) (a' := ?_) #[true, false, false, false, false, false, false, false, false, false, false, false, false, false] rfl rfl (take_ofW HT_.out HW_.out (by kernel_rfl)) (fun _ _ _ h => h) (Or.inl ⟨by rfl, ?_⟩) hHeld ?_ ?_
       rotate_left
       ·rintro w' ⟨s0, s1⟩
        go_simp
        with_reducible rfl
       rotate_left
       ·simp only [Act.put, List.setIfInBounds_toArray, List.set_cons_zero, List.set_cons_succ, i64_w, i32_w]
        rfl
       refine one_ (i := 1) (N := some 22) #[true, true, false, false, false, false, false, false, false, false, false, false, false, false] rfl rfl (one_of HT_.out (by kernel_rfl)) (by decide) (fun K hK => ?_)
       refine goes_ Try.func56 (by kernel_rfl) rfl #[.agg #[.int .i64 t541, .int .i64 t542]] (by rfl) rfl rfl (by (try simp only [List.map_toArray, List.map_cons, List.map_nil]); first | done | rfl | (simp only [List.length_drop, List.length_take]; rfl)) ?_
       with_reducible refine (span_Empty.calls t541 t542 true _ A13.out).mono ?_
       rintro e w32 ⟨rfl, hb⟩
       refine ⟨_, rfl, ?_⟩
       have n0_ := Aside0.mk (blk_below (g := gb536) (o := .cells #[.int .i64 a0_0, .int .i64 a0_1, .int .i64 a0_2, .int .i64 a0_3, .int .i64 a0_4, .int .i64 a0_5, .int .i64 a0_6, .int .i64 a0_7, .int .i64 a0_8, .int .i64 a0_9, .int .i64 a0_10, .int .i64 a0_11] 23 (0, 0)) (by (with_reducible repeat (first | refine blk_drewN ?_ _ | refine blk_drew ?_ | refine blk_alloc ?_ _)); exact BK536.out) hb)
       have n1_ := Aside0.mk (blk_below (g := gb537) (o := .cells #[.int .i64 0, .int .i64 0] 25 (0, 0)) (by (with_reducible repeat (first | refine blk_drewN ?_ _ | refine blk_drew ?_ | refine blk_alloc ?_ _)); exact BK537.out) hb)
       have n2_ := Aside0.mk (blk_below (g := gb538) (o := .cells #[.int .i64 x539000_1, .int .i64 x539001_1] 25 (0, 0)) (by (with_reducible repeat (first | refine blk_drewN ?_ _ | refine blk_drew ?_ | refine blk_alloc ?_ _)); exact BK538.out) hb)
       have n3_ := Aside0.mk (blk_below (g := gb540) (o := .cells #[.int .i64 ((rd_T57 l1 x14_1).f0), .int .i64 ((rd_T57 l1 x14_1).f1), .int .i64 ((rd_T57 l1 x14_1).f2), .int .i64 ((rd_T57 l1 x14_1).f3)] 57 (0, 0)) (by (with_reducible repeat (first | refine blk_drewN ?_ _ | refine blk_drew ?_ | refine blk_alloc ?_ _)); exact BK540.out) hb)
       have n4_ := Aside0.mk (blk_below (g := gb543) (o := .cells #[.int .i64 t541, .int .i64 t542] 25 (0, 0)) (by (with_reducible repeat (first | refine blk_drewN ?_ _ | refine blk_drew ?_ | refine blk_alloc ?_ _)); exact BK543.out) hb)
       have n5_ := Aside0.mk (below_step (by repeat (first | (with_reducible first | exact HB.out | apply below_alloc | apply pw_below_drewN | apply below_drew1 | refine below_set ?_ GE536.out | refine below_set ?_ GE537.out | refine below_set ?_ GE538.out | refine below_set ?_ GE540.out | refine below_set ?_ GE543.out) | exact HB.out)) hb)
       clear BK536
       clear BK537
       clear BK538
       clear BK540
       clear BK543
       clear HB
       have BK536 := n0_
       have BK537 := n1_
       have BK538 := n2_
       have BK540 := n3_
       have BK543 := n4_
       have HB := n5_
       clear n0_ n1_ n2_ n3_ n4_ n5_
       (try clear hb)
       (try clear hb2)
       (try clear hk)
       (try clear hi)
       refine hK.out _ _ ⟨(blk_cell BK543.out 0).trans rfl, (blk_cell BK543.out 1).trans rfl⟩ (fun hHeld => ?_)
       clear hK K
       refine norm_ (a' := ?_) ?_ ?_
       rotate_left
       ·show Act.put _ (some 22) _ = _
        simp only [Act.put, List.setIfInBounds_toArray, List.set_cons_zero, List.set_cons_succ, i64_w, i32_w]
        rfl
       refine pure_ (i := 2) (N := some 23) (v := ?_) (a' := ?_) #[true, true, true, false, false, false, false, false, false, false, false, false, false, false] rfl rfl (any_of HT_.out (by kernel_rfl)) (fun _ _ _ h => h) (Or.inl ⟨by rfl, ?_⟩) ?_ ?_
       rotate_left
       ·intro w'
        go_simp
        with_reducible rfl
       rotate_left
       ·simp only [Act.put, List.setIfInBounds_toArray, List.set_cons_zero, List.set_cons_succ, i64_w, i32_w]
        rfl
       refine pure_ (i := 3) (N := some 24) (v := ?_) (a' := ?_) #[true, true, true, true, false, false, false, false, false, false, false, false, false, false] rfl rfl (any_of HT_.out (by kernel_rfl)) (fun _ _ _ h => h) (Or.inl ⟨by rfl, ?_⟩) ?_ ?_
       rotate_left
       ·intro w'
        go_simp
        with_reducible rfl
       rotate_left
       ·simp only [Act.put, List.setIfInBounds_toArray, List.set_cons_zero, List.set_cons_succ, i64_w, i32_w]
        rfl
       refine pure_ (i := 4) (N := some 25) (v := undef) (a' := ?_) #[true, true, true, true, true, false, false, false, false, false, false, false, false, false] rfl rfl (any_of HT_.out (by kernel_rfl)) (fun _ _ _ h => h) (Or.inr ⟨by rfl, rfl⟩) ?_ ?_
       rotate_left
       ·simp only [Act.put, List.setIfInBounds_toArray, List.set_cons_zero, List.set_cons_succ, i64_w, i32_w]
        rfl
       refine pure_ (i := 5) (N := some 26) (v := undef) (a' := ?_) #[true, true, true, true, true, true, false, false, false, false, false, false, false, false] rfl rfl (any_of HT_.out (by kernel_rfl)) (fun _ _ _ h => h) (Or.inr ⟨by rfl, rfl⟩) ?_ ?_
       rotate_left
       ·simp only [Act.put, List.setIfInBounds_toArray, List.set_cons_zero, List.set_cons_succ, i64_w, i32_w]
        rfl
       refine pure_ (i := 6) (N := some 27) (v := undef) (a' := ?_) #[true, true, true, true, true, true, true, false, false, false, false, false, false, false] rfl rfl (any_of HT_.out (by kernel_rfl)) (fun _ _ _ h => h) (Or.inr ⟨by rfl, rfl⟩) ?_ ?_
       rotate_left
       ·simp only [Act.put, List.setIfInBounds_toArray, List.set_cons_zero, List.set_cons_succ, i64_w, i32_w]
        rfl
       refine pure_ (i := 7) (N := some 28) (v := undef) (a' := ?_) #[true, true, true, true, true, true, true, true, false, false, false, false, false, false] rfl rfl (any_of HT_.out (by kernel_rfl)) (fun _ _ _ h => h) (Or.inr ⟨by rfl, rfl⟩) ?_ ?_
       rotate_left
       ·simp only [Act.put, List.setIfInBounds_toArray, List.set_cons_zero, List.set_cons_succ, i64_w, i32_w]
        rfl
       refine pure_ (i := 8) (N := some 29) (v := undef) (a' := ?_) #[true, true, true, true, true, true, true, true, true, false, false, false, false, false] rfl rfl (any_of HT_.out (by kernel_rfl)) (fun _ _ _ h => h) (Or.inr ⟨by rfl, rfl⟩) ?_ ?_
       rotate_left
       ·simp only [Act.put, List.setIfInBounds_toArray, List.set_cons_zero, List.set_cons_succ, i64_w, i32_w]
        rfl
       refine pure_ (i := 9) (N := some 30) (v := undef) (a' := ?_) #[true, true, true, true, true, true, true, true, true, true, false, false, false, false] rfl rfl (any_of HT_.out (by kernel_rfl)) (fun _ _ _ h => h) (Or.inr ⟨by rfl, rfl⟩) ?_ ?_
       rotate_left
       ·simp only [Act.put, List.setIfInBounds_toArray, List.set_cons_zero, List.set_cons_succ, i64_w, i32_w]
        rfl
       refine pure_ (i := 10) (N := some 31) (v := undef) (a' := ?_) #[true, true, true, true, true, true, true, true, true, true, true, false, false, false] rfl rfl (any_of HT_.out (by kernel_rfl)) (fun _ _ _ h => h) (Or.inr ⟨by rfl, rfl⟩) ?_ ?_
       rotate_left
       ·simp only [Act.put, List.setIfInBounds_toArray, List.set_cons_zero, List.set_cons_succ, i64_w, i32_w]
        rfl
       refine pure_ (i := 11) (N := some 32) (v := undef) (a' := ?_) #[true, true, true, true, true, true, true, true, true, true, true, true, false, false] rfl rfl (any_of HT_.out (by kernel_rfl)) (fun _ _ _ h => h) (Or.inr ⟨by rfl, rfl⟩) ?_ ?_
       rotate_left
       ·simp only [Act.put, List.setIfInBounds_toArray, List.set_cons_zero, List.set_cons_succ, i64_w, i32_w]
        rfl
       refine pure_ (i := 12) (N := some 33) (v := undef) (a' := ?_) #[true, true, true, true, true, true, true, true, true, true, true, true, true, false] rfl rfl (any_of HT_.out (by kernel_rfl)) (fun _ _ _ h => h) (Or.inr ⟨by rfl, rfl⟩) ?_ ?_
       rotate_left
       ·simp only [Act.put, List.setIfInBounds_toArray, List.set_cons_zero, List.set_cons_succ, i64_w, i32_w]
        rfl
       refine pure_ (i := 13) (N := some 34) (v := ?_) (a' := ?_) #[true, true, true, true, true, true, true, true, true, true, true, true, true, true] rfl rfl (any_of HT_.out (by kernel_rfl)) (fun _ _ _ h => h) (Or.inl ⟨by rfl, ?_⟩) ?_ ?_
       rotate_left
       ·intro w'
        go_simp
        with_reducible rfl
       rotate_left
       ·simp only [Act.put, List.setIfInBounds_toArray, List.set_cons_zero, List.set_cons_succ, i64_w, i32_w]
        rfl
       refine done_ (done_of HT_.out (by kernel_rfl)) ?_
       try go_wp2
       go_roundg k1
       case measure => have := HK1.out; omega
       case rel => exact ⟨(x7_1), (wrap64 (x14_1 + 1)), (x539000_1), (x539001_1), (by first | rfl | (simp; done) | (simp [*]; done) | (simp [Int.tdiv_eq_ediv_of_nonneg]; done) | (simp [Go.RowKit.wrap64]; done) | (simp [*, Go.RowKit.wrap64]; done)), (by first | rfl | (simp; done) | (simp [*]; done) | (simp [Int.tdiv_eq_ediv_of_nonneg]; done) | (simp [Go.RowKit.wrap64]; done) | (simp [*, Go.RowKit.wrap64]; done)), H', ⟨by have := HK1.out; omega⟩, ⟨by (with_reducible repeat (first | refine blk_drewN ?_ _ | refine blk_drew ?_ | refine blk_alloc ?_ _)); exact BK536.out⟩, ⟨by (with_reducible repeat (first | refine blk_drewN ?_ _ | refine blk_drew ?_ | refine blk_alloc ?_ _)); exact BK537.out⟩, ⟨by (with_reducible repeat (first | refine blk_drewN ?_ _ | refine blk_drew ?_ | refine blk_alloc ?_ _)); exact BK538.out⟩, ⟨by repeat (first | (with_reducible first | exact HB.out | apply below_alloc | apply pw_below_drewN | apply below_drew1 | refine below_set ?_ GE536.out | refine below_set ?_ GE537.out | refine below_set ?_ GE538.out | refine below_set ?_ GE540.out | refine below_set ?_ GE543.out) | exact HB.out)⟩⟩
      ·replace c14 := Bool.eq_false_iff.mpr c14
       subst c14
       have H1 : (if x7_1 = true then ((span_Wide.f k1 t541 t542).bind fun t545 => ((span_Wide.f k1 x539000_1 x539001_1).bind fun t546 => (if t545 < t546 then (probe_Best.l0 k1 true l1 (l1.length : Int) (wrap64 (x14_1 + 1)) a0_0 a0_1 a0_2 a0_3 a0_4 a0_5 a0_6 a0_7 a0_8 a0_9 a0_10 a0_11 t541 t542) else (probe_Best.l0 k1 x7_1 l1 (l1.length : Int) (wrap64 (x14_1 + 1)) a0_0 a0_1 a0_2 a0_3 a0_4 a0_5 a0_6 a0_7 a0_8 a0_9 a0_10 a0_11 x539000_1 x539001_1)))) else (probe_Best.l0 k1 true l1 (l1.length : Int) (wrap64 (x14_1 + 1)) a0_0 a0_1 a0_2 a0_3 a0_4 a0_5 a0_6 a0_7 a0_8 a0_9 a0_10 a0_11 t541 t542)) = some (r1, r2, r3) := by rw [if_neg (show ¬ (false = true) by decide)] at H; exact H
       clear H
       have H := H1
       clear H1
       by_cases c33 : x7_1 = true
       ·subst c33
        have H1 : ((span_Wide.f k1 t541 t542).bind fun t545 => ((span_Wide.f k1 x539000_1 x539001_1).bind fun t546 => (if t545 < t546 then (probe_Best.l0 k1 true l1 (l1.length : Int) (wrap64 (x14_1 + 1)) a0_0 a0_1 a0_2 a0_3 a0_4 a0_5 a0_6 a0_7 a0_8 a0_9 a0_10 a0_11 t541 t542) else (probe_Best.l0 k1 true l1 (l1.length : Int) (wrap64 (x14_1 + 1)) a0_0 a0_1 a0_2 a0_3 a0_4 a0_5 a0_6 a0_7 a0_8 a0_9 a0_10 a0_11 x539000_1 x539001_1)))) = some (r1, r2, r3) := by rw [if_pos rfl] at H; exact H
        clear H
        have H := H1
        clear H1
        replace H := Option.bind_eq_some_iff.mp H
        obtain ⟨t545, A340, H⟩ := H
        replace H : ((span_Wide.f k1 x539000_1 x539001_1).bind fun t546 => (if t545 < t546 then (probe_Best.l0 k1 true l1 (l1.length : Int) (wrap64 (x14_1 + 1)) a0_0 a0_1 a0_2 a0_3 a0_4 a0_5 a0_6 a0_7 a0_8 a0_9 a0_10 a0_11 t541 t542) else (probe_Best.l0 k1 true l1 (l1.length : Int) (wrap64 (x14_1 + 1)) a0_0 a0_1 a0_2 a0_3 a0_4 a0_5 a0_6 a0_7 a0_8 a0_9 a0_10 a0_11 x539000_1 x539001_1))) = some (r1, r2, r3) := H
        have A34 := Aside0.mk A340
        clear A340
        replace H := Option.bind_eq_some_iff.mp H
        obtain ⟨t546, A350, H⟩ := H
        replace H : (if t545 < t546 then (probe_Best.l0 k1 true l1 (l1.length : Int) (wrap64 (x14_1 + 1)) a0_0 a0_1 a0_2 a0_3 a0_4 a0_5 a0_6 a0_7 a0_8 a0_9 a0_10 a0_11 t541 t542) else (probe_Best.l0 k1 true l1 (l1.length : Int) (wrap64 (x14_1 + 1)) a0_0 a0_1 a0_2 a0_3 a0_4 a0_5 a0_6 a0_7 a0_8 a0_9 a0_10 a0_11 x539000_1 x539001_1)) = some (r1, r2, r3) := H
        have A35 := Aside0.mk A350
        clear A350
        by_cases c36 : t545 < t546
        ·rw [if_pos c36] at H
         have c36b0 : decide (t545 < t546) = true := decide_eq_true c36
         clear c36
         have H' := Aside0.mk H
         clear H
         have p539 : 0 ≤ (x14_1 : Int) := of_decide_eq_true (by first | (with_reducible assumption) | assumption)
         have q539 : x14_1 < (l1.length : Int) := of_decide_eq_true (by first | (with_reducible assumption) | assumption)
         obtain ⟨ad539, e539, hx539_0, hx539_1, hx539_2, hx539_3⟩ := at_T57 HR1.out x14_1 p539 q539
         cases e539
         replace hx539_0 := (HB.out.cell (World.block_lt_of_cell? w _ hx539_0)).trans hx539_0
         replace hx539_1 := (HB.out.cell (World.block_lt_of_cell? w _ hx539_1)).trans hx539_1
         replace hx539_2 := (HB.out.cell (World.block_lt_of_cell? w _ hx539_2)).trans hx539_2
         replace hx539_3 := (HB.out.cell (World.block_lt_of_cell? w _ hx539_3)).trans hx539_3
         replace p539 := eq_true p539
         replace q539 := eq_true q539
         try go_wp2_with (first | ((with_reducible refine gate_dst (N := 9) rfl ?_); refine box_event ?hg (N := 9) ?hd (cs := #[.int .i64 0, .int .i64 0, .int .i64 0, .int .i64 0]) (t := 57) ?hr ?_; (case hd => rfl); (case hg => rfl); (case hr => first | (go_simp; done) | (go_simp; rfl)); intro gb540 hg w37 hbox hb; have n0_ := Aside0.mk (blk_below (g := gb536) (o := .cells #[.int .i64 a0_0, .int .i64 a0_1, .int .i64 a0_2, .int .i64 a0_3, .int .i64 a0_4, .int .i64 a0_5, .int .i64 a0_6, .int .i64 a0_7, .int .i64 a0_8, .int .i64 a0_9, .int .i64 a0_10, .int .i64 a0_11] 23 (0, 0)) (by (with_reducible repeat (first | refine blk_drewN ?_ _ | refine blk_drew ?_ | refine blk_alloc ?_ _)); exact BK536.out) hb); have n1_ := Aside0.mk (blk_below (g := gb537) (o := .cells #[.int .i64 0, .int .i64 0] 25 (0, 0)) (by (with_reducible repeat (first | refine blk_drewN ?_ _ | refine blk_drew ?_ | refine blk_alloc ?_ _)); exact BK537.out) hb); have n2_ := Aside0.mk (blk_below (g := gb538) (o := .cells #[.int .i64 x539000_1, .int .i64 x539001_1] 25 (0, 0)) (by (with_reducible repeat (first | refine blk_drewN ?_ _ | refine blk_drew ?_ | refine blk_alloc ?_ _)); exact BK538.out) hb); have n3_ := Aside0.mk (below_step (by repeat (first | (with_reducible first | exact HB.out | apply below_alloc | apply pw_below_drewN | apply below_drew1 | refine below_set ?_ GE536.out | refine below_set ?_ GE537.out | refine below_set ?_ GE538.out) | exact HB.out)) hb); have n4_ := Aside0.mk (hbox); have n5_ := Aside0.mk ((by rw [hg]; exact (below_size (by repeat (first | (with_reducible first | exact HB.out | apply below_alloc | apply pw_below_drewN | apply below_drew1 | refine below_set ?_ GE536.out | refine below_set ?_ GE537.out | refine below_set ?_ GE538.out) | exact HB.out))) : w.heap.size ≤ gb540)); have n6_ := Aside0.mk ((by rw [hg]; exact (below_size (by repeat (first | (with_reducible first | exact HB.out | apply below_alloc | apply pw_below_drewN | apply below_drew1 | refine below_set ?_ GE536.out | refine below_set ?_ GE537.out | refine below_set ?_ GE538.out) | exact HB.out))) : w.heap.size ≤ gb540)); have n7_ := Aside0.mk ((by rw [hg]; exact Nat.ne_of_lt (blk_lt (g := gb536) (o := .cells #[.int .i64 a0_0, .int .i64 a0_1, .int .i64 a0_2, .int .i64 a0_3, .int .i64 a0_4, .int .i64 a0_5, .int .i64 a0_6, .int .i64 a0_7, .int .i64 a0_8, .int .i64 a0_9, .int .i64 a0_10, .int .i64 a0_11] 23 (0, 0)) (by (with_reducible repeat (first | refine blk_drewN ?_ _ | refine blk_drew ?_ | refine blk_alloc ?_ _)); exact BK536.out)) : gb536 ≠ gb540)); have n8_ := Aside0.mk ((by rw [hg]; exact Nat.ne_of_gt (blk_lt (g := gb536) (o := .cells #[.int .i64 a0_0, .int .i64 a0_1, .int .i64 a0_2, .int .i64 a0_3, .int .i64 a0_4, .int .i64 a0_5, .int .i64 a0_6, .int .i64 a0_7, .int .i64 a0_8, .int .i64 a0_9, .int .i64 a0_10, .int .i64 a0_11] 23 (0, 0)) (by (with_reducible repeat (first | refine blk_drewN ?_ _ | refine blk_drew ?_ | refine blk_alloc ?_ _)); exact BK536.out)) : gb540 ≠ gb536)); have n9_ := Aside0.mk ((by rw [hg]; exact Nat.ne_of_lt (blk_lt (g := gb537) (o := .cells #[.int .i64 0, .int .i64 0] 25 (0, 0)) (by (with_reducible repeat (first | refine blk_drewN ?_ _ | refine blk_drew ?_ | refine blk_alloc ?_ _)); exact BK537.out)) : gb537 ≠ gb540)); have n10_ := Aside0.mk ((by rw [hg]; exact Nat.ne_of_gt (blk_lt (g := gb537) (o := .cells #[.int .i64 0, .int .i64 0] 25 (0, 0)) (by (with_reducible repeat (first | refine blk_drewN ?_ _ | refine blk_drew ?_ | refine blk_alloc ?_ _)); exact BK537.out)) : gb540 ≠ gb537)); have n11_ := Aside0.mk ((by rw [hg]; exact Nat.ne_of_lt (blk_lt (g := gb538) (o := .cells #[.int .i64 x539000_1, .int .i64 x539001_1] 25 (0, 0)) (by (with_reducible repeat (first | refine blk_drewN ?_ _ | refine blk_drew ?_ | refine blk_alloc ?_ _)); exact BK538.out)) : gb538 ≠ gb540)); have n12_ := Aside0.mk ((by rw [hg]; exact Nat.ne_of_gt (blk_lt (g := gb538) (o := .cells #[.int .i64 x539000_1, .int .i64 x539001_1] 25 (0, 0)) (by (with_reducible repeat (first | refine blk_drewN ?_ _ | refine blk_drew ?_ | refine blk_alloc ?_ _)); exact BK538.out)) : gb540 ≠ gb538)); clear BK536; clear BK537; clear BK538; clear HB; have BK536 := n0_; have BK537 := n1_; have BK538 := n2_; have HB := n3_; have BK540 := n4_; have GW540 := n5_; have GE540 := n6_; have NB536_540 := n7_; have NB540_536 := n8_; have NB537_540 := n9_; have NB540_537 := n10_; have NB538_540 := n11_; have NB540_538 := n12_; clear n0_ n1_ n2_ n3_ n4_ n5_ n6_ n7_ n8_ n9_ n10_ n11_ n12_; clear hb hbox hg; have hnb38 := NB540_536.out; have hnc38 := NB536_540.out; have hnb39 := NB540_537.out; have hnc39 := NB537_540.out; have hnb40 := NB540_538.out; have hnc40 := NB538_540.out; have hcz41_0 : w37.cell? ⟨gb540, 0, none⟩ = some (.int .i64 0) := (blk_cell BK540.out 0).trans rfl; have hcz41_1 : w37.cell? ⟨gb540, 1, none⟩ = some (.int .i64 0) := (blk_cell BK540.out 1).trans rfl; have hcz41_2 : w37.cell? ⟨gb540, 2, none⟩ = some (.int .i64 0) := (blk_cell BK540.out 2).trans rfl; have hcz41_3 : w37.cell? ⟨gb540, 3, none⟩ = some (.int .i64 0) := (blk_cell BK540.out 3).trans rfl; have hfz41_0 := blk_frozen BK540.out 0; have hfz41_1 := blk_frozen BK540.out 1; have hfz41_2 := blk_frozen BK540.out 2; have hfz41_3 := blk_frozen BK540.out 3; have hnb42 := NB536_537.out; have hnc42 := NB537_536.out; have hnb43 := NB536_538.out; have hnc43 := NB538_536.out; have hcz44_0 : w37.cell? ⟨gb536, 0, none⟩ = some (.int .i64 a0_0) := (blk_cell BK536.out 0).trans rfl; have hcz44_1 : w37.cell? ⟨gb536, 1, none⟩ = some (.int .i64 a0_1) := (blk_cell BK536.out 1).trans rfl; have hcz44_2 : w37.cell? ⟨gb536, 2, none⟩ = some (.int .i64 a0_2) := (blk_cell BK536.out 2).trans rfl; have hcz44_3 : w37.cell? ⟨gb536, 3, none⟩ = some (.int .i64 a0_3) := (blk_cell BK536.out 3).trans rfl; have hcz44_4 : w37.cell? ⟨gb536, 4, none⟩ = some (.int .i64 a0_4) := (blk_cell BK536.out 4).trans rfl; have hcz44_5 : w37.cell? ⟨gb536, 5, none⟩ = some (.int .i64 a0_5) := (blk_cell BK536.out 5).trans rfl; have hcz44_6 : w37.cell? ⟨gb536, 6, none⟩ = some (.int .i64 a0_6) := (blk_cell BK536.out 6).trans rfl; have hcz44_7 : w37.cell? ⟨gb536, 7, none⟩ = some (.int .i64 a0_7) := (blk_cell BK536.out 7).trans rfl; have hcz44_8 : w37.cell? ⟨gb536, 8, none⟩ = some (.int .i64 a0_8) := (blk_cell BK536.out 8).trans rfl; have hcz44_9 : w37.cell? ⟨gb536, 9, none⟩ = some (.int .i64 a0_9) := (blk_cell BK536.out 9).trans rfl; have hcz44_10 : w37.cell? ⟨gb536, 10, none⟩ = some (.int .i64 a0_10) := (blk_cell BK536.out 10).trans rfl; have hcz44_11 : w37.cell? ⟨gb536, 11, none⟩ = some (.int .i64 a0_11) := (blk_cell BK536.out 11).trans rfl; have hfz44_0 := blk_frozen BK536.out 0; have hfz44_1 := blk_frozen BK536.out 1; have hfz44_2 := blk_frozen BK536.out 2; have hfz44_3 := blk_frozen BK536.out 3; have hfz44_4 := blk_frozen BK536.out 4; have hfz44_5 := blk_frozen BK536.out 5; have hfz44_6 := blk_frozen BK536.out 6; have hfz44_7 := blk_frozen BK536.out 7; have hfz44_8 := blk_frozen BK536.out 8; have hfz44_9 := blk_frozen BK536.out 9; have hfz44_10 := blk_frozen BK536.out 10; have hfz44_11 := blk_frozen BK536.out 11) | ((with_reducible refine gate_callee (f := 33) rfl ?_); refine goesL_ (some 20) rfl rfl Try.func33 (by kernel_rfl) rfl #[.agg #[.int .i64 a0_0, .int .i64 a0_1, .int .i64 a0_2, .int .i64 a0_3, .int .i64 a0_4, .int .i64 a0_5, .int .i64 a0_6, .int .i64 a0_7, .int .i64 a0_8, .int .i64 a0_9, .int .i64 a0_10, .int .i64 a0_11], .agg #[.int .i64 ((rd_T57 l1 x14_1).f0), .int .i64 ((rd_T57 l1 x14_1).f1), .int .i64 ((rd_T57 l1 x14_1).f2), .int .i64 ((rd_T57 l1 x14_1).f3)]] rfl (by (try simp only [List.map_toArray, List.map_cons, List.map_nil]); first | done | rfl | (simp only [List.length_drop, List.length_take]; rfl)) ?_; (with_reducible refine (probe_Ahead.calls k1 a0_0 a0_1 a0_2 a0_3 a0_4 a0_5 a0_6 a0_7 a0_8 a0_9 a0_10 a0_11 ((rd_T57 l1 x14_1).f0) ((rd_T57 l1 x14_1).f1) ((rd_T57 l1 x14_1).f2) ((rd_T57 l1 x14_1).f3) t541 t542 _ A12.out).mono ?_); rintro e w45 ⟨rfl, hb⟩; refine ⟨_, rfl, ?_⟩; have n0_ := Aside0.mk (blk_below (g := gb536) (o := .cells #[.int .i64 a0_0, .int .i64 a0_1, .int .i64 a0_2, .int .i64 a0_3, .int .i64 a0_4, .int .i64 a0_5, .int .i64 a0_6, .int .i64 a0_7, .int .i64 a0_8, .int .i64 a0_9, .int .i64 a0_10, .int .i64 a0_11] 23 (0, 0)) (by (with_reducible repeat (first | refine blk_drewN ?_ _ | refine blk_drew ?_ | refine blk_alloc ?_ _)); refine blk_far ?_ NB536_540.out _; (with_reducible repeat (first | refine blk_drewN ?_ _ | refine blk_drew ?_ | refine blk_alloc ?_ _)); refine blk_far ?_ NB536_540.out _; (with_reducible repeat (first | refine blk_drewN ?_ _ | refine blk_drew ?_ | refine blk_alloc ?_ _)); refine blk_far ?_ NB536_540.out _; (with_reducible repeat (first | refine blk_drewN ?_ _ | refine blk_drew ?_ | refine blk_alloc ?_ _)); refine blk_far ?_ NB536_540.out _; (with_reducible repeat (first | refine blk_drewN ?_ _ | refine blk_drew ?_ | refine blk_alloc ?_ _)); exact BK536.out) hb); have n1_ := Aside0.mk (blk_below (g := gb537) (o := .cells #[.int .i64 0, .int .i64 0] 25 (0, 0)) (by (with_reducible repeat (first | refine blk_drewN ?_ _ | refine blk_drew ?_ | refine blk_alloc ?_ _)); refine blk_far ?_ NB537_540.out _; (with_reducible repeat (first | refine blk_drewN ?_ _ | refine blk_drew ?_ | refine blk_alloc ?_ _)); refine blk_far ?_ NB537_540.out _; (with_reducible repeat (first | refine blk_drewN ?_ _ | refine blk_drew ?_ | refine blk_alloc ?_ _)); refine blk_far ?_ NB537_540.out _; (with_reducible repeat (first | refine blk_drewN ?_ _ | refine blk_drew ?_ | refine blk_alloc ?_ _)); refine blk_far ?_ NB537_540.out _; (with_reducible repeat (first | refine blk_drewN ?_ _ | refine blk_drew ?_ | refine blk_alloc ?_ _)); exact BK537.out) hb); have n2_ := Aside0.mk (blk_below (g := gb538) (o := .cells #[.int .i64 x539000_1, .int .i64 x539001_1] 25 (0, 0)) (by (with_reducible repeat (first | refine blk_drewN ?_ _ | refine blk_drew ?_ | refine blk_alloc ?_ _)); refine blk_far ?_ NB538_540.out _; (with_reducible repeat (first | refine blk_drewN ?_ _ | refine blk_drew ?_ | refine blk_alloc ?_ _)); refine blk_far ?_ NB538_540.out _; (with_reducible repeat (first | refine blk_drewN ?_ _ | refine blk_drew ?_ | refine blk_alloc ?_ _)); refine blk_far ?_ NB538_540.out _; (with_reducible repeat (first | refine blk_drewN ?_ _ | refine blk_drew ?_ | refine blk_alloc ?_ _)); refine blk_far ?_ NB538_540.out _; (with_reducible repeat (first | refine blk_drewN ?_ _ | refine blk_drew ?_ | refine blk_alloc ?_ _)); exact BK538.out) hb); have n3_ := Aside0.mk (blk_below (g := gb540) (o := .cells #[.int .i64 ((rd_T57 l1 x14_1).f0), .int .i64 ((rd_T57 l1 x14_1).f1), .int .i64 ((rd_T57 l1 x14_1).f2), .int .i64 ((rd_T57 l1 x14_1).f3)] 57 (0, 0)) (by (with_reducible repeat (first | refine blk_drewN ?_ _ | refine blk_drew ?_ | refine blk_alloc ?_ _)); refine blk_put (cs := #[.int .i64 ((rd_T57 l1 x14_1).f0), .int .i64 ((rd_T57 l1 x14_1).f1), .int .i64 ((rd_T57 l1 x14_1).f2), .int .i64 0]) ?_ 3 _ rfl; (with_reducible repeat (first | refine blk_drewN ?_ _ | refine blk_drew ?_ | refine blk_alloc ?_ _)); refine blk_put (cs := #[.int .i64 ((rd_T57 l1 x14_1).f0), .int .i64 ((rd_T57 l1 x14_1).f1), .int .i64 0, .int .i64 0]) ?_ 2 _ rfl; (with_reducible repeat (first | refine blk_drewN ?_ _ | refine blk_drew ?_ | refine blk_alloc ?_ _)); refine blk_put (cs := #[.int .i64 ((rd_T57 l1 x14_1).f0), .int .i64 0, .int .i64 0, .int .i64 0]) ?_ 1 _ rfl; (with_reducible repeat (first | refine blk_drewN ?_ _ | refine blk_drew ?_ | refine blk_alloc ?_ _)); refine blk_put (cs := #[.int .i64 0, .int .i64 0, .int .i64 0, .int .i64 0]) ?_ 0 _ rfl; (with_reducible repeat (first | refine blk_drewN ?_ _ | refine blk_drew ?_ | refine blk_alloc ?_ _)); exact BK540.out) hb); have n4_ := Aside0.mk (below_step (by repeat (first | (with_reducible first | exact HB.out | apply below_alloc | apply pw_below_drewN | apply below_drew1 | refine below_set ?_ GE536.out | refine below_set ?_ GE537.out | refine below_set ?_ GE538.out | refine below_set ?_ GE540.out) | exact HB.out)) hb); clear BK536; clear BK537; clear BK538; clear BK540; clear HB; have BK536 := n0_; have BK537 := n1_; have BK538 := n2_; have BK540 := n3_; have HB := n4_; clear n0_ n1_ n2_ n3_ n4_; (try clear hb); (try clear hb2); (try clear hk); (try clear hi)) | ((with_reducible refine gate_dst (N := 10) rfl ?_); refine box_event ?hg (N := 10) ?hd (cs := #[.int .i64 0, .int .i64 0]) (t := 25) ?hr ?_; (case hd => rfl); (case hg => rfl); (case hr => first | (go_simp; done) | (go_simp; rfl)); intro gb543 hg w46 hbox hb; have n0_ := Aside0.mk (blk_below (g := gb536) (o := .cells #[.int .i64 a0_0, .int .i64 a0_1, .int .i64 a0_2, .int .i64 a0_3, .int .i64 a0_4, .int .i64 a0_5, .int .i64 a0_6, .int .i64 a0_7, .int .i64 a0_8, .int .i64 a0_9, .int .i64 a0_10, .int .i64 a0_11] 23 (0, 0)) (by (with_reducible repeat (first | refine blk_drewN ?_ _ | refine blk_drew ?_ | refine blk_alloc ?_ _)); exact BK536.out) hb); have n1_ := Aside0.mk (blk_below (g := gb537) (o := .cells #[.int .i64 0, .int .i64 0] 25 (0, 0)) (by (with_reducible repeat (first | refine blk_drewN ?_ _ | refine blk_drew ?_ | refine blk_alloc ?_ _)); exact BK537.out) hb); have n2_ := Aside0.mk (blk_below (g := gb538) (o := .cells #[.int .i64 x539000_1, .int .i64 x539001_1] 25 (0, 0)) (by (with_reducible repeat (first | refine blk_drewN ?_ _ | refine blk_drew ?_ | refine blk_alloc ?_ _)); exact BK538.out) hb); have n3_ := Aside0.mk (blk_below (g := gb540) (o := .cells #[.int .i64 ((rd_T57 l1 x14_1).f0), .int .i64 ((rd_T57 l1 x14_1).f1), .int .i64 ((rd_T57 l1 x14_1).f2), .int .i64 ((rd_T57 l1 x14_1).f3)] 57 (0, 0)) (by (with_reducible repeat (first | refine blk_drewN ?_ _ | refine blk_drew ?_ | refine blk_alloc ?_ _)); exact BK540.out) hb); have n4_ := Aside0.mk (below_step (by repeat (first | (with_reducible first | exact HB.out | apply below_alloc | apply pw_below_drewN | apply below_drew1 | refine below_set ?_ GE536.out | refine below_set ?_ GE537.out | refine below_set ?_ GE538.out | refine below_set ?_ GE540.out) | exact HB.out)) hb); have n5_ := Aside0.mk (hbox); have n6_ := Aside0.mk ((by rw [hg]; exact (below_size (by repeat (first | (with_reducible first | exact HB.out | apply below_alloc | apply pw_below_drewN | apply below_drew1 | refine below_set ?_ GE536.out | refine below_set ?_ GE537.out | refine below_set ?_ GE538.out | refine below_set ?_ GE540.out) | exact HB.out))) : w.heap.size ≤ gb543)); have n7_ := Aside0.mk ((by rw [hg]; exact (below_size (by repeat (first | (with_reducible first | exact HB.out | apply below_alloc | apply pw_below_drewN | apply below_drew1 | refine below_set ?_ GE536.out | refine below_set ?_ GE537.out | refine below_set ?_ GE538.out | refine below_set ?_ GE540.out) | exact HB.out))) : w.heap.size ≤ gb543)); have n8_ := Aside0.mk ((by rw [hg]; exact Nat.ne_of_lt (blk_lt (g := gb536) (o := .cells #[.int .i64 a0_0, .int .i64 a0_1, .int .i64 a0_2, .int .i64 a0_3, .int .i64 a0_4, .int .i64 a0_5, .int .i64 a0_6, .int .i64 a0_7, .int .i64 a0_8, .int .i64 a0_9, .int .i64 a0_10, .int .i64 a0_11] 23 (0, 0)) (by (with_reducible repeat (first | refine blk_drewN ?_ _ | refine blk_drew ?_ | refine blk_alloc ?_ _)); exact BK536.out)) : gb536 ≠ gb543)); have n9_ := Aside0.mk ((by rw [hg]; exact Nat.ne_of_gt (blk_lt (g := gb536) (o := .cells #[.int .i64 a0_0, .int .i64 a0_1, .int .i64 a0_2, .int .i64 a0_3, .int .i64 a0_4, .int .i64 a0_5, .int .i64 a0_6, .int .i64 a0_7, .int .i64 a0_8, .int .i64 a0_9, .int .i64 a0_10, .int .i64 a0_11] 23 (0, 0)) (by (with_reducible repeat (first | refine blk_drewN ?_ _ | refine blk_drew ?_ | refine blk_alloc ?_ _)); exact BK536.out)) : gb543 ≠ gb536)); have n10_ := Aside0.mk ((by rw [hg]; exact Nat.ne_of_lt (blk_lt (g := gb537) (o := .cells #[.int .i64 0, .int .i64 0] 25 (0, 0)) (by (with_reducible repeat (first | refine blk_drewN ?_ _ | refine blk_drew ?_ | refine blk_alloc ?_ _)); exact BK537.out)) : gb537 ≠ gb543)); have n11_ := Aside0.mk ((by rw [hg]; exact Nat.ne_of_gt (blk_lt (g := gb537) (o := .cells #[.int .i64 0, .int .i64 0] 25 (0, 0)) (by (with_reducible repeat (first | refine blk_drewN ?_ _ | refine blk_drew ?_ | refine blk_alloc ?_ _)); exact BK537.out)) : gb543 ≠ gb537)); have n12_ := Aside0.mk ((by rw [hg]; exact Nat.ne_of_lt (blk_lt (g := gb538) (o := .cells #[.int .i64 x539000_1, .int .i64 x539001_1] 25 (0, 0)) (by (with_reducible repeat (first | refine blk_drewN ?_ _ | refine blk_drew ?_ | refine blk_alloc ?_ _)); exact BK538.out)) : gb538 ≠ gb543)); have n13_ := Aside0.mk ((by rw [hg]; exact Nat.ne_of_gt (blk_lt (g := gb538) (o := .cells #[.int .i64 x539000_1, .int .i64 x539001_1] 25 (0, 0)) (by (with_reducible repeat (first | refine blk_drewN ?_ _ | refine blk_drew ?_ | refine blk_alloc ?_ _)); exact BK538.out)) : gb543 ≠ gb538)); have n14_ := Aside0.mk ((by rw [hg]; exact Nat.ne_of_lt (blk_lt (g := gb540) (o := .cells #[.int .i64 ((rd_T57 l1 x14_1).f0), .int .i64 ((rd_T57 l1 x14_1).f1), .int .i64 ((rd_T57 l1 x14_1).f2), .int .i64 ((rd_T57 l1 x14_1).f3)] 57 (0, 0)) (by (with_reducible repeat (first | refine blk_drewN ?_ _ | refine blk_drew ?_ | refine blk_alloc ?_ _)); exact BK540.out)) : gb540 ≠ gb543)); have n15_ := Aside0.mk ((by rw [hg]; exact Nat.ne_of_gt (blk_lt (g := gb540) (o := .cells #[.int .i64 ((rd_T57 l1 x14_1).f0), .int .i64 ((rd_T57 l1 x14_1).f1), .int .i64 ((rd_T57 l1 x14_1).f2), .int .i64 ((rd_T57 l1 x14_1).f3)] 57 (0, 0)) (by (with_reducible repeat (first | refine blk_drewN ?_ _ | refine blk_drew ?_ | refine blk_alloc ?_ _)); exact BK540.out)) : gb543 ≠ gb540)); clear BK536; clear BK537; clear BK538; clear BK540; clear HB; have BK536 := n0_; have BK537 := n1_; have BK538 := n2_; have BK540 := n3_; have HB := n4_; have BK543 := n5_; have GW543 := n6_; have GE543 := n7_; have NB536_543 := n8_; have NB543_536 := n9_; have NB537_543 := n10_; have NB543_537 := n11_; have NB538_543 := n12_; have NB543_538 := n13_; have NB540_543 := n14_; have NB543_540 := n15_; clear n0_ n1_ n2_ n3_ n4_ n5_ n6_ n7_ n8_ n9_ n10_ n11_ n12_ n13_ n14_ n15_; clear hb hbox hg; have hnb47 := NB543_536.out; have hnc47 := NB536_543.out; have hnb48 := NB543_537.out; have hnc48 := NB537_543.out; have hnb49 := NB543_538.out; have hnc49 := NB538_543.out; have hnb50 := NB543_540.out; have hnc50 := NB540_543.out; have hcz51_0 : w46.cell? ⟨gb543, 0, none⟩ = some (.int .i64 0) := (blk_cell BK543.out 0).trans rfl; have hcz51_1 : w46.cell? ⟨gb543, 1, none⟩ = some (.int .i64 0) := (blk_cell BK543.out 1).trans rfl; have hfz51_0 := blk_frozen BK543.out 0; have hfz51_1 := blk_frozen BK543.out 1))
         have n0_ : Aside0 (((w46.setCell ⟨gb543, 0, none⟩ (.int .i64 t541)).setCell ⟨gb543, 1, none⟩ (.int .i64 t542)).heap[gb536]? = some (.cells #[.int .i64 a0_0, .int .i64 a0_1, .int .i64 a0_2, .int .i64 a0_3, .int .i64 a0_4, .int .i64 a0_5, .int .i64 a0_6, .int .i64 a0_7, .int .i64 a0_8, .int .i64 a0_9, .int .i64 a0_10, .int .i64 a0_11] 23 (0, 0))) := ⟨by (with_reducible repeat (first | refine blk_drewN ?_ _ | refine blk_drew ?_ | refine blk_alloc ?_ _)); refine blk_far ?_ NB536_543.out _; (with_reducible repeat (first | refine blk_drewN ?_ _ | refine blk_drew ?_ | refine blk_alloc ?_ _)); refine blk_far ?_ NB536_543.out _; (with_reducible repeat (first | refine blk_drewN ?_ _ | refine blk_drew ?_ | refine blk_alloc ?_ _)); exact BK536.out⟩
         have n1_ : Aside0 (((w46.setCell ⟨gb543, 0, none⟩ (.int .i64 t541)).setCell ⟨gb543, 1, none⟩ (.int .i64 t542)).heap[gb537]? = some (.cells #[.int .i64 0, .int .i64 0] 25 (0, 0))) := ⟨by (with_reducible repeat (first | refine blk_drewN ?_ _ | refine blk_drew ?_ | refine blk_alloc ?_ _)); refine blk_far ?_ NB537_543.out _; (with_reducible repeat (first | refine blk_drewN ?_ _ | refine blk_drew ?_ | refine blk_alloc ?_ _)); refine blk_far ?_ NB537_543.out _; (with_reducible repeat (first | refine blk_drewN ?_ _ | refine blk_drew ?_ | refine blk_alloc ?_ _)); exact BK537.out⟩
         have n2_ : Aside0 (((w46.setCell ⟨gb543, 0, none⟩ (.int .i64 t541)).setCell ⟨gb543, 1, none⟩ (.int .i64 t542)).heap[gb538]? = some (.cells #[.int .i64 x539000_1, .int .i64 x539001_1] 25 (0, 0))) := ⟨by (with_reducible repeat (first | refine blk_drewN ?_ _ | refine blk_drew ?_ | refine blk_alloc ?_ _)); refine blk_far ?_ NB538_543.out _; (with_reducible repeat (first | refine blk_drewN ?_ _ | refine blk_drew ?_ | refine blk_alloc ?_ _)); refine blk_far ?_ NB538_543.out _; (with_reducible repeat (first | refine blk_drewN ?_ _ | refine blk_drew ?_ | refine blk_alloc ?_ _)); exact BK538.out⟩
         have n3_ : Aside0 (((w46.setCell ⟨gb543, 0, none⟩ (.int .i64 t541)).setCell ⟨gb543, 1, none⟩ (.int .i64 t542)).heap[gb540]? = some (.cells #[.int .i64 ((rd_T57 l1 x14_1).f0), .int .i64 ((rd_T57 l1 x14_1).f1), .int .i64 ((rd_T57 l1 x14_1).f2), .int .i64 ((rd_T57 l1 x14_1).f3)] 57 (0, 0))) := ⟨by (with_reducible repeat (first | refine blk_drewN ?_ _ | refine blk_drew ?_ | refine blk_alloc ?_ _)); refine blk_far ?_ NB540_543.out _; (with_reducible repeat (first | refine blk_drewN ?_ _ | refine blk_drew ?_ | refine blk_alloc ?_ _)); refine blk_far ?_ NB540_543.out _; (with_reducible repeat (first | refine blk_drewN ?_ _ | refine blk_drew ?_ | refine blk_alloc ?_ _)); exact BK540.out⟩
         have n4_ : Aside0 (((w46.setCell ⟨gb543, 0, none⟩ (.int .i64 t541)).setCell ⟨gb543, 1, none⟩ (.int .i64 t542)).heap[gb543]? = some (.cells #[.int .i64 t541, .int .i64 t542] 25 (0, 0))) := ⟨by (with_reducible repeat (first | refine blk_drewN ?_ _ | refine blk_drew ?_ | refine blk_alloc ?_ _)); refine blk_put (cs := #[.int .i64 t541, .int .i64 0]) ?_ 1 _ rfl; (with_reducible repeat (first | refine blk_drewN ?_ _ | refine blk_drew ?_ | refine blk_alloc ?_ _)); refine blk_put (cs := #[.int .i64 0, .int .i64 0]) ?_ 0 _ rfl; (with_reducible repeat (first | refine blk_drewN ?_ _ | refine blk_drew ?_ | refine blk_alloc ?_ _)); exact BK543.out⟩
         have n5_ : Aside0 (Below w.heap.size w ((w46.setCell ⟨gb543, 0, none⟩ (.int .i64 t541)).setCell ⟨gb543, 1, none⟩ (.int .i64 t542))) := ⟨by repeat (first | (with_reducible first | exact HB.out | apply below_alloc | apply pw_below_drewN | apply below_drew1 | refine below_set ?_ GE536.out | refine below_set ?_ GE537.out | refine below_set ?_ GE538.out | refine below_set ?_ GE540.out | refine below_set ?_ GE543.out) | exact HB.out)⟩
         (try clear BK536)
         (try clear BK537)
         (try clear BK538)
         (try clear BK540)
         (try clear BK543)
         (try clear HB)
         generalize ((w46.setCell ⟨gb543, 0, none⟩ (.int .i64 t541)).setCell ⟨gb543, 1, none⟩ (.int .i64 t542)) = w52 at n0_ n1_ n2_ n3_ n4_ n5_ ⊢
         have BK536 := n0_
         have BK537 := n1_
         have BK538 := n2_
         have BK540 := n3_
         have BK543 := n4_
         have HB := n5_
         clear n0_ n1_ n2_ n3_ n4_ n5_
         have n0_ := Aside0.mk (blk_drew BK536.out)
         have n1_ := Aside0.mk (blk_drew BK537.out)
         have n2_ := Aside0.mk (blk_drew BK538.out)
         have n3_ := Aside0.mk (blk_drew BK540.out)
         have n4_ := Aside0.mk (blk_drew BK543.out)
         have n5_ := Aside0.mk (below_drew1 HB.out)
         clear BK536
         clear BK537
         clear BK538
         clear BK540
         clear BK543
         clear HB
         have BK536 := n0_
         have BK537 := n1_
         have BK538 := n2_
         have BK540 := n3_
         have BK543 := n4_
         have HB := n5_
         clear n0_ n1_ n2_ n3_ n4_ n5_
         refine start_ (n := 14) (S := fun w' => w'.cell? ⟨gb543, 0, none⟩ = some (.int .i64 t541) ∧ w'.cell? ⟨gb543, 1, none⟩ = some (.int .i64 t542) ∧ w'.cell? ⟨gb538, 0, none⟩ = some (.int .i64 x539000_1) ∧ w'.cell? ⟨gb538, 1, none⟩ = some (.int .i64 x539001_1)) (ds := []) #[false, false, false, false, false, false, false, false, false, false, false, false, false, false] (by kernel_rfl) rfl rfl ⟨(blk_cell BK543.out 0).trans rfl, (blk_cell BK543.out 1).trans rfl, (blk_cell BK538.out 0).trans rfl, (blk_cell BK538.out 1).trans rfl⟩ (fun hHeld => ?_); refine with_tabW probe_Best.tab6 probe_Best.bits6 (fun HT_ HW_ => ?_)
         generalize w52.drew = w53 at BK536 BK537 BK538 BK540 BK543 HB hHeld ⊢
         refine take_ (i := 0) (N := some 21) (v := ?_) (a' := ?_) #[true, false, false, false, false, false, false, false, false, false, false, false, false, false] rfl rfl (take_ofW HT_.out HW_.out (by kernel_rfl)) (fun _ _ _ h => h) (Or.inl ⟨by rfl, ?_⟩) hHeld ?_ ?_
         rotate_left
         ·rintro w' ⟨s0, s1, s2, s3⟩
          go_simp
          with_reducible rfl
         rotate_left
         ·simp only [Act.put, List.setIfInBounds_toArray, List.set_cons_zero, List.set_cons_succ, i64_w, i32_w]
          rfl
         refine one_ (i := 1) (N := some 22) #[true, true, false, false, false, false, false, false, false, false, false, false, false, false] rfl rfl (one_of HT_.out (by kernel_rfl)) (by decide) (fun K hK => ?_)
         refine goes_ Try.func56 (by kernel_rfl) rfl #[.agg #[.int .i64 t541, .int .i64 t542]] (by rfl) rfl rfl (by (try simp only [List.map_toArray, List.map_cons, List.map_nil]); first | done | rfl | (simp only [List.length_drop, List.length_take]; rfl)) ?_
         with_reducible refine (span_Empty.calls t541 t542 false _ A13.out).mono ?_
         rintro e w54 ⟨rfl, hb⟩
         refine ⟨_, rfl, ?_⟩
         have n0_ := Aside0.mk (blk_below (g := gb536) (o := .cells #[.int .i64 a0_0, .int .i64 a0_1, .int .i64 a0_2, .int .i64 a0_3, .int .i64 a0_4, .int .i64 a0_5, .int .i64 a0_6, .int .i64 a0_7, .int .i64 a0_8, .int .i64 a0_9, .int .i64 a0_10, .int .i64 a0_11] 23 (0, 0)) (by (with_reducible repeat (first | refine blk_drewN ?_ _ | refine blk_drew ?_ | refine blk_alloc ?_ _)); exact BK536.out) hb)
         have n1_ := Aside0.mk (blk_below (g := gb537) (o := .cells #[.int .i64 0, .int .i64 0] 25 (0, 0)) (by (with_reducible repeat (first | refine blk_drewN ?_ _ | refine blk_drew ?_ | refine blk_alloc ?_ _)); exact BK537.out) hb)
         have n2_ := Aside0.mk (blk_below (g := gb538) (o := .cells #[.int .i64 x539000_1, .int .i64 x539001_1] 25 (0, 0)) (by (with_reducible repeat (first | refine blk_drewN ?_ _ | refine blk_drew ?_ | refine blk_alloc ?_ _)); exact BK538.out) hb)
         have n3_ := Aside0.mk (blk_below (g := gb540) (o := .cells #[.int .i64 ((rd_T57 l1 x14_1).f0), .int .i64 ((rd_T57 l1 x14_1).f1), .int .i64 ((rd_T57 l1 x14_1).f2), .int .i64 ((rd_T57 l1 x14_1).f3)] 57 (0, 0)) (by (with_reducible repeat (first | refine blk_drewN ?_ _ | refine blk_drew ?_ | refine blk_alloc ?_ _)); exact BK540.out) hb)
         have n4_ := Aside0.mk (blk_below (g := gb543) (o := .cells #[.int .i64 t541, .int .i64 t542] 25 (0, 0)) (by (with_reducible repeat (first | refine blk_drewN ?_ _ | refine blk_drew ?_ | refine blk_alloc ?_ _)); exact BK543.out) hb)
         have n5_ := Aside0.mk (below_step (by repeat (first | (with_reducible first | exact HB.out | apply below_alloc | apply pw_below_drewN | apply below_drew1 | refine below_set ?_ GE536.out | refine below_set ?_ GE537.out | refine below_set ?_ GE538.out | refine below_set ?_ GE540.out | refine below_set ?_ GE543.out) | exact HB.out)) hb)
         clear BK536
         clear BK537
         clear BK538
         clear BK540
         clear BK543
         clear HB
         have BK536 := n0_
         have BK537 := n1_
         have BK538 := n2_
         have BK540 := n3_
         have BK543 := n4_
         have HB := n5_
         clear n0_ n1_ n2_ n3_ n4_ n5_
         (try clear hb)
         (try clear hb2)
         (try clear hk)
         (try clear hi)
         refine hK.out _ _ ⟨(blk_cell BK543.out 0).trans rfl, (blk_cell BK543.out 1).trans rfl, (blk_cell BK538.out 0).trans rfl, (blk_cell BK538.out 1).trans rfl⟩ (fun hHeld => ?_)
         clear hK K
         refine norm_ (a' := ?_) ?_ ?_
         rotate_left
         ·show Act.put _ (some 22) _ = _
          simp only [Act.put, List.setIfInBounds_toArray, List.set_cons_zero, List.set_cons_succ, i64_w, i32_w]
          rfl
         refine pure_ (i := 2) (N := some 23) (v := ?_) (a' := ?_) #[true, true, true, false, false, false, false, false, false, false, false, false, false, false] rfl rfl (any_of HT_.out (by kernel_rfl)) (fun _ _ _ h => h) (Or.inl ⟨by rfl, ?_⟩) ?_ ?_
         rotate_left
         ·intro w'
          go_simp
          with_reducible rfl
         rotate_left
         ·simp only [Act.put, List.setIfInBounds_toArray, List.set_cons_zero, List.set_cons_succ, i64_w, i32_w]
          rfl
         refine pure_ (i := 3) (N := some 24) (v := ?_) (a' := ?_) #[true, true, true, true, false, false, false, false, false, false, false, false, false, false] rfl rfl (any_of HT_.out (by kernel_rfl)) (fun _ _ _ h => h) (Or.inl ⟨by rfl, ?_⟩) ?_ ?_
         rotate_left
         ·intro w'
          go_simp
          with_reducible rfl
         rotate_left
         ·simp only [Act.put, List.setIfInBounds_toArray, List.set_cons_zero, List.set_cons_succ, i64_w, i32_w]
          rfl
         refine pure_ (i := 4) (N := some 25) (v := ?_) (a' := ?_) #[true, true, true, true, true, false, false, false, false, false, false, false, false, false] rfl rfl (any_of HT_.out (by kernel_rfl)) (fun _ _ _ h => h) (Or.inl ⟨by rfl, ?_⟩) ?_ ?_
         rotate_left
         ·intro w'
          go_simp
          with_reducible rfl
         rotate_left
         ·simp only [Act.put, List.setIfInBounds_toArray, List.set_cons_zero, List.set_cons_succ, i64_w, i32_w]
          rfl
         refine pure_ (i := 5) (N := some 26) (v := ?_) (a' := ?_) #[true, true, true, true, true, true, false, false, false, false, false, false, false, false] rfl rfl (any_of HT_.out (by kernel_rfl)) (fun _ _ _ h => h) (Or.inl ⟨by rfl, ?_⟩) ?_ ?_
         rotate_left
         ·intro w'
          go_simp
          with_reducible rfl
         rotate_left
         ·simp only [Act.put, List.setIfInBounds_toArray, List.set_cons_zero, List.set_cons_succ, i64_w, i32_w]
          rfl
         refine pure_ (i := 6) (N := some 27) (v := ?_) (a' := ?_) #[true, true, true, true, true, true, true, false, false, false, false, false, false, false] rfl rfl (any_of HT_.out (by kernel_rfl)) (fun _ _ _ h => h) (Or.inl ⟨by rfl, ?_⟩) ?_ ?_
         rotate_left
         ·intro w'
          go_simp
          with_reducible rfl
         rotate_left
         ·simp only [Act.put, List.setIfInBounds_toArray, List.set_cons_zero, List.set_cons_succ, i64_w, i32_w]
          rfl
         refine take_ (i := 7) (N := some 28) (v := ?_) (a' := ?_) #[true, true, true, true, true, true, true, true, false, false, false, false, false, false] rfl rfl (take_ofW HT_.out HW_.out (by kernel_rfl)) (fun _ _ _ h => h) (Or.inl ⟨by rfl, ?_⟩) hHeld ?_ ?_
         rotate_left
         ·rintro w' ⟨s0, s1, s2, s3⟩
          go_simp
          with_reducible rfl
         rotate_left
         ·simp only [Act.put, List.setIfInBounds_toArray, List.set_cons_zero, List.set_cons_succ, i64_w, i32_w]
          rfl
         refine take_ (i := 9) (N := some 30) (v := ?_) (a' := ?_) #[true, true, true, true, true, true, true, true, false, true, false, false, false, false] rfl rfl (take_ofW HT_.out HW_.out (by kernel_rfl)) (fun _ _ _ h => h) (Or.inl ⟨by rfl, ?_⟩) hHeld ?_ ?_
         rotate_left
         ·rintro w' ⟨s0, s1, s2, s3⟩
          go_simp
          with_reducible rfl
         rotate_left
         ·simp only [Act.put, List.setIfInBounds_toArray, List.set_cons_zero, List.set_cons_succ, i64_w, i32_w]
          rfl
         refine one_ (i := 8) (N := some 29) #[true, true, true, true, true, true, true, true, true, true, false, false, false, false] rfl rfl (one_of HT_.out (by kernel_rfl)) (by decide) (fun K hK => ?_)
         refine goes_ Try.func57 (by kernel_rfl) rfl #[.agg #[.int .i64 t541, .int .i64 t542]] (by rfl) rfl rfl (by (try simp only [List.map_toArray, List.map_cons, List.map_nil]); first | done | rfl | (simp only [List.length_drop, List.length_take]; rfl)) ?_
         with_reducible refine (span_Wide.calls k1 t541 t542 t545 _ A34.out).mono ?_
         rintro e w55 ⟨rfl, hb⟩
         refine ⟨_, rfl, ?_⟩
         have n0_ := Aside0.mk (blk_below (g := gb536) (o := .cells #[.int .i64 a0_0, .int .i64 a0_1, .int .i64 a0_2, .int .i64 a0_3, .int .i64 a0_4, .int .i64 a0_5, .int .i64 a0_6, .int .i64 a0_7, .int .i64 a0_8, .int .i64 a0_9, .int .i64 a0_10, .int .i64 a0_11] 23 (0, 0)) (by (with_reducible repeat (first | refine blk_drewN ?_ _ | refine blk_drew ?_ | refine blk_alloc ?_ _)); exact BK536.out) hb)
         have n1_ := Aside0.mk (blk_below (g := gb537) (o := .cells #[.int .i64 0, .int .i64 0] 25 (0, 0)) (by (with_reducible repeat (first | refine blk_drewN ?_ _ | refine blk_drew ?_ | refine blk_alloc ?_ _)); exact BK537.out) hb)
         have n2_ := Aside0.mk (blk_below (g := gb538) (o := .cells #[.int .i64 x539000_1, .int .i64 x539001_1] 25 (0, 0)) (by (with_reducible repeat (first | refine blk_drewN ?_ _ | refine blk_drew ?_ | refine blk_alloc ?_ _)); exact BK538.out) hb)
         have n3_ := Aside0.mk (blk_below (g := gb540) (o := .cells #[.int .i64 ((rd_T57 l1 x14_1).f0), .int .i64 ((rd_T57 l1 x14_1).f1), .int .i64 ((rd_T57 l1 x14_1).f2), .int .i64 ((rd_T57 l1 x14_1).f3)] 57 (0, 0)) (by (with_reducible repeat (first | refine blk_drewN ?_ _ | refine blk_drew ?_ | refine blk_alloc ?_ _)); exact BK540.out) hb)
         have n4_ := Aside0.mk (blk_below (g := gb543) (o := .cells #[.int .i64 t541, .int .i64 t542] 25 (0, 0)) (by (with_reducible repeat (first | refine blk_drewN ?_ _ | refine blk_drew ?_ | refine blk_alloc ?_ _)); exact BK543.out) hb)
         have n5_ := Aside0.mk (below_step (by repeat (first | (with_reducible first | exact HB.out | apply below_alloc | apply pw_below_drewN | apply below_drew1 | refine below_set ?_ GE536.out | refine below_set ?_ GE537.out | refine below_set ?_ GE538.out | refine below_set ?_ GE540.out | refine below_set ?_ GE543.out) | exact HB.out)) hb)
         clear BK536
         clear BK537
         clear BK538
         clear BK540
         clear BK543
         clear HB
         have BK536 := n0_
         have BK537 := n1_
         have BK538 := n2_
         have BK540 := n3_
         have BK543 := n4_
         have HB := n5_
         clear n0_ n1_ n2_ n3_ n4_ n5_
         (try clear hb)
         (try clear hb2)
         (try clear hk)
         (try clear hi)
         refine hK.out _ _ ⟨(blk_cell BK543.out 0).trans rfl, (blk_cell BK543.out 1).trans rfl, (blk_cell BK538.out 0).trans rfl, (blk_cell BK538.out 1).trans rfl⟩ (fun hHeld => ?_)
         clear hK K
         refine norm_ (a' := ?_) ?_ ?_
         rotate_left
         ·show Act.put _ (some 29) _ = _
          simp only [Act.put, List.setIfInBounds_toArray, List.set_cons_zero, List.set_cons_succ, i64_w, i32_w]
          rfl
         refine one_ (i := 10) (N := some 31) #[true, true, true, true, true, true, true, true, true, true, true, false, false, false] rfl rfl (one_of HT_.out (by kernel_rfl)) (by decide) (fun K hK => ?_)
         refine goes_ Try.func57 (by kernel_rfl) rfl #[.agg #[.int .i64 x539000_1, .int .i64 x539001_1]] (by rfl) rfl rfl (by (try simp only [List.map_toArray, List.map_cons, List.map_nil]); first | done | rfl | (simp only [List.length_drop, List.length_take]; rfl)) ?_
         with_reducible refine (span_Wide.calls k1 x539000_1 x539001_1 t546 _ A35.out).mono ?_
         rintro e w56 ⟨rfl, hb⟩
         refine ⟨_, rfl, ?_⟩
         have n0_ := Aside0.mk (blk_below (g := gb536) (o := .cells #[.int .i64 a0_0, .int .i64 a0_1, .int .i64 a0_2, .int .i64 a0_3, .int .i64 a0_4, .int .i64 a0_5, .int .i64 a0_6, .int .i64 a0_7, .int .i64 a0_8, .int .i64 a0_9, .int .i64 a0_10, .int .i64 a0_11] 23 (0, 0)) (by (with_reducible repeat (first | refine blk_drewN ?_ _ | refine blk_drew ?_ | refine blk_alloc ?_ _)); exact BK536.out) hb)
         have n1_ := Aside0.mk (blk_below (g := gb537) (o := .cells #[.int .i64 0, .int .i64 0] 25 (0, 0)) (by (with_reducible repeat (first | refine blk_drewN ?_ _ | refine blk_drew ?_ | refine blk_alloc ?_ _)); exact BK537.out) hb)
         have n2_ := Aside0.mk (blk_below (g := gb538) (o := .cells #[.int .i64 x539000_1, .int .i64 x539001_1] 25 (0, 0)) (by (with_reducible repeat (first | refine blk_drewN ?_ _ | refine blk_drew ?_ | refine blk_alloc ?_ _)); exact BK538.out) hb)
         have n3_ := Aside0.mk (blk_below (g := gb540) (o := .cells #[.int .i64 ((rd_T57 l1 x14_1).f0), .int .i64 ((rd_T57 l1 x14_1).f1), .int .i64 ((rd_T57 l1 x14_1).f2), .int .i64 ((rd_T57 l1 x14_1).f3)] 57 (0, 0)) (by (with_reducible repeat (first | refine blk_drewN ?_ _ | refine blk_drew ?_ | refine blk_alloc ?_ _)); exact BK540.out) hb)
         have n4_ := Aside0.mk (blk_below (g := gb543) (o := .cells #[.int .i64 t541, .int .i64 t542] 25 (0, 0)) (by (with_reducible repeat (first | refine blk_drewN ?_ _ | refine blk_drew ?_ | refine blk_alloc ?_ _)); exact BK543.out) hb)
         have n5_ := Aside0.mk (below_step (by repeat (first | (with_reducible first | exact HB.out | apply below_alloc | apply pw_below_drewN | apply below_drew1 | refine below_set ?_ GE536.out | refine below_set ?_ GE537.out | refine below_set ?_ GE538.out | refine below_set ?_ GE540.out | refine below_set ?_ GE543.out) | exact HB.out)) hb)
         clear BK536
         clear BK537
         clear BK538
         clear BK540
         clear BK543
         clear HB
         have BK536 := n0_
         have BK537 := n1_
         have BK538 := n2_
         have BK540 := n3_
         have BK543 := n4_
         have HB := n5_
         clear n0_ n1_ n2_ n3_ n4_ n5_
         (try clear hb)
         (try clear hb2)
         (try clear hk)
         (try clear hi)
         refine hK.out _ _ ⟨(blk_cell BK543.out 0).trans rfl, (blk_cell BK543.out 1).trans rfl, (blk_cell BK538.out 0).trans rfl, (blk_cell BK538.out 1).trans rfl⟩ (fun hHeld => ?_)
         clear hK K
         refine norm_ (a' := ?_) ?_ ?_
         rotate_left
         ·show Act.put _ (some 31) _ = _
          simp only [Act.put, List.setIfInBounds_toArray, List.set_cons_zero, List.set_cons_succ, i64_w, i32_w]
          rfl
         refine pure_ (i := 11) (N := some 32) (v := ?_) (a' := ?_) #[true, true, true, true, true, true, true, true, true, true, true, true, false, false] rfl rfl (any_of HT_.out (by kernel_rfl)) (fun _ _ _ h => h) (Or.inl ⟨by rfl, ?_⟩) ?_ ?_
         rotate_left
         ·intro w'
          go_simp
          with_reducible rfl
         rotate_left
         ·simp only [Act.put, List.setIfInBounds_toArray, List.set_cons_zero, List.set_cons_succ, i64_w, i32_w]
          rfl
         refine pure_ (i := 12) (N := some 33) (v := ?_) (a' := ?_) #[true, true, true, true, true, true, true, true, true, true, true, true, true, false] rfl rfl (any_of HT_.out (by kernel_rfl)) (fun _ _ _ h => h) (Or.inl ⟨by rfl, ?_⟩) ?_ ?_
         rotate_left
         ·intro w'
          go_simp
          with_reducible rfl
         rotate_left
         ·simp only [Act.put, List.setIfInBounds_toArray, List.set_cons_zero, List.set_cons_succ, i64_w, i32_w]
          rfl
         refine pure_ (i := 13) (N := some 34) (v := ?_) (a' := ?_) #[true, true, true, true, true, true, true, true, true, true, true, true, true, true] rfl rfl (any_of HT_.out (by kernel_rfl)) (fun _ _ _ h => h) (Or.inl ⟨by rfl, ?_⟩) ?_ ?_
         rotate_left
         ·intro w'
          go_simp
          with_reducible rfl
         rotate_left
         ·simp only [Act.put, List.setIfInBounds_toArray, List.set_cons_zero, List.set_cons_succ, i64_w, i32_w]
          rfl
         refine done_ (done_of HT_.out (by kernel_rfl)) ?_
         have hcz57_0 : w56.cell? ⟨gb543, 0, none⟩ = some (.int .i64 t541) := (blk_cell BK543.out 0).trans rfl
         have hcz57_1 : w56.cell? ⟨gb543, 1, none⟩ = some (.int .i64 t542) := (blk_cell BK543.out 1).trans rfl
         have hfz57_0 := blk_frozen BK543.out 0
         have hfz57_1 := blk_frozen BK543.out 1
         have hnb58 := NB538_537.out
         have hnc58 := NB537_538.out
         have hcz59_0 : w56.cell? ⟨gb538, 0, none⟩ = some (.int .i64 x539000_1) := (blk_cell BK538.out 0).trans rfl
         have hcz59_1 : w56.cell? ⟨gb538, 1, none⟩ = some (.int .i64 x539001_1) := (blk_cell BK538.out 1).trans rfl
         have hfz59_0 := blk_frozen BK538.out 0
         have hfz59_1 := blk_frozen BK538.out 1
         try go_wp2
         go_roundg k1
         case measure => have := HK1.out; omega
         case rel => exact ⟨(true), (wrap64 (x14_1 + 1)), (t541), (t542), (by first | rfl | (simp; done) | (simp [*]; done) | (simp [Int.tdiv_eq_ediv_of_nonneg]; done) | (simp [Go.RowKit.wrap64]; done) | (simp [*, Go.RowKit.wrap64]; done)), (by first | rfl | (simp; done) | (simp [*]; done) | (simp [Int.tdiv_eq_ediv_of_nonneg]; done) | (simp [Go.RowKit.wrap64]; done) | (simp [*, Go.RowKit.wrap64]; done)), H', ⟨by have := HK1.out; omega⟩, ⟨by (with_reducible repeat (first | refine blk_drewN ?_ _ | refine blk_drew ?_ | refine blk_alloc ?_ _)); refine blk_far ?_ NB536_538.out _; (with_reducible repeat (first | refine blk_drewN ?_ _ | refine blk_drew ?_ | refine blk_alloc ?_ _)); refine blk_far ?_ NB536_538.out _; (with_reducible repeat (first | refine blk_drewN ?_ _ | refine blk_drew ?_ | refine blk_alloc ?_ _)); exact BK536.out⟩, ⟨by (with_reducible repeat (first | refine blk_drewN ?_ _ | refine blk_drew ?_ | refine blk_alloc ?_ _)); refine blk_far ?_ NB537_538.out _; (with_reducible repeat (first | refine blk_drewN ?_ _ | refine blk_drew ?_ | refine blk_alloc ?_ _)); refine blk_far ?_ NB537_538.out _; (with_reducible repeat (first | refine blk_drewN ?_ _ | refine blk_drew ?_ | refine blk_alloc ?_ _)); exact BK537.out⟩, ⟨by (with_reducible repeat (first | refine blk_drewN ?_ _ | refine blk_drew ?_ | refine blk_alloc ?_ _)); refine blk_put (cs := #[.int .i64 t541, .int .i64 x539001_1]) ?_ 1 _ rfl; (with_reducible repeat (first | refine blk_drewN ?_ _ | refine blk_drew ?_ | refine blk_alloc ?_ _)); refine blk_put (cs := #[.int .i64 x539000_1, .int .i64 x539001_1]) ?_ 0 _ rfl; (with_reducible repeat (first | refine blk_drewN ?_ _ | refine blk_drew ?_ | refine blk_alloc ?_ _)); exact BK538.out⟩, ⟨by repeat (first | (with_reducible first | exact HB.out | apply below_alloc | apply pw_below_drewN | apply below_drew1 | refine below_set ?_ GE536.out | refine below_set ?_ GE537.out | refine below_set ?_ GE538.out | refine below_set ?_ GE540.out | refine below_set ?_ GE543.out) | exact HB.out)⟩⟩
        ·rw [if_neg c36] at H
         have c36b0 : decide (t545 < t546) = false := decide_eq_false c36
         clear c36
         have H' := Aside0.mk H
         clear H
         have p539 : 0 ≤ (x14_1 : Int) := of_decide_eq_true (by first | (with_reducible assumption) | assumption)
         have q539 : x14_1 < (l1.length : Int) := of_decide_eq_true (by first | (with_reducible assumption) | assumption)
         obtain ⟨ad539, e539, hx539_0, hx539_1, hx539_2, hx539_3⟩ := at_T57 HR1.out x14_1 p539 q539
         cases e539
         replace hx539_0 := (HB.out.cell (World.block_lt_of_cell? w _ hx539_0)).trans hx539_0
         replace hx539_1 := (HB.out.cell (World.block_lt_of_cell? w _ hx539_1)).trans hx539_1
         replace hx539_2 := (HB.out.cell (World.block_lt_of_cell? w _ hx539_2)).trans hx539_2
         replace hx539_3 := (HB.out.cell (World.block_lt_of_cell? w _ hx539_3)).trans hx539_3
         replace p539 := eq_true p539
         replace q539 := eq_true q539
         try go_wp2_with (first | ((with_reducible refine gate_dst (N := 9) rfl ?_); refine box_event ?hg (N := 9) ?hd (cs := #[.int .i64 0, .int .i64 0, .int .i64 0, .int .i64 0]) (t := 57) ?hr ?_; (case hd => rfl); (case hg => rfl); (case hr => first | (go_simp; done) | (go_simp; rfl)); intro gb540 hg w60 hbox hb; have n0_ := Aside0.mk (blk_below (g := gb536) (o := .cells #[.int .i64 a0_0, .int .i64 a0_1, .int .i64 a0_2, .int .i64 a0_3, .int .i64 a0_4, .int .i64 a0_5, .int .i64 a0_6, .int .i64 a0_7, .int .i64 a0_8, .int .i64 a0_9, .int .i64 a0_10, .int .i64 a0_11] 23 (0, 0)) (by (with_reducible repeat (first | refine blk_drewN ?_ _ | refine blk_drew ?_ | refine blk_alloc ?_ _)); exact BK536.out) hb); have n1_ := Aside0.mk (blk_below (g := gb537) (o := .cells #[.int .i64 0, .int .i64 0] 25 (0, 0)) (by (with_reducible repeat (first | refine blk_drewN ?_ _ | refine blk_drew ?_ | refine blk_alloc ?_ _)); exact BK537.out) hb); have n2_ := Aside0.mk (blk_below (g := gb538) (o := .cells #[.int .i64 x539000_1, .int .i64 x539001_1] 25 (0, 0)) (by (with_reducible repeat (first | refine blk_drewN ?_ _ | refine blk_drew ?_ | refine blk_alloc ?_ _)); exact BK538.out) hb); have n3_ := Aside0.mk (below_step (by repeat (first | (with_reducible first | exact HB.out | apply below_alloc | apply pw_below_drewN | apply below_drew1 | refine below_set ?_ GE536.out | refine below_set ?_ GE537.out | refine below_set ?_ GE538.out) | exact HB.out)) hb); have n4_ := Aside0.mk (hbox); have n5_ := Aside0.mk ((by rw [hg]; exact (below_size (by repeat (first | (with_reducible first | exact HB.out | apply below_alloc | apply pw_below_drewN | apply below_drew1 | refine below_set ?_ GE536.out | refine below_set ?_ GE537.out | refine below_set ?_ GE538.out) | exact HB.out))) : w.heap.size ≤ gb540)); have n6_ := Aside0.mk ((by rw [hg]; exact (below_size (by repeat (first | (with_reducible first | exact HB.out | apply below_alloc | apply pw_below_drewN | apply below_drew1 | refine below_set ?_ GE536.out | refine below_set ?_ GE537.out | refine below_set ?_ GE538.out) | exact HB.out))) : w.heap.size ≤ gb540)); have n7_ := Aside0.mk ((by rw [hg]; exact Nat.ne_of_lt (blk_lt (g := gb536) (o := .cells #[.int .i64 a0_0, .int .i64 a0_1, .int .i64 a0_2, .int .i64 a0_3, .int .i64 a0_4, .int .i64 a0_5, .int .i64 a0_6, .int .i64 a0_7, .int .i64 a0_8, .int .i64 a0_9, .int .i64 a0_10, .int .i64 a0_11] 23 (0, 0)) (by (with_reducible repeat (first | refine blk_drewN ?_ _ | refine blk_drew ?_ | refine blk_alloc ?_ _)); exact BK536.out)) : gb536 ≠ gb540)); have n8_ := Aside0.mk ((by rw [hg]; exact Nat.ne_of_gt (blk_lt (g := gb536) (o := .cells #[.int .i64 a0_0, .int .i64 a0_1, .int .i64 a0_2, .int .i64 a0_3, .int .i64 a0_4, .int .i64 a0_5, .int .i64 a0_6, .int .i64 a0_7, .int .i64 a0_8, .int .i64 a0_9, .int .i64 a0_10, .int .i64 a0_11] 23 (0, 0)) (by (with_reducible repeat (first | refine blk_drewN ?_ _ | refine blk_drew ?_ | refine blk_alloc ?_ _)); exact BK536.out)) : gb540 ≠ gb536)); have n9_ := Aside0.mk ((by rw [hg]; exact Nat.ne_of_lt (blk_lt (g := gb537) (o := .cells #[.int .i64 0, .int .i64 0] 25 (0, 0)) (by (with_reducible repeat (first | refine blk_drewN ?_ _ | refine blk_drew ?_ | refine blk_alloc ?_ _)); exact BK537.out)) : gb537 ≠ gb540)); have n10_ := Aside0.mk ((by rw [hg]; exact Nat.ne_of_gt (blk_lt (g := gb537) (o := .cells #[.int .i64 0, .int .i64 0] 25 (0, 0)) (by (with_reducible repeat (first | refine blk_drewN ?_ _ | refine blk_drew ?_ | refine blk_alloc ?_ _)); exact BK537.out)) : gb540 ≠ gb537)); have n11_ := Aside0.mk ((by rw [hg]; exact Nat.ne_of_lt (blk_lt (g := gb538) (o := .cells #[.int .i64 x539000_1, .int .i64 x539001_1] 25 (0, 0)) (by (with_reducible repeat (first | refine blk_drewN ?_ _ | refine blk_drew ?_ | refine blk_alloc ?_ _)); exact BK538.out)) : gb538 ≠ gb540)); have n12_ := Aside0.mk ((by rw [hg]; exact Nat.ne_of_gt (blk_lt (g := gb538) (o := .cells #[.int .i64 x539000_1, .int .i64 x539001_1] 25 (0, 0)) (by (with_reducible repeat (first | refine blk_drewN ?_ _ | refine blk_drew ?_ | refine blk_alloc ?_ _)); exact BK538.out)) : gb540 ≠ gb538)); clear BK536; clear BK537; clear BK538; clear HB; have BK536 := n0_; have BK537 := n1_; have BK538 := n2_; have HB := n3_; have BK540 := n4_; have GW540 := n5_; have GE540 := n6_; have NB536_540 := n7_; have NB540_536 := n8_; have NB537_540 := n9_; have NB540_537 := n10_; have NB538_540 := n11_; have NB540_538 := n12_; clear n0_ n1_ n2_ n3_ n4_ n5_ n6_ n7_ n8_ n9_ n10_ n11_ n12_; clear hb hbox hg; have hnb61 := NB540_536.out; have hnc61 := NB536_540.out; have hnb62 := NB540_537.out; have hnc62 := NB537_540.out; have hnb63 := NB540_538.out; have hnc63 := NB538_540.out; have hcz64_0 : w60.cell? ⟨gb540, 0, none⟩ = some (.int .i64 0) := (blk_cell BK540.out 0).trans rfl; have hcz64_1 : w60.cell? ⟨gb540, 1, none⟩ = some (.int .i64 0) := (blk_cell BK540.out 1).trans rfl; have hcz64_2 : w60.cell? ⟨gb540, 2, none⟩ = some (.int .i64 0) := (blk_cell BK540.out 2).trans rfl; have hcz64_3 : w60.cell? ⟨gb540, 3, none⟩ = some (.int .i64 0) := (blk_cell BK540.out 3).trans rfl; have hfz64_0 := blk_frozen BK540.out 0; have hfz64_1 := blk_frozen BK540.out 1; have hfz64_2 := blk_frozen BK540.out 2; have hfz64_3 := blk_frozen BK540.out 3; have hnb65 := NB536_537.out; have hnc65 := NB537_536.out; have hnb66 := NB536_538.out; have hnc66 := NB538_536.out; have hcz67_0 : w60.cell? ⟨gb536, 0, none⟩ = some (.int .i64 a0_0) := (blk_cell BK536.out 0).trans rfl; have hcz67_1 : w60.cell? ⟨gb536, 1, none⟩ = some (.int .i64 a0_1) := (blk_cell BK536.out 1).trans rfl; have hcz67_2 : w60.cell? ⟨gb536, 2, none⟩ = some (.int .i64 a0_2) := (blk_cell BK536.out 2).trans rfl; have hcz67_3 : w60.cell? ⟨gb536, 3, none⟩ = some (.int .i64 a0_3) := (blk_cell BK536.out 3).trans rfl; have hcz67_4 : w60.cell? ⟨gb536, 4, none⟩ = some (.int .i64 a0_4) := (blk_cell BK536.out 4).trans rfl; have hcz67_5 : w60.cell? ⟨gb536, 5, none⟩ = some (.int .i64 a0_5) := (blk_cell BK536.out 5).trans rfl; have hcz67_6 : w60.cell? ⟨gb536, 6, none⟩ = some (.int .i64 a0_6) := (blk_cell BK536.out 6).trans rfl; have hcz67_7 : w60.cell? ⟨gb536, 7, none⟩ = some (.int .i64 a0_7) := (blk_cell BK536.out 7).trans rfl; have hcz67_8 : w60.cell? ⟨gb536, 8, none⟩ = some (.int .i64 a0_8) := (blk_cell BK536.out 8).trans rfl; have hcz67_9 : w60.cell? ⟨gb536, 9, none⟩ = some (.int .i64 a0_9) := (blk_cell BK536.out 9).trans rfl; have hcz67_10 : w60.cell? ⟨gb536, 10, none⟩ = some (.int .i64 a0_10) := (blk_cell BK536.out 10).trans rfl; have hcz67_11 : w60.cell? ⟨gb536, 11, none⟩ = some (.int .i64 a0_11) := (blk_cell BK536.out 11).trans rfl; have hfz67_0 := blk_frozen BK536.out 0; have hfz67_1 := blk_frozen BK536.out 1; have hfz67_2 := blk_frozen BK536.out 2; have hfz67_3 := blk_frozen BK536.out 3; have hfz67_4 := blk_frozen BK536.out 4; have hfz67_5 := blk_frozen BK536.out 5; have hfz67_6 := blk_frozen BK536.out 6; have hfz67_7 := blk_frozen BK536.out 7; have hfz67_8 := blk_frozen BK536.out 8; have hfz67_9 := blk_frozen BK536.out 9; have hfz67_10 := blk_frozen BK536.out 10; have hfz67_11 := blk_frozen BK536.out 11) | ((with_reducible refine gate_callee (f := 33) rfl ?_); refine goesL_ (some 20) rfl rfl Try.func33 (by kernel_rfl) rfl #[.agg #[.int .i64 a0_0, .int .i64 a0_1, .int .i64 a0_2, .int .i64 a0_3, .int .i64 a0_4, .int .i64 a0_5, .int .i64 a0_6, .int .i64 a0_7, .int .i64 a0_8, .int .i64 a0_9, .int .i64 a0_10, .int .i64 a0_11], .agg #[.int .i64 ((rd_T57 l1 x14_1).f0), .int .i64 ((rd_T57 l1 x14_1).f1), .int .i64 ((rd_T57 l1 x14_1).f2), .int .i64 ((rd_T57 l1 x14_1).f3)]] rfl (by (try simp only [List.map_toArray, List.map_cons, List.map_nil]); first | done | rfl | (simp only [List.length_drop, List.length_take]; rfl)) ?_; (with_reducible refine (probe_Ahead.calls k1 a0_0 a0_1 a0_2 a0_3 a0_4 a0_5 a0_6 a0_7 a0_8 a0_9 a0_10 a0_11 ((rd_T57 l1 x14_1).f0) ((rd_T57 l1 x14_1).f1) ((rd_T57 l1 x14_1).f2) ((rd_T57 l1 x14_1).f3) t541 t542 _ A12.out).mono ?_); rintro e w68 ⟨rfl, hb⟩; refine ⟨_, rfl, ?_⟩; have n0_ := Aside0.mk (blk_below (g := gb536) (o := .cells #[.int .i64 a0_0, .int .i64 a0_1, .int .i64 a0_2, .int .i64 a0_3, .int .i64 a0_4, .int .i64 a0_5, .int .i64 a0_6, .int .i64 a0_7, .int .i64 a0_8, .int .i64 a0_9, .int .i64 a0_10, .int .i64 a0_11] 23 (0, 0)) (by (with_reducible repeat (first | refine blk_drewN ?_ _ | refine blk_drew ?_ | refine blk_alloc ?_ _)); refine blk_far ?_ NB536_540.out _; (with_reducible repeat (first | refine blk_drewN ?_ _ | refine blk_drew ?_ | refine blk_alloc ?_ _)); refine blk_far ?_ NB536_540.out _; (with_reducible repeat (first | refine blk_drewN ?_ _ | refine blk_drew ?_ | refine blk_alloc ?_ _)); refine blk_far ?_ NB536_540.out _; (with_reducible repeat (first | refine blk_drewN ?_ _ | refine blk_drew ?_ | refine blk_alloc ?_ _)); refine blk_far ?_ NB536_540.out _; (with_reducible repeat (first | refine blk_drewN ?_ _ | refine blk_drew ?_ | refine blk_alloc ?_ _)); exact BK536.out) hb); have n1_ := Aside0.mk (blk_below (g := gb537) (o := .cells #[.int .i64 0, .int .i64 0] 25 (0, 0)) (by (with_reducible repeat (first | refine blk_drewN ?_ _ | refine blk_drew ?_ | refine blk_alloc ?_ _)); refine blk_far ?_ NB537_540.out _; (with_reducible repeat (first | refine blk_drewN ?_ _ | refine blk_drew ?_ | refine blk_alloc ?_ _)); refine blk_far ?_ NB537_540.out _; (with_reducible repeat (first | refine blk_drewN ?_ _ | refine blk_drew ?_ | refine blk_alloc ?_ _)); refine blk_far ?_ NB537_540.out _; (with_reducible repeat (first | refine blk_drewN ?_ _ | refine blk_drew ?_ | refine blk_alloc ?_ _)); refine blk_far ?_ NB537_540.out _; (with_reducible repeat (first | refine blk_drewN ?_ _ | refine blk_drew ?_ | refine blk_alloc ?_ _)); exact BK537.out) hb); have n2_ := Aside0.mk (blk_below (g := gb538) (o := .cells #[.int .i64 x539000_1, .int .i64 x539001_1] 25 (0, 0)) (by (with_reducible repeat (first | refine blk_drewN ?_ _ | refine blk_drew ?_ | refine blk_alloc ?_ _)); refine blk_far ?_ NB538_540.out _; (with_reducible repeat (first | refine blk_drewN ?_ _ | refine blk_drew ?_ | refine blk_alloc ?_ _)); refine blk_far ?_ NB538_540.out _; (with_reducible repeat (first | refine blk_drewN ?_ _ | refine blk_drew ?_ | refine blk_alloc ?_ _)); refine blk_far ?_ NB538_540.out _; (with_reducible repeat (first | refine blk_drewN ?_ _ | refine blk_drew ?_ | refine blk_alloc ?_ _)); refine blk_far ?_ NB538_540.out _; (with_reducible repeat (first | refine blk_drewN ?_ _ | refine blk_drew ?_ | refine blk_alloc ?_ _)); exact BK538.out) hb); have n3_ := Aside0.mk (blk_below (g := gb540) (o := .cells #[.int .i64 ((rd_T57 l1 x14_1).f0), .int .i64 ((rd_T57 l1 x14_1).f1), .int .i64 ((rd_T57 l1 x14_1).f2), .int .i64 ((rd_T57 l1 x14_1).f3)] 57 (0, 0)) (by (with_reducible repeat (first | refine blk_drewN ?_ _ | refine blk_drew ?_ | refine blk_alloc ?_ _)); refine blk_put (cs := #[.int .i64 ((rd_T57 l1 x14_1).f0), .int .i64 ((rd_T57 l1 x14_1).f1), .int .i64 ((rd_T57 l1 x14_1).f2), .int .i64 0]) ?_ 3 _ rfl; (with_reducible repeat (first | refine blk_drewN ?_ _ | refine blk_drew ?_ | refine blk_alloc ?_ _)); refine blk_put (cs := #[.int .i64 ((rd_T57 l1 x14_1).f0), .int .i64 ((rd_T57 l1 x14_1).f1), .int .i64 0, .int .i64 0]) ?_ 2 _ rfl; (with_reducible repeat (first | refine blk_drewN ?_ _ | refine blk_drew ?_ | refine blk_alloc ?_ _)); refine blk_put (cs := #[.int .i64 ((rd_T57 l1 x14_1).f0), .int .i64 0, .int .i64 0, .int .i64 0]) ?_ 1 _ rfl; (with_reducible repeat (first | refine blk_drewN ?_ _ | refine blk_drew ?_ | refine blk_alloc ?_ _)); refine blk_put (cs := #[.int .i64 0, .int .i64 0, .int .i64 0, .int .i64 0]) ?_ 0 _ rfl; (with_reducible repeat (first | refine blk_drewN ?_ _ | refine blk_drew ?_ | refine blk_alloc ?_ _)); exact BK540.out) hb); have n4_ := Aside0.mk (below_step (by repeat (first | (with_reducible first | exact HB.out | apply below_alloc | apply pw_below_drewN | apply below_drew1 | refine below_set ?_ GE536.out | refine below_set ?_ GE537.out | refine below_set ?_ GE538.out | refine below_set ?_ GE540.out) | exact HB.out)) hb); clear BK536; clear BK537; clear BK538; clear BK540; clear HB; have BK536 := n0_; have BK537 := n1_; have BK538 := n2_; have BK540 := n3_; have HB := n4_; clear n0_ n1_ n2_ n3_ n4_; (try clear hb); (try clear hb2); (try clear hk); (try clear hi)) | ((with_reducible refine gate_dst (N := 10) rfl ?_); refine box_event ?hg (N := 10) ?hd (cs := #[.int .i64 0, .int .i64 0]) (t := 25) ?hr ?_; (case hd => rfl); (case hg => rfl); (case hr => first | (go_simp; done) | (go_simp; rfl)); intro gb543 hg w69 hbox hb; have n0_ := Aside0.mk (blk_below (g := gb536) (o := .cells #[.int .i64 a0_0, .int .i64 a0_1, .int .i64 a0_2, .int .i64 a0_3, .int .i64 a0_4, .int .i64 a0_5, .int .i64 a0_6, .int .i64 a0_7, .int .i64 a0_8, .int .i64 a0_9, .int .i64 a0_10, .int .i64 a0_11] 23 (0, 0)) (by (with_reducible repeat (first | refine blk_drewN ?_ _ | refine blk_drew ?_ | refine blk_alloc ?_ _)); exact BK536.out) hb); have n1_ := Aside0.mk (blk_below (g := gb537) (o := .cells #[.int .i64 0, .int .i64 0] 25 (0, 0)) (by (with_reducible repeat (first | refine blk_drewN ?_ _ | refine blk_drew ?_ | refine blk_alloc ?_ _)); exact BK537.out) hb); have n2_ := Aside0.mk (blk_below (g := gb538) (o := .cells #[.int .i64 x539000_1, .int .i64 x539001_1] 25 (0, 0)) (by (with_reducible repeat (first | refine blk_drewN ?_ _ | refine blk_drew ?_ | refine blk_alloc ?_ _)); exact BK538.out) hb); have n3_ := Aside0.mk (blk_below (g := gb540) (o := .cells #[.int .i64 ((rd_T57 l1 x14_1).f0), .int .i64 ((rd_T57 l1 x14_1).f1), .int .i64 ((rd_T57 l1 x14_1).f2), .int .i64 ((rd_T57 l1 x14_1).f3)] 57 (0, 0)) (by (with_reducible repeat (first | refine blk_drewN ?_ _ | refine blk_drew ?_ | refine blk_alloc ?_ _)); exact BK540.out) hb); have n4_ := Aside0.mk (below_step (by repeat (first | (with_reducible first | exact HB.out | apply below_alloc | apply pw_below_drewN | apply below_drew1 | refine below_set ?_ GE536.out | refine below_set ?_ GE537.out | refine below_set ?_ GE538.out | refine below_set ?_ GE540.out) | exact HB.out)) hb); have n5_ := Aside0.mk (hbox); have n6_ := Aside0.mk ((by rw [hg]; exact (below_size (by repeat (first | (with_reducible first | exact HB.out | apply below_alloc | apply pw_below_drewN | apply below_drew1 | refine below_set ?_ GE536.out | refine below_set ?_ GE537.out | refine below_set ?_ GE538.out | refine below_set ?_ GE540.out) | exact HB.out))) : w.heap.size ≤ gb543)); have n7_ := Aside0.mk ((by rw [hg]; exact (below_size (by repeat (first | (with_reducible first | exact HB.out | apply below_alloc | apply pw_below_drewN | apply below_drew1 | refine below_set ?_ GE536.out | refine below_set ?_ GE537.out | refine below_set ?_ GE538.out | refine below_set ?_ GE540.out) | exact HB.out))) : w.heap.size ≤ gb543)); have n8_ := Aside0.mk ((by rw [hg]; exact Nat.ne_of_lt (blk_lt (g := gb536) (o := .cells #[.int .i64 a0_0, .int .i64 a0_1, .int .i64 a0_2, .int .i64 a0_3, .int .i64 a0_4, .int .i64 a0_5, .int .i64 a0_6, .int .i64 a0_7, .int .i64 a0_8, .int .i64 a0_9, .int .i64 a0_10, .int .i64 a0_11] 23 (0, 0)) (by (with_reducible repeat (first | refine blk_drewN ?_ _ | refine blk_drew ?_ | refine blk_alloc ?_ _)); exact BK536.out)) : gb536 ≠ gb543)); have n9_ := Aside0.mk ((by rw [hg]; exact Nat.ne_of_gt (blk_lt (g := gb536) (o := .cells #[.int .i64 a0_0, .int .i64 a0_1, .int .i64 a0_2, .int .i64 a0_3, .int .i64 a0_4, .int .i64 a0_5, .int .i64 a0_6, .int .i64 a0_7, .int .i64 a0_8, .int .i64 a0_9, .int .i64 a0_10, .int .i64 a0_11] 23 (0, 0)) (by (with_reducible repeat (first | refine blk_drewN ?_ _ | refine blk_drew ?_ | refine blk_alloc ?_ _)); exact BK536.out)) : gb543 ≠ gb536)); have n10_ := Aside0.mk ((by rw [hg]; exact Nat.ne_of_lt (blk_lt (g := gb537) (o := .cells #[.int .i64 0, .int .i64 0] 25 (0, 0)) (by (with_reducible repeat (first | refine blk_drewN ?_ _ | refine blk_drew ?_ | refine blk_alloc ?_ _)); exact BK537.out)) : gb537 ≠ gb543)); have n11_ := Aside0.mk ((by rw [hg]; exact Nat.ne_of_gt (blk_lt (g := gb537) (o := .cells #[.int .i64 0, .int .i64 0] 25 (0, 0)) (by (with_reducible repeat (first | refine blk_drewN ?_ _ | refine blk_drew ?_ | refine blk_alloc ?_ _)); exact BK537.out)) : gb543 ≠ gb537)); have n12_ := Aside0.mk ((by rw [hg]; exact Nat.ne_of_lt (blk_lt (g := gb538) (o := .cells #[.int .i64 x539000_1, .int .i64 x539001_1] 25 (0, 0)) (by (with_reducible repeat (first | refine blk_drewN ?_ _ | refine blk_drew ?_ | refine blk_alloc ?_ _)); exact BK538.out)) : gb538 ≠ gb543)); have n13_ := Aside0.mk ((by rw [hg]; exact Nat.ne_of_gt (blk_lt (g := gb538) (o := .cells #[.int .i64 x539000_1, .int .i64 x539001_1] 25 (0, 0)) (by (with_reducible repeat (first | refine blk_drewN ?_ _ | refine blk_drew ?_ | refine blk_alloc ?_ _)); exact BK538.out)) : gb543 ≠ gb538)); have n14_ := Aside0.mk ((by rw [hg]; exact Nat.ne_of_lt (blk_lt (g := gb540) (o := .cells #[.int .i64 ((rd_T57 l1 x14_1).f0), .int .i64 ((rd_T57 l1 x14_1).f1), .int .i64 ((rd_T57 l1 x14_1).f2), .int .i64 ((rd_T57 l1 x14_1).f3)] 57 (0, 0)) (by (with_reducible repeat (first | refine blk_drewN ?_ _ | refine blk_drew ?_ | refine blk_alloc ?_ _)); exact BK540.out)) : gb540 ≠ gb543)); have n15_ := Aside0.mk ((by rw [hg]; exact Nat.ne_of_gt (blk_lt (g := gb540) (o := .cells #[.int .i64 ((rd_T57 l1 x14_1).f0), .int .i64 ((rd_T57 l1 x14_1).f1), .int .i64 ((rd_T57 l1 x14_1).f2), .int .i64 ((rd_T57 l1 x14_1).f3)] 57 (0, 0)) (by (with_reducible repeat (first | refine blk_drewN ?_ _ | refine blk_drew ?_ | refine blk_alloc ?_ _)); exact BK540.out)) : gb543 ≠ gb540)); clear BK536; clear BK537; clear BK538; clear BK540; clear HB; have BK536 := n0_; have BK537 := n1_; have BK538 := n2_; have BK540 := n3_; have HB := n4_; have BK543 := n5_; have GW543 := n6_; have GE543 := n7_; have NB536_543 := n8_; have NB543_536 := n9_; have NB537_543 := n10_; have NB543_537 := n11_; have NB538_543 := n12_; have NB543_538 := n13_; have NB540_543 := n14_; have NB543_540 := n15_; clear n0_ n1_ n2_ n3_ n4_ n5_ n6_ n7_ n8_ n9_ n10_ n11_ n12_ n13_ n14_ n15_; clear hb hbox hg; have hnb70 := NB543_536.out; have hnc70 := NB536_543.out; have hnb71 := NB543_537.out; have hnc71 := NB537_543.out; have hnb72 := NB543_538.out; have hnc72 := NB538_543.out; have hnb73 := NB543_540.out; have hnc73 := NB540_543.out; have hcz74_0 : w69.cell? ⟨gb543, 0, none⟩ = some (.int .i64 0) := (blk_cell BK543.out 0).trans rfl; have hcz74_1 : w69.cell? ⟨gb543, 1, none⟩ = some (.int .i64 0) := (blk_cell BK543.out 1).trans rfl; have hfz74_0 := blk_frozen BK543.out 0; have hfz74_1 := blk_frozen BK543.out 1))
         have n0_ : Aside0 (((w69.setCell ⟨gb543, 0, none⟩ (.int .i64 t541)).setCell ⟨gb543, 1, none⟩ (.int .i64 t542)).heap[gb536]? = some (.cells #[.int .i64 a0_0, .int .i64 a0_1, .int .i64 a0_2, .int .i64 a0_3, .int .i64 a0_4, .int .i64 a0_5, .int .i64 a0_6, .int .i64 a0_7, .int .i64 a0_8, .int .i64 a0_9, .int .i64 a0_10, .int .i64 a0_11] 23 (0, 0))) := ⟨by (with_reducible repeat (first | refine blk_drewN ?_ _ | refine blk_drew ?_ | refine blk_alloc ?_ _)); refine blk_far ?_ NB536_543.out _; (with_reducible repeat (first | refine blk_drewN ?_ _ | refine blk_drew ?_ | refine blk_alloc ?_ _)); refine blk_far ?_ NB536_543.out _; (with_reducible repeat (first | refine blk_drewN ?_ _ | refine blk_drew ?_ | refine blk_alloc ?_ _)); exact BK536.out⟩
         have n1_ : Aside0 (((w69.setCell ⟨gb543, 0, none⟩ (.int .i64 t541)).setCell ⟨gb543, 1, none⟩ (.int .i64 t542)).heap[gb537]? = some (.cells #[.int .i64 0, .int .i64 0] 25 (0, 0))) := ⟨by (with_reducible repeat (first | refine blk_drewN ?_ _ | refine blk_drew ?_ | refine blk_alloc ?_ _)); refine blk_far ?_ NB537_543.out _; (with_reducible repeat (first | refine blk_drewN ?_ _ | refine blk_drew ?_ | refine blk_alloc ?_ _)); refine blk_far ?_ NB537_543.out _; (with_reducible repeat (first | refine blk_drewN ?_ _ | refine blk_drew ?_ | refine blk_alloc ?_ _)); exact BK537.out⟩
         have n2_ : Aside0 (((w69.setCell ⟨gb543, 0, none⟩ (.int .i64 t541)).setCell ⟨gb543, 1, none⟩ (.int .i64 t542)).heap[gb538]? = some (.cells #[.int .i64 x539000_1, .int .i64 x539001_1] 25 (0, 0))) := ⟨by (with_reducible repeat (first | refine blk_drewN ?_ _ | refine blk_drew ?_ | refine blk_alloc ?_ _)); refine blk_far ?_ NB538_543.out _; (with_reducible repeat (first | refine blk_drewN ?_ _ | refine blk_drew ?_ | refine blk_alloc ?_ _)); refine blk_far ?_ NB538_543.out _; (with_reducible repeat (first | refine blk_drewN ?_ _ | refine blk_drew ?_ | refine blk_alloc ?_ _)); exact BK538.out⟩
         have n3_ : Aside0 (((w69.setCell ⟨gb543, 0, none⟩ (.int .i64 t541)).setCell ⟨gb543, 1, none⟩ (.int .i64 t542)).heap[gb540]? = some (.cells #[.int .i64 ((rd_T57 l1 x14_1).f0), .int .i64 ((rd_T57 l1 x14_1).f1), .int .i64 ((rd_T57 l1 x14_1).f2), .int .i64 ((rd_T57 l1 x14_1).f3)] 57 (0, 0))) := ⟨by (with_reducible repeat (first | refine blk_drewN ?_ _ | refine blk_drew ?_ | refine blk_alloc ?_ _)); refine blk_far ?_ NB540_543.out _; (with_reducible repeat (first | refine blk_drewN ?_ _ | refine blk_drew ?_ | refine blk_alloc ?_ _)); refine blk_far ?_ NB540_543.out _; (with_reducible repeat (first | refine blk_drewN ?_ _ | refine blk_drew ?_ | refine blk_alloc ?_ _)); exact BK540.out⟩
         have n4_ : Aside0 (((w69.setCell ⟨gb543, 0, none⟩ (.int .i64 t541)).setCell ⟨gb543, 1, none⟩ (.int .i64 t542)).heap[gb543]? = some (.cells #[.int .i64 t541, .int .i64 t542] 25 (0, 0))) := ⟨by (with_reducible repeat (first | refine blk_drewN ?_ _ | refine blk_drew ?_ | refine blk_alloc ?_ _)); refine blk_put (cs := #[.int .i64 t541, .int .i64 0]) ?_ 1 _ rfl; (with_reducible repeat (first | refine blk_drewN ?_ _ | refine blk_drew ?_ | refine blk_alloc ?_ _)); refine blk_put (cs := #[.int .i64 0, .int .i64 0]) ?_ 0 _ rfl; (with_reducible repeat (first | refine blk_drewN ?_ _ | refine blk_drew ?_ | refine blk_alloc ?_ _)); exact BK543.out⟩
         have n5_ : Aside0 (Below w.heap.size w ((w69.setCell ⟨gb543, 0, none⟩ (.int .i64 t541)).setCell ⟨gb543, 1, none⟩ (.int .i64 t542))) := ⟨by repeat (first | (with_reducible first | exact HB.out | apply below_alloc | apply pw_below_drewN | apply below_drew1 | refine below_set ?_ GE536.out | refine below_set ?_ GE537.out | refine below_set ?_ GE538.out | refine below_set ?_ GE540.out | refine below_set ?_ GE543.out) | exact HB.out)⟩
         (try clear BK536)
         (try clear BK537)
         (try clear BK538)
         (try clear BK540)
         (try clear BK543)
         (try clear HB)
         generalize ((w69.setCell ⟨gb543, 0, none⟩ (.int .i64 t541)).setCell ⟨gb543, 1, none⟩ (.int .i64 t542)) = w75 at n0_ n1_ n2_ n3_ n4_ n5_ ⊢
         have BK536 := n0_
         have BK537 := n1_
         have BK538 := n2_
         have BK540 := n3_
         have BK543 := n4_
         have HB := n5_
         clear n0_ n1_ n2_ n3_ n4_ n5_
         have n0_ := Aside0.mk (blk_drew BK536.out)
         have n1_ := Aside0.mk (blk_drew BK537.out)
         have n2_ := Aside0.mk (blk_drew BK538.out)
         have n3_ := Aside0.mk (blk_drew BK540.out)
         have n4_ := Aside0.mk (blk_drew BK543.out)
         have n5_ := Aside0.mk (below_drew1 HB.out)
         clear BK536
         clear BK537
         clear BK538
         clear BK540
         clear BK543
         clear HB
         have BK536 := n0_
         have BK537 := n1_
         have BK538 := n2_
         have BK540 := n3_
         have BK543 := n4_
         have HB := n5_
         clear n0_ n1_ n2_ n3_ n4_ n5_
         refine start_ (n := 14) (S := fun w' => w'.cell? ⟨gb543, 0, none⟩ = some (.int .i64 t541) ∧ w'.cell? ⟨gb543, 1, none⟩ = some (.int .i64 t542) ∧ w'.cell? ⟨gb538, 0, none⟩ = some (.int .i64 x539000_1) ∧ w'.cell? ⟨gb538, 1, none⟩ = some (.int .i64 x539001_1)) (ds := []) #[false, false, false, false, false, false, false, false, false, false, false, false, false, false] (by kernel_rfl) rfl rfl ⟨(blk_cell BK543.out 0).trans rfl, (blk_cell BK543.out 1).trans rfl, (blk_cell BK538.out 0).trans rfl, (blk_cell BK538.out 1).trans rfl⟩ (fun hHeld => ?_); refine with_tabW probe_Best.tab6 probe_Best.bits6 (fun HT_ HW_ => ?_)
         generalize w75.drew = w76 at BK536 BK537 BK538 BK540 BK543 HB hHeld ⊢
         refine take_ (i := 0) (N := some 21) (v := ?_) (a' := ?_) #[true, false, false, false, false, false, false, false, false, false, false, false, false, false] rfl rfl (take_ofW HT_.out HW_.out (by kernel_rfl)) (fun _ _ _ h => h) (Or.inl ⟨by rfl, ?_⟩) hHeld ?_ ?_
         rotate_left
         ·rintro w' ⟨s0, s1, s2, s3⟩
          go_simp
          with_reducible rfl
         rotate_left
         ·simp only [Act.put, List.setIfInBounds_toArray, List.set_cons_zero, List.set_cons_succ, i64_w, i32_w]
          rfl
         refine one_ (i := 1) (N := some 22) #[true, true, false, false, false, false, false, false, false, false, false, false, false, false] rfl rfl (one_of HT_.out (by kernel_rfl)) (by decide) (fun K hK => ?_)
         refine goes_ Try.func56 (by kernel_rfl) rfl #[.agg #[.int .i64 t541, .int .i64 t542]] (by rfl) rfl rfl (by (try simp only [List.map_toArray, List.map_cons, List.map_nil]); first | done | rfl | (simp only [List.length_drop, List.length_take]; rfl)) ?_
         with_reducible refine (span_Empty.calls t541 t542 false _ A13.out).mono ?_
         rintro e w77 ⟨rfl, hb⟩
         refine ⟨_, rfl, ?_⟩
         have n0_ := Aside0.mk (blk_below (g := gb536) (o := .cells #[.int .i64 a0_0, .int .i64 a0_1, .int .i64 a0_2, .int .i64 a0_3, .int .i64 a0_4, .int .i64 a0_5, .int .i64 a0_6, .int .i64 a0_7, .int .i64 a0_8, .int .i64 a0_9, .int .i64 a0_10, .int .i64 a0_11] 23 (0, 0)) (by (with_reducible repeat (first | refine blk_drewN ?_ _ | refine blk_drew ?_ | refine blk_alloc ?_ _)); exact BK536.out) hb)
         have n1_ := Aside0.mk (blk_below (g := gb537) (o := .cells #[.int .i64 0, .int .i64 0] 25 (0, 0)) (by (with_reducible repeat (first | refine blk_drewN ?_ _ | refine blk_drew ?_ | refine blk_alloc ?_ _)); exact BK537.out) hb)
         have n2_ := Aside0.mk (blk_below (g := gb538) (o := .cells #[.int .i64 x539000_1, .int .i64 x539001_1] 25 (0, 0)) (by (with_reducible repeat (first | refine blk_drewN ?_ _ | refine blk_drew ?_ | refine blk_alloc ?_ _)); exact BK538.out) hb)
         have n3_ := Aside0.mk (blk_below (g := gb540) (o := .cells #[.int .i64 ((rd_T57 l1 x14_1).f0), .int .i64 ((rd_T57 l1 x14_1).f1), .int .i64 ((rd_T57 l1 x14_1).f2), .int .i64 ((rd_T57 l1 x14_1).f3)] 57 (0, 0)) (by (with_reducible repeat (first | refine blk_drewN ?_ _ | refine blk_drew ?_ | refine blk_alloc ?_ _)); exact BK540.out) hb)
         have n4_ := Aside0.mk (blk_below (g := gb543) (o := .cells #[.int .i64 t541, .int .i64 t542] 25 (0, 0)) (by (with_reducible repeat (first | refine blk_drewN ?_ _ | refine blk_drew ?_ | refine blk_alloc ?_ _)); exact BK543.out) hb)
         have n5_ := Aside0.mk (below_step (by repeat (first | (with_reducible first | exact HB.out | apply below_alloc | apply pw_below_drewN | apply below_drew1 | refine below_set ?_ GE536.out | refine below_set ?_ GE537.out | refine below_set ?_ GE538.out | refine below_set ?_ GE540.out | refine below_set ?_ GE543.out) | exact HB.out)) hb)
         clear BK536
         clear BK537
         clear BK538
         clear BK540
         clear BK543
         clear HB
         have BK536 := n0_
         have BK537 := n1_
         have BK538 := n2_
         have BK540 := n3_
         have BK543 := n4_
         have HB := n5_
         clear n0_ n1_ n2_ n3_ n4_ n5_
         (try clear hb)
         (try clear hb2)
         (try clear hk)
         (try clear hi)
         refine hK.out _ _ ⟨(blk_cell BK543.out 0).trans rfl, (blk_cell BK543.out 1).trans rfl, (blk_cell BK538.out 0).trans rfl, (blk_cell BK538.out 1).trans rfl⟩ (fun hHeld => ?_)
         clear hK K
         refine norm_ (a' := ?_) ?_ ?_
         rotate_left
         ·show Act.put _ (some 22) _ = _
          simp only [Act.put, List.setIfInBounds_toArray, List.set_cons_zero, List.set_cons_succ, i64_w, i32_w]
          rfl
         refine pure_ (i := 2) (N := some 23) (v := ?_) (a' := ?_) #[true, true, true, false, false, false, false, false, false, false, false, false, false, false] rfl rfl (any_of HT_.out (by kernel_rfl)) (fun _ _ _ h => h) (Or.inl ⟨by rfl, ?_⟩) ?_ ?_
         rotate_left
         ·intro w'
          go_simp
          with_reducible rfl
         rotate_left
         ·simp only [Act.put, List.setIfInBounds_toArray, List.set_cons_zero, List.set_cons_succ, i64_w, i32_w]
          rfl
         refine pure_ (i := 3) (N := some 24) (v := ?_) (a' := ?_) #[true, true, true, true, false, false, false, false, false, false, false, false, false, false] rfl rfl (any_of HT_.out (by kernel_rfl)) (fun _ _ _ h => h) (Or.inl ⟨by rfl, ?_⟩) ?_ ?_
         rotate_left
         ·intro w'
          go_simp
          with_reducible rfl
         rotate_left
         ·simp only [Act.put, List.setIfInBounds_toArray, List.set_cons_zero, List.set_cons_succ, i64_w, i32_w]
          rfl
         refine pure_ (i := 4) (N := some 25) (v := ?_) (a' := ?_) #[true, true, true, true, true, false, false, false, false, false, false, false, false, false] rfl rfl (any_of HT_.out (by kernel_rfl)) (fun _ _ _ h => h) (Or.inl ⟨by rfl, ?_⟩) ?_ ?_
         rotate_left
         ·intro w'
          go_simp
          with_reducible rfl
         rotate_left
         ·simp only [Act.put, List.setIfInBounds_toArray, List.set_cons_zero, List.set_cons_succ, i64_w, i32_w]
          rfl
         refine pure_ (i := 5) (N := some 26) (v := ?_) (a' := ?_) #[true, true, true, true, true, true, false, false, false, false, false, false, false, false] rfl rfl (any_of HT_.out (by kernel_rfl)) (fun _ _ _ h => h) (Or.inl ⟨by rfl, ?_⟩) ?_ ?_
         rotate_left
         ·intro w'
          go_simp
          with_reducible rfl
         rotate_left
         ·simp only [Act.put, List.setIfInBounds_toArray, List.set_cons_zero, List.set_cons_succ, i64_w, i32_w]
          rfl
         refine pure_ (i := 6) (N := some 27) (v := ?_) (a' := ?_) #[true, true, true, true, true, true, true, false, false, false, false, false, false, false] rfl rfl (any_of HT_.out (by kernel_rfl)) (fun _ _ _ h => h) (Or.inl ⟨by rfl, ?_⟩) ?_ ?_
         rotate_left
         ·intro w'
          go_simp
          with_reducible rfl
         rotate_left
         ·simp only [Act.put, List.setIfInBounds_toArray, List.set_cons_zero, List.set_cons_succ, i64_w, i32_w]
          rfl
         refine take_ (i := 7) (N := some 28) (v := ?_) (a' := ?_) #[true, true, true, true, true, true, true, true, false, false, false, false, false, false] rfl rfl (take_ofW HT_.out HW_.out (by kernel_rfl)) (fun _ _ _ h => h) (Or.inl ⟨by rfl, ?_⟩) hHeld ?_ ?_
         rotate_left
         ·rintro w' ⟨s0, s1, s2, s3⟩
          go_simp
          with_reducible rfl
         rotate_left
         ·simp only [Act.put, List.setIfInBounds_toArray, List.set_cons_zero, List.set_cons_succ, i64_w, i32_w]
          rfl
         refine take_ (i := 9) (N := some 30) (v := ?_) (a' := ?_) #[true, true, true, true, true, true, true, true, false, true, false, false, false, false] rfl rfl (take_ofW HT_.out HW_.out (by kernel_rfl)) (fun _ _ _ h => h) (Or.inl ⟨by rfl, ?_⟩) hHeld ?_ ?_
         rotate_left
         ·rintro w' ⟨s0, s1, s2, s3⟩
          go_simp
          with_reducible rfl
         rotate_left
         ·simp only [Act.put, List.setIfInBounds_toArray, List.set_cons_zero, List.set_cons_succ, i64_w, i32_w]
          rfl
         refine one_ (i := 8) (N := some 29) #[true, true, true, true, true, true, true, true, true, true, false, false, false, false] rfl rfl (one_of HT_.out (by kernel_rfl)) (by decide) (fun K hK => ?_)
         refine goes_ Try.func57 (by kernel_rfl) rfl #[.agg #[.int .i64 t541, .int .i64 t542]] (by rfl) rfl rfl (by (try simp only [List.map_toArray, List.map_cons, List.map_nil]); first | done | rfl | (simp only [List.length_drop, List.length_take]; rfl)) ?_
         with_reducible refine (span_Wide.calls k1 t541 t542 t545 _ A34.out).mono ?_
         rintro e w78 ⟨rfl, hb⟩
         refine ⟨_, rfl, ?_⟩
         have n0_ := Aside0.mk (blk_below (g := gb536) (o := .cells #[.int .i64 a0_0, .int .i64 a0_1, .int .i64 a0_2, .int .i64 a0_3, .int .i64 a0_4, .int .i64 a0_5, .int .i64 a0_6, .int .i64 a0_7, .int .i64 a0_8, .int .i64 a0_9, .int .i64 a0_10, .int .i64 a0_11] 23 (0, 0)) (by (with_reducible repeat (first | refine blk_drewN ?_ _ | refine blk_drew ?_ | refine blk_alloc ?_ _)); exact BK536.out) hb)
         have n1_ := Aside0.mk (blk_below (g := gb537) (o := .cells #[.int .i64 0, .int .i64 0] 25 (0, 0)) (by (with_reducible repeat (first | refine blk_drewN ?_ _ | refine blk_drew ?_ | refine blk_alloc ?_ _)); exact BK537.out) hb)
         have n2_ := Aside0.mk (blk_below (g := gb538) (o := .cells #[.int .i64 x539000_1, .int .i64 x539001_1] 25 (0, 0)) (by (with_reducible repeat (first | refine blk_drewN ?_ _ | refine blk_drew ?_ | refine blk_alloc ?_ _)); exact BK538.out) hb)
         have n3_ := Aside0.mk (blk_below (g := gb540) (o := .cells #[.int .i64 ((rd_T57 l1 x14_1).f0), .int .i64 ((rd_T57 l1 x14_1).f1), .int .i64 ((rd_T57 l1 x14_1).f2), .int .i64 ((rd_T57 l1 x14_1).f3)] 57 (0, 0)) (by (with_reducible repeat (first | refine blk_drewN ?_ _ | refine blk_drew ?_ | refine blk_alloc ?_ _)); exact BK540.out) hb)
         have n4_ := Aside0.mk (blk_below (g := gb543) (o := .cells #[.int .i64 t541, .int .i64 t542] 25 (0, 0)) (by (with_reducible repeat (first | refine blk_drewN ?_ _ | refine blk_drew ?_ | refine blk_alloc ?_ _)); exact BK543.out) hb)
         have n5_ := Aside0.mk (below_step (by repeat (first | (with_reducible first | exact HB.out | apply below_alloc | apply pw_below_drewN | apply below_drew1 | refine below_set ?_ GE536.out | refine below_set ?_ GE537.out | refine below_set ?_ GE538.out | refine below_set ?_ GE540.out | refine below_set ?_ GE543.out) | exact HB.out)) hb)
         clear BK536
         clear BK537
         clear BK538
         clear BK540
         clear BK543
         clear HB
         have BK536 := n0_
         have BK537 := n1_
         have BK538 := n2_
         have BK540 := n3_
         have BK543 := n4_
         have HB := n5_
         clear n0_ n1_ n2_ n3_ n4_ n5_
         (try clear hb)
         (try clear hb2)
         (try clear hk)
         (try clear hi)
         refine hK.out _ _ ⟨(blk_cell BK543.out 0).trans rfl, (blk_cell BK543.out 1).trans rfl, (blk_cell BK538.out 0).trans rfl, (blk_cell BK538.out 1).trans rfl⟩ (fun hHeld => ?_)
         clear hK K
         refine norm_ (a' := ?_) ?_ ?_
         rotate_left
         ·show Act.put _ (some 29) _ = _
          simp only [Act.put, List.setIfInBounds_toArray, List.set_cons_zero, List.set_cons_succ, i64_w, i32_w]
          rfl
         refine one_ (i := 10) (N := some 31) #[true, true, true, true, true, true, true, true, true, true, true, false, false, false] rfl rfl (one_of HT_.out (by kernel_rfl)) (by decide) (fun K hK => ?_)
         refine goes_ Try.func57 (by kernel_rfl) rfl #[.agg #[.int .i64 x539000_1, .int .i64 x539001_1]] (by rfl) rfl rfl (by (try simp only [List.map_toArray, List.map_cons, List.map_nil]); first | done | rfl | (simp only [List.length_drop, List.length_take]; rfl)) ?_
         with_reducible refine (span_Wide.calls k1 x539000_1 x539001_1 t546 _ A35.out).mono ?_
         rintro e w79 ⟨rfl, hb⟩
         refine ⟨_, rfl, ?_⟩
         have n0_ := Aside0.mk (blk_below (g := gb536) (o := .cells #[.int .i64 a0_0, .int .i64 a0_1, .int .i64 a0_2, .int .i64 a0_3, .int .i64 a0_4, .int .i64 a0_5, .int .i64 a0_6, .int .i64 a0_7, .int .i64 a0_8, .int .i64 a0_9, .int .i64 a0_10, .int .i64 a0_11] 23 (0, 0)) (by (with_reducible repeat (first | refine blk_drewN ?_ _ | refine blk_drew ?_ | refine blk_alloc ?_ _)); exact BK536.out) hb)
         have n1_ := Aside0.mk (blk_below (g := gb537) (o := .cells #[.int .i64 0, .int .i64 0] 25 (0, 0)) (by (with_reducible repeat (first | refine blk_drewN ?_ _ | refine blk_drew ?_ | refine blk_alloc ?_ _)); exact BK537.out) hb)
         have n2_ := Aside0.mk (blk_below (g := gb538) (o := .cells #[.int .i64 x539000_1, .int .i64 x539001_1] 25 (0, 0)) (by (with_reducible repeat (first | refine blk_drewN ?_ _ | refine blk_drew ?_ | refine blk_alloc ?_ _)); exact BK538.out) hb)
         have n3_ := Aside0.mk (blk_below (g := gb540) (o := .cells #[.int .i64 ((rd_T57 l1 x14_1).f0), .int .i64 ((rd_T57 l1 x14_1).f1), .int .i64 ((rd_T57 l1 x14_1).f2), .int .i64 ((rd_T57 l1 x14_1).f3)] 57 (0, 0)) (by (with_reducible repeat (first | refine blk_drewN ?_ _ | refine blk_drew ?_ | refine blk_alloc ?_ _)); exact BK540.out) hb)
         have n4_ := Aside0.mk (blk_below (g := gb543) (o := .cells #[.int .i64 t541, .int .i64 t542] 25 (0, 0)) (by (with_reducible repeat (first | refine blk_drewN ?_ _ | refine blk_drew ?_ | refine blk_alloc ?_ _)); exact BK543.out) hb)
         have n5_ := Aside0.mk (below_step (by repeat (first | (with_reducible first | exact HB.out | apply below_alloc | apply pw_below_drewN | apply below_drew1 | refine below_set ?_ GE536.out | refine below_set ?_ GE537.out | refine below_set ?_ GE538.out | refine below_set ?_ GE540.out | refine below_set ?_ GE543.out) | exact HB.out)) hb)
         clear BK536
         clear BK537
         clear BK538
         clear BK540
         clear BK543
         clear HB
         have BK536 := n0_
         have BK537 := n1_
         have BK538 := n2_
         have BK540 := n3_
         have BK543 := n4_
         have HB := n5_
         clear n0_ n1_ n2_ n3_ n4_ n5_
         (try clear hb)
         (try clear hb2)
         (try clear hk)
         (try clear hi)
         refine hK.out _ _ ⟨(blk_cell BK543.out 0).trans rfl, (blk_cell BK543.out 1).trans rfl, (blk_cell BK538.out 0).trans rfl, (blk_cell BK538.out 1).trans rfl⟩ (fun hHeld => ?_)
         clear hK K
         refine norm_ (a' := ?_) ?_ ?_
         rotate_left
         ·show Act.put _ (some 31) _ = _
          simp only [Act.put, List.setIfInBounds_toArray, List.set_cons_zero, List.set_cons_succ, i64_w, i32_w]
          rfl
         refine pure_ (i := 11) (N := some 32) (v := ?_) (a' := ?_) #[true, true, true, true, true, true, true, true, true, true, true, true, false, false] rfl rfl (any_of HT_.out (by kernel_rfl)) (fun _ _ _ h => h) (Or.inl ⟨by rfl, ?_⟩) ?_ ?_
         rotate_left
         ·intro w'
          go_simp
          with_reducible rfl
         rotate_left
         ·simp only [Act.put, List.setIfInBounds_toArray, List.set_cons_zero, List.set_cons_succ, i64_w, i32_w]
          rfl
         refine pure_ (i := 12) (N := some 33) (v := ?_) (a' := ?_) #[true, true, true, true, true, true, true, true, true, true, true, true, true, false] rfl rfl (any_of HT_.out (by kernel_rfl)) (fun _ _ _ h => h) (Or.inl ⟨by rfl, ?_⟩) ?_ ?_
         rotate_left
         ·intro w'
          go_simp
          with_reducible rfl
         rotate_left
         ·simp only [Act.put, List.setIfInBounds_toArray, List.set_cons_zero, List.set_cons_succ, i64_w, i32_w]
          rfl
         refine pure_ (i := 13) (N := some 34) (v := ?_) (a' := ?_) #[true, true, true, true, true, true, true, true, true, true, true, true, true, true] rfl rfl (any_of HT_.out (by kernel_rfl)) (fun _ _ _ h => h) (Or.inl ⟨by rfl, ?_⟩) ?_ ?_
         rotate_left
         ·intro w'
          go_simp
          with_reducible rfl
         rotate_left
         ·simp only [Act.put, List.setIfInBounds_toArray, List.set_cons_zero, List.set_cons_succ, i64_w, i32_w]
          rfl
         refine done_ (done_of HT_.out (by kernel_rfl)) ?_
         try go_wp2
         go_roundg k1
         case measure => have := HK1.out; omega
         case rel => exact ⟨(true), (wrap64 (x14_1 + 1)), (x539000_1), (x539001_1), (by first | rfl | (simp; done) | (simp [*]; done) | (simp [Int.tdiv_eq_ediv_of_nonneg]; done) | (simp [Go.RowKit.wrap64]; done) | (simp [*, Go.RowKit.wrap64]; done)), (by first | rfl | (simp; done) | (simp [*]; done) | (simp [Int.tdiv_eq_ediv_of_nonneg]; done) | (simp [Go.RowKit.wrap64]; done) | (simp [*, Go.RowKit.wrap64]; done)), H', ⟨by have := HK1.out; omega⟩, ⟨by (with_reducible repeat (first | refine blk_drewN ?_ _ | refine blk_drew ?_ | refine blk_alloc ?_ _)); exact BK536.out⟩, ⟨by (with_reducible repeat (first | refine blk_drewN ?_ _ | refine blk_drew ?_ | refine blk_alloc ?_ _)); exact BK537.out⟩, ⟨by (with_reducible repeat (first | refine blk_drewN ?_ _ | refine blk_drew ?_ | refine blk_alloc ?_ _)); exact BK538.out⟩, ⟨by repeat (first | (with_reducible first | exact HB.out | apply below_alloc | apply pw_below_drewN | apply below_drew1 | refine below_set ?_ GE536.out | refine below_set ?_ GE537.out | refine below_set ?_ GE538.out | refine below_set ?_ GE540.out | refine below_set ?_ GE543.out) | exact HB.out)⟩⟩
       ·replace c33 := Bool.eq_false_iff.mpr c33
        subst c33
        have H1 : (probe_Best.l0 k1 true l1 (l1.length : Int) (wrap64 (x14_1 + 1)) a0_0 a0_1 a0_2 a0_3 a0_4 a0_5 a0_6 a0_7 a0_8 a0_9 a0_10 a0_11 t541 t542) = some (r1, r2, r3) := by rw [if_neg (show ¬ (false = true) by decide)] at H; exact H
        clear H
        have H := H1
        clear H1
        have H' := Aside0.mk H
        clear H
        have p539 : 0 ≤ (x14_1 : Int) := of_decide_eq_true (by first | (with_reducible assumption) | assumption)
        have q539 : x14_1 < (l1.length : Int) := of_decide_eq_true (by first | (with_reducible assumption) | assumption)
        obtain ⟨ad539, e539, hx539_0, hx539_1, hx539_2, hx539_3⟩ := at_T57 HR1.out x14_1 p539 q539
        cases e539
        replace hx539_0 := (HB.out.cell (World.block_lt_of_cell? w _ hx539_0)).trans hx539_0
        replace hx539_1 := (HB.out.cell (World.block_lt_of_cell? w _ hx539_1)).trans hx539_1
        replace hx539_2 := (HB.out.cell (World.block_lt_of_cell? w _ hx539_2)).trans hx539_2
        replace hx539_3 := (HB.out.cell (World.block_lt_of_cell? w _ hx539_3)).trans hx539_3
        replace p539 := eq_true p539
        replace q539 := eq_true q539
        try go_wp2_with (first | ((with_reducible refine gate_dst (N := 9) rfl ?_); refine box_event ?hg (N := 9) ?hd (cs := #[.int .i64 0, .int .i64 0, .int .i64 0, .int .i64 0]) (t := 57) ?hr ?_; (case hd => rfl); (case hg => rfl); (case hr => first | (go_simp; done) | (go_simp; rfl)); intro gb540 hg w80 hbox hb; have n0_ := Aside0.mk (blk_below (g := gb536) (o := .cells #[.int .i64 a0_0, .int .i64 a0_1, .int .i64 a0_2, .int .i64 a0_3, .int .i64 a0_4, .int .i64 a0_5, .int .i64 a0_6, .int .i64 a0_7, .int .i64 a0_8, .int .i64 a0_9, .int .i64 a0_10, .int .i64 a0_11] 23 (0, 0)) (by (with_reducible repeat (first | refine blk_drewN ?_ _ | refine blk_drew ?_ | refine blk_alloc ?_ _)); exact BK536.out) hb); have n1_ := Aside0.mk (blk_below (g := gb537) (o := .cells #[.int .i64 0, .int .i64 0] 25 (0, 0)) (by (with_reducible repeat (first | refine blk_drewN ?_ _ | refine blk_drew ?_ | refine blk_alloc ?_ _)); exact BK537.out) hb); have n2_ := Aside0.mk (blk_below (g := gb538) (o := .cells #[.int .i64 x539000_1, .int .i64 x539001_1] 25 (0, 0)) (by (with_reducible repeat (first | refine blk_drewN ?_ _ | refine blk_drew ?_ | refine blk_alloc ?_ _)); exact BK538.out) hb); have n3_ := Aside0.mk (below_step (by repeat (first | (with_reducible first | exact HB.out | apply below_alloc | apply pw_below_drewN | apply below_drew1 | refine below_set ?_ GE536.out | refine below_set ?_ GE537.out | refine below_set ?_ GE538.out) | exact HB.out)) hb); have n4_ := Aside0.mk (hbox); have n5_ := Aside0.mk ((by rw [hg]; exact (below_size (by repeat (first | (with_reducible first | exact HB.out | apply below_alloc | apply pw_below_drewN | apply below_drew1 | refine below_set ?_ GE536.out | refine below_set ?_ GE537.out | refine below_set ?_ GE538.out) | exact HB.out))) : w.heap.size ≤ gb540)); have n6_ := Aside0.mk ((by rw [hg]; exact (below_size (by repeat (first | (with_reducible first | exact HB.out | apply below_alloc | apply pw_below_drewN | apply below_drew1 | refine below_set ?_ GE536.out | refine below_set ?_ GE537.out | refine below_set ?_ GE538.out) | exact HB.out))) : w.heap.size ≤ gb540)); have n7_ := Aside0.mk ((by rw [hg]; exact Nat.ne_of_lt (blk_lt (g := gb536) (o := .cells #[.int .i64 a0_0, .int .i64 a0_1, .int .i64 a0_2, .int .i64 a0_3, .int .i64 a0_4, .int .i64 a0_5, .int .i64 a0_6, .int .i64 a0_7, .int .i64 a0_8, .int .i64 a0_9, .int .i64 a0_10, .int .i64 a0_11] 23 (0, 0)) (by (with_reducible repeat (first | refine blk_drewN ?_ _ | refine blk_drew ?_ | refine blk_alloc ?_ _)); exact BK536.out)) : gb536 ≠ gb540)); have n8_ := Aside0.mk ((by rw [hg]; exact Nat.ne_of_gt (blk_lt (g := gb536) (o := .cells #[.int .i64 a0_0, .int .i64 a0_1, .int .i64 a0_2, .int .i64 a0_3, .int .i64 a0_4, .int .i64 a0_5, .int .i64 a0_6, .int .i64 a0_7, .int .i64 a0_8, .int .i64 a0_9, .int .i64 a0_10, .int .i64 a0_11] 23 (0, 0)) (by (with_reducible repeat (first | refine blk_drewN ?_ _ | refine blk_drew ?_ | refine blk_alloc ?_ _)); exact BK536.out)) : gb540 ≠ gb536)); have n9_ := Aside0.mk ((by rw [hg]; exact Nat.ne_of_lt (blk_lt (g := gb537) (o := .cells #[.int .i64 0, .int .i64 0] 25 (0, 0)) (by (with_reducible repeat (first | refine blk_drewN ?_ _ | refine blk_drew ?_ | refine blk_alloc ?_ _)); exact BK537.out)) : gb537 ≠ gb540)); have n10_ := Aside0.mk ((by rw [hg]; exact Nat.ne_of_gt (blk_lt (g := gb537) (o := .cells #[.int .i64 0, .int .i64 0] 25 (0, 0)) (by (with_reducible repeat (first | refine blk_drewN ?_ _ | refine blk_drew ?_ | refine blk_alloc ?_ _)); exact BK537.out)) : gb540 ≠ gb537)); have n11_ := Aside0.mk ((by rw [hg]; exact Nat.ne_of_lt (blk_lt (g := gb538) (o := .cells #[.int .i64 x539000_1, .int .i64 x539001_1] 25 (0, 0)) (by (with_reducible repeat (first | refine blk_drewN ?_ _ | refine blk_drew ?_ | refine blk_alloc ?_ _)); exact BK538.out)) : gb538 ≠ gb540)); have n12_ := Aside0.mk ((by rw [hg]; exact Nat.ne_of_gt (blk_lt (g := gb538) (o := .cells #[.int .i64 x539000_1, .int .i64 x539001_1] 25 (0, 0)) (by (with_reducible repeat (first | refine blk_drewN ?_ _ | refine blk_drew ?_ | refine blk_alloc ?_ _)); exact BK538.out)) : gb540 ≠ gb538)); clear BK536; clear BK537; clear BK538; clear HB; have BK536 := n0_; have BK537 := n1_; have BK538 := n2_; have HB := n3_; have BK540 := n4_; have GW540 := n5_; have GE540 := n6_; have NB536_540 := n7_; have NB540_536 := n8_; have NB537_540 := n9_; have NB540_537 := n10_; have NB538_540 := n11_; have NB540_538 := n12_; clear n0_ n1_ n2_ n3_ n4_ n5_ n6_ n7_ n8_ n9_ n10_ n11_ n12_; clear hb hbox hg; have hnb81 := NB540_536.out; have hnc81 := NB536_540.out; have hnb82 := NB540_537.out; have hnc82 := NB537_540.out; have hnb83 := NB540_538.out; have hnc83 := NB538_540.out; have hcz84_0 : w80.cell? ⟨gb540, 0, none⟩ = some (.int .i64 0) := (blk_cell BK540.out 0).trans rfl; have hcz84_1 : w80.cell? ⟨gb540, 1, none⟩ = some (.int .i64 0) := (blk_cell BK540.out 1).trans rfl; have hcz84_2 : w80.cell? ⟨gb540, 2, none⟩ = some (.int .i64 0) := (blk_cell BK540.out 2).trans rfl; have hcz84_3 : w80.cell? ⟨gb540, 3, none⟩ = some (.int .i64 0) := (blk_cell BK540.out 3).trans rfl; have hfz84_0 := blk_frozen BK540.out 0; have hfz84_1 := blk_frozen BK540.out 1; have hfz84_2 := blk_frozen BK540.out 2; have hfz84_3 := blk_frozen BK540.out 3; have hnb85 := NB536_537.out; have hnc85 := NB537_536.out; have hnb86 := NB536_538.out; have hnc86 := NB538_536.out; have hcz87_0 : w80.cell? ⟨gb536, 0, none⟩ = some (.int .i64 a0_0) := (blk_cell BK536.out 0).trans rfl; have hcz87_1 : w80.cell? ⟨gb536, 1, none⟩ = some (.int .i64 a0_1) := (blk_cell BK536.out 1).trans rfl; have hcz87_2 : w80.cell? ⟨gb536, 2, none⟩ = some (.int .i64 a0_2) := (blk_cell BK536.out 2).trans rfl; have hcz87_3 : w80.cell? ⟨gb536, 3, none⟩ = some (.int .i64 a0_3) := (blk_cell BK536.out 3).trans rfl; have hcz87_4 : w80.cell? ⟨gb536, 4, none⟩ = some (.int .i64 a0_4) := (blk_cell BK536.out 4).trans rfl; have hcz87_5 : w80.cell? ⟨gb536, 5, none⟩ = some (.int .i64 a0_5) := (blk_cell BK536.out 5).trans rfl; have hcz87_6 : w80.cell? ⟨gb536, 6, none⟩ = some (.int .i64 a0_6) := (blk_cell BK536.out 6).trans rfl; have hcz87_7 : w80.cell? ⟨gb536, 7, none⟩ = some (.int .i64 a0_7) := (blk_cell BK536.out 7).trans rfl; have hcz87_8 : w80.cell? ⟨gb536, 8, none⟩ = some (.int .i64 a0_8) := (blk_cell BK536.out 8).trans rfl; have hcz87_9 : w80.cell? ⟨gb536, 9, none⟩ = some (.int .i64 a0_9) := (blk_cell BK536.out 9).trans rfl; have hcz87_10 : w80.cell? ⟨gb536, 10, none⟩ = some (.int .i64 a0_10) := (blk_cell BK536.out 10).trans rfl; have hcz87_11 : w80.cell? ⟨gb536, 11, none⟩ = some (.int .i64 a0_11) := (blk_cell BK536.out 11).trans rfl; have hfz87_0 := blk_frozen BK536.out 0; have hfz87_1 := blk_frozen BK536.out 1; have hfz87_2 := blk_frozen BK536.out 2; have hfz87_3 := blk_frozen BK536.out 3; have hfz87_4 := blk_frozen BK536.out 4; have hfz87_5 := blk_frozen BK536.out 5; have hfz87_6 := blk_frozen BK536.out 6; have hfz87_7 := blk_frozen BK536.out 7; have hfz87_8 := blk_frozen BK536.out 8; have hfz87_9 := blk_frozen BK536.out 9; have hfz87_10 := blk_frozen BK536.out 10; have hfz87_11 := blk_frozen BK536.out 11) | ((with_reducible refine gate_callee (f := 33) rfl ?_); refine goesL_ (some 20) rfl rfl Try.func33 (by kernel_rfl) rfl #[.agg #[.int .i64 a0_0, .int .i64 a0_1, .int .i64 a0_2, .int .i64 a0_3, .int .i64 a0_4, .int .i64 a0_5, .int .i64 a0_6, .int .i64 a0_7, .int .i64 a0_8, .int .i64 a0_9, .int .i64 a0_10, .int .i64 a0_11], .agg #[.int .i64 ((rd_T57 l1 x14_1).f0), .int .i64 ((rd_T57 l1 x14_1).f1), .int .i64 ((rd_T57 l1 x14_1).f2), .int .i64 ((rd_T57 l1 x14_1).f3)]] rfl (by (try simp only [List.map_toArray, List.map_cons, List.map_nil]); first | done | rfl | (simp only [List.length_drop, List.length_take]; rfl)) ?_; (with_reducible refine (probe_Ahead.calls k1 a0_0 a0_1 a0_2 a0_3 a0_4 a0_5 a0_6 a0_7 a0_8 a0_9 a0_10 a0_11 ((rd_T57 l1 x14_1).f0) ((rd_T57 l1 x14_1).f1) ((rd_T57 l1 x14_1).f2) ((rd_T57 l1 x14_1).f3) t541 t542 _ A12.out).mono ?_); rintro e w88 ⟨rfl, hb⟩; refine ⟨_, rfl, ?_⟩; have n0_ := Aside0.mk (blk_below (g := gb536) (o := .cells #[.int .i64 a0_0, .int .i64 a0_1, .int .i64 a0_2, .int .i64 a0_3, .int .i64 a0_4, .int .i64 a0_5, .int .i64 a0_6, .int .i64 a0_7, .int .i64 a0_8, .int .i64 a0_9, .int .i64 a0_10, .int .i64 a0_11] 23 (0, 0)) (by (with_reducible repeat (first | refine blk_drewN ?_ _ | refine blk_drew ?_ | refine blk_alloc ?_ _)); refine blk_far ?_ NB536_540.out _; (with_reducible repeat (first | refine blk_drewN ?_ _ | refine blk_drew ?_ | refine blk_alloc ?_ _)); refine blk_far ?_ NB536_540.out _; (with_reducible repeat (first | refine blk_drewN ?_ _ | refine blk_drew ?_ | refine blk_alloc ?_ _)); refine blk_far ?_ NB536_540.out _; (with_reducible repeat (first | refine blk_drewN ?_ _ | refine blk_drew ?_ | refine blk_alloc ?_ _)); refine blk_far ?_ NB536_540.out _; (with_reducible repeat (first | refine blk_drewN ?_ _ | refine blk_drew ?_ | refine blk_alloc ?_ _)); exact BK536.out) hb); have n1_ := Aside0.mk (blk_below (g := gb537) (o := .cells #[.int .i64 0, .int .i64 0] 25 (0, 0)) (by (with_reducible repeat (first | refine blk_drewN ?_ _ | refine blk_drew ?_ | refine blk_alloc ?_ _)); refine blk_far ?_ NB537_540.out _; (with_reducible repeat (first | refine blk_drewN ?_ _ | refine blk_drew ?_ | refine blk_alloc ?_ _)); refine blk_far ?_ NB537_540.out _; (with_reducible repeat (first | refine blk_drewN ?_ _ | refine blk_drew ?_ | refine blk_alloc ?_ _)); refine blk_far ?_ NB537_540.out _; (with_reducible repeat (first | refine blk_drewN ?_ _ | refine blk_drew ?_ | refine blk_alloc ?_ _)); refine blk_far ?_ NB537_540.out _; (with_reducible repeat (first | refine blk_drewN ?_ _ | refine blk_drew ?_ | refine blk_alloc ?_ _)); exact BK537.out) hb); have n2_ := Aside0.mk (blk_below (g := gb538) (o := .cells #[.int .i64 x539000_1, .int .i64 x539001_1] 25 (0, 0)) (by (with_reducible repeat (first | refine blk_drewN ?_ _ | refine blk_drew ?_ | refine blk_alloc ?_ _)); refine blk_far ?_ NB538_540.out _; (with_reducible repeat (first | refine blk_drewN ?_ _ | refine blk_drew ?_ | refine blk_alloc ?_ _)); refine blk_far ?_ NB538_540.out _; (with_reducible repeat (first | refine blk_drewN ?_ _ | refine blk_drew ?_ | refine blk_alloc ?_ _)); refine blk_far ?_ NB538_540.out _; (with_reducible repeat (first | refine blk_drewN ?_ _ | refine blk_drew ?_ | refine blk_alloc ?_ _)); refine blk_far ?_ NB538_540.out _; (with_reducible repeat (first | refine blk_drewN ?_ _ | refine blk_drew ?_ | refine blk_alloc ?_ _)); exact BK538.out) hb); have n3_ := Aside0.mk (blk_below (g := gb540) (o := .cells #[.int .i64 ((rd_T57 l1 x14_1).f0), .int .i64 ((rd_T57 l1 x14_1).f1), .int .i64 ((rd_T57 l1 x14_1).f2), .int .i64 ((rd_T57 l1 x14_1).f3)] 57 (0, 0)) (by (with_reducible repeat (first | refine blk_drewN ?_ _ | refine blk_drew ?_ | refine blk_alloc ?_ _)); refine blk_put (cs := #[.int .i64 ((rd_T57 l1 x14_1).f0), .int .i64 ((rd_T57 l1 x14_1).f1), .int .i64 ((rd_T57 l1 x14_1).f2), .int .i64 0]) ?_ 3 _ rfl; (with_reducible repeat (first | refine blk_drewN ?_ _ | refine blk_drew ?_ | refine blk_alloc ?_ _)); refine blk_put (cs := #[.int .i64 ((rd_T57 l1 x14_1).f0), .int .i64 ((rd_T57 l1 x14_1).f1), .int .i64 0, .int .i64 0]) ?_ 2 _ rfl; (with_reducible repeat (first | refine blk_drewN ?_ _ | refine blk_drew ?_ | refine blk_alloc ?_ _)); refine blk_put (cs := #[.int .i64 ((rd_T57 l1 x14_1).f0), .int .i64 0, .int .i64 0, .int .i64 0]) ?_ 1 _ rfl; (with_reducible repeat (first | refine blk_drewN ?_ _ | refine blk_drew ?_ | refine blk_alloc ?_ _)); refine blk_put (cs := #[.int .i64 0, .int .i64 0, .int .i64 0, .int .i64 0]) ?_ 0 _ rfl; (with_reducible repeat (first | refine blk_drewN ?_ _ | refine blk_drew ?_ | refine blk_alloc ?_ _)); exact BK540.out) hb); have n4_ := Aside0.mk (below_step (by repeat (first | (with_reducible first | exact HB.out | apply below_alloc | apply pw_below_drewN | apply below_drew1 | refine below_set ?_ GE536.out | refine below_set ?_ GE537.out | refine below_set ?_ GE538.out | refine below_set ?_ GE540.out) | exact HB.out)) hb); clear BK536; clear BK537; clear BK538; clear BK540; clear HB; have BK536 := n0_; have BK537 := n1_; have BK538 := n2_; have BK540 := n3_; have HB := n4_; clear n0_ n1_ n2_ n3_ n4_; (try clear hb); (try clear hb2); (try clear hk); (try clear hi)) | ((with_reducible refine gate_dst (N := 10) rfl ?_); refine box_event ?hg (N := 10) ?hd (cs := #[.int .i64 0, .int .i64 0]) (t := 25) ?hr ?_; (case hd => rfl); (case hg => rfl); (case hr => first | (go_simp; done) | (go_simp; rfl)); intro gb543 hg w89 hbox hb; have n0_ := Aside0.mk (blk_below (g := gb536) (o := .cells #[.int .i64 a0_0, .int .i64 a0_1, .int .i64 a0_2, .int .i64 a0_3, .int .i64 a0_4, .int .i64 a0_5, .int .i64 a0_6, .int .i64 a0_7, .int .i64 a0_8, .int .i64 a0_9, .int .i64 a0_10, .int .i64 a0_11] 23 (0, 0)) (by (with_reducible repeat (first | refine blk_drewN ?_ _ | refine blk_drew ?_ | refine blk_alloc ?_ _)); exact BK536.out) hb); have n1_ := Aside0.mk (blk_below (g := gb537) (o := .cells #[.int .i64 0, .int .i64 0] 25 (0, 0)) (by (with_reducible repeat (first | refine blk_drewN ?_ _ | refine blk_drew ?_ | refine blk_alloc ?_ _)); exact BK537.out) hb); have n2_ := Aside0.mk (blk_below (g := gb538) (o := .cells #[.int .i64 x539000_1, .int .i64 x539001_1] 25 (0, 0)) (by (with_reducible repeat (first | refine blk_drewN ?_ _ | refine blk_drew ?_ | refine blk_alloc ?_ _)); exact BK538.out) hb); have n3_ := Aside0.mk (blk_below (g := gb540) (o := .cells #[.int .i64 ((rd_T57 l1 x14_1).f0), .int .i64 ((rd_T57 l1 x14_1).f1), .int .i64 ((rd_T57 l1 x14_1).f2), .int .i64 ((rd_T57 l1 x14_1).f3)] 57 (0, 0)) (by (with_reducible repeat (first | refine blk_drewN ?_ _ | refine blk_drew ?_ | refine blk_alloc ?_ _)); exact BK540.out) hb); have n4_ := Aside0.mk (below_step (by repeat (first | (with_reducible first | exact HB.out | apply below_alloc | apply pw_below_drewN | apply below_drew1 | refine below_set ?_ GE536.out | refine below_set ?_ GE537.out | refine below_set ?_ GE538.out | refine below_set ?_ GE540.out) | exact HB.out)) hb); have n5_ := Aside0.mk (hbox); have n6_ := Aside0.mk ((by rw [hg]; exact (below_size (by repeat (first | (with_reducible first | exact HB.out | apply below_alloc | apply pw_below_drewN | apply below_drew1 | refine below_set ?_ GE536.out | refine below_set ?_ GE537.out | refine below_set ?_ GE538.out | refine below_set ?_ GE540.out) | exact HB.out))) : w.heap.size ≤ gb543)); have n7_ := Aside0.mk ((by rw [hg]; exact (below_size (by repeat (first | (with_reducible first | exact HB.out | apply below_alloc | apply pw_below_drewN | apply below_drew1 | refine below_set ?_ GE536.out | refine below_set ?_ GE537.out | refine below_set ?_ GE538.out | refine below_set ?_ GE540.out) | exact HB.out))) : w.heap.size ≤ gb543)); have n8_ := Aside0.mk ((by rw [hg]; exact Nat.ne_of_lt (blk_lt (g := gb536) (o := .cells #[.int .i64 a0_0, .int .i64 a0_1, .int .i64 a0_2, .int .i64 a0_3, .int .i64 a0_4, .int .i64 a0_5, .int .i64 a0_6, .int .i64 a0_7, .int .i64 a0_8, .int .i64 a0_9, .int .i64 a0_10, .int .i64 a0_11] 23 (0, 0)) (by (with_reducible repeat (first | refine blk_drewN ?_ _ | refine blk_drew ?_ | refine blk_alloc ?_ _)); exact BK536.out)) : gb536 ≠ gb543)); have n9_ := Aside0.mk ((by rw [hg]; exact Nat.ne_of_gt (blk_lt (g := gb536) (o := .cells #[.int .i64 a0_0, .int .i64 a0_1, .int .i64 a0_2, .int .i64 a0_3, .int .i64 a0_4, .int .i64 a0_5, .int .i64 a0_6, .int .i64 a0_7, .int .i64 a0_8, .int .i64 a0_9, .int .i64 a0_10, .int .i64 a0_11] 23 (0, 0)) (by (with_reducible repeat (first | refine blk_drewN ?_ _ | refine blk_drew ?_ | refine blk_alloc ?_ _)); exact BK536.out)) : gb543 ≠ gb536)); have n10_ := Aside0.mk ((by rw [hg]; exact Nat.ne_of_lt (blk_lt (g := gb537) (o := .cells #[.int .i64 0, .int .i64 0] 25 (0, 0)) (by (with_reducible repeat (first | refine blk_drewN ?_ _ | refine blk_drew ?_ | refine blk_alloc ?_ _)); exact BK537.out)) : gb537 ≠ gb543)); have n11_ := Aside0.mk ((by rw [hg]; exact Nat.ne_of_gt (blk_lt (g := gb537) (o := .cells #[.int .i64 0, .int .i64 0] 25 (0, 0)) (by (with_reducible repeat (first | refine blk_drewN ?_ _ | refine blk_drew ?_ | refine blk_alloc ?_ _)); exact BK537.out)) : gb543 ≠ gb537)); have n12_ := Aside0.mk ((by rw [hg]; exact Nat.ne_of_lt (blk_lt (g := gb538) (o := .cells #[.int .i64 x539000_1, .int .i64 x539001_1] 25 (0, 0)) (by (with_reducible repeat (first | refine blk_drewN ?_ _ | refine blk_drew ?_ | refine blk_alloc ?_ _)); exact BK538.out)) : gb538 ≠ gb543)); have n13_ := Aside0.mk ((by rw [hg]; exact Nat.ne_of_gt (blk_lt (g := gb538) (o := .cells #[.int .i64 x539000_1, .int .i64 x539001_1] 25 (0, 0)) (by (with_reducible repeat (first | refine blk_drewN ?_ _ | refine blk_drew ?_ | refine blk_alloc ?_ _)); exact BK538.out)) : gb543 ≠ gb538)); have n14_ := Aside0.mk ((by rw [hg]; exact Nat.ne_of_lt (blk_lt (g := gb540) (o := .cells #[.int .i64 ((rd_T57 l1 x14_1).f0), .int .i64 ((rd_T57 l1 x14_1).f1), .int .i64 ((rd_T57 l1 x14_1).f2), .int .i64 ((rd_T57 l1 x14_1).f3)] 57 (0, 0)) (by (with_reducible repeat (first | refine blk_drewN ?_ _ | refine blk_drew ?_ | refine blk_alloc ?_ _)); exact BK540.out)) : gb540 ≠ gb543)); have n15_ := Aside0.mk ((by rw [hg]; exact Nat.ne_of_gt (blk_lt (g := gb540) (o := .cells #[.int .i64 ((rd_T57 l1 x14_1).f0), .int .i64 ((rd_T57 l1 x14_1).f1), .int .i64 ((rd_T57 l1 x14_1).f2), .int .i64 ((rd_T57 l1 x14_1).f3)] 57 (0, 0)) (by (with_reducible repeat (first | refine blk_drewN ?_ _ | refine blk_drew ?_ | refine blk_alloc ?_ _)); exact BK540.out)) : gb543 ≠ gb540)); clear BK536; clear BK537; clear BK538; clear BK540; clear HB; have BK536 := n0_; have BK537 := n1_; have BK538 := n2_; have BK540 := n3_; have HB := n4_; have BK543 := n5_; have GW543 := n6_; have GE543 := n7_; have NB536_543 := n8_; have NB543_536 := n9_; have NB537_543 := n10_; have NB543_537 := n11_; have NB538_543 := n12_; have NB543_538 := n13_; have NB540_543 := n14_; have NB543_540 := n15_; clear n0_ n1_ n2_ n3_ n4_ n5_ n6_ n7_ n8_ n9_ n10_ n11_ n12_ n13_ n14_ n15_; clear hb hbox hg; have hnb90 := NB543_536.out; have hnc90 := NB536_543.out; have hnb91 := NB543_537.out; have hnc91 := NB537_543.out; have hnb92 := NB543_538.out; have hnc92 := NB538_543.out; have hnb93 := NB543_540.out; have hnc93 := NB540_543.out; have hcz94_0 : w89.cell? ⟨gb543, 0, none⟩ = some (.int .i64 0) := (blk_cell BK543.out 0).trans rfl; have hcz94_1 : w89.cell? ⟨gb543, 1, none⟩ = some (.int .i64 0) := (blk_cell BK543.out 1).trans rfl; have hfz94_0 := blk_frozen BK543.out 0; have hfz94_1 := blk_frozen BK543.out 1))
        have n0_ : Aside0 (((w89.setCell ⟨gb543, 0, none⟩ (.int .i64 t541)).setCell ⟨gb543, 1, none⟩ (.int .i64 t542)).heap[gb536]? = some (.cells #[.int .i64 a0_0, .int .i64 a0_1, .int .i64 a0_2, .int .i64 a0_3, .int .i64 a0_4, .int .i64 a0_5, .int .i64 a0_6, .int .i64 a0_7, .int .i64 a0_8, .int .i64 a0_9, .int .i64 a0_10, .int .i64 a0_11] 23 (0, 0))) := ⟨by (with_reducible repeat (first | refine blk_drewN ?_ _ | refine blk_drew ?_ | refine blk_alloc ?_ _)); refine blk_far ?_ NB536_543.out _; (with_reducible repeat (first | refine blk_drewN ?_ _ | refine blk_drew ?_ | refine blk_alloc ?_ _)); refine blk_far ?_ NB536_543.out _; (with_reducible repeat (first | refine blk_drewN ?_ _ | refine blk_drew ?_ | refine blk_alloc ?_ _)); exact BK536.out⟩
        have n1_ : Aside0 (((w89.setCell ⟨gb543, 0, none⟩ (.int .i64 t541)).setCell ⟨gb543, 1, none⟩ (.int .i64 t542)).heap[gb537]? = some (.cells #[.int .i64 0, .int .i64 0] 25 (0, 0))) := ⟨by (with_reducible repeat (first | refine blk_drewN ?_ _ | refine blk_drew ?_ | refine blk_alloc ?_ _)); refine blk_far ?_ NB537_543.out _; (with_reducible repeat (first | refine blk_drewN ?_ _ | refine blk_drew ?_ | refine blk_alloc ?_ _)); refine blk_far ?_ NB537_543.out _; (with_reducible repeat (first | refine blk_drewN ?_ _ | refine blk_drew ?_ | refine blk_alloc ?_ _)); exact BK537.out⟩
        have n2_ : Aside0 (((w89.setCell ⟨gb543, 0, none⟩ (.int .i64 t541)).setCell ⟨gb543, 1, none⟩ (.int .i64 t542)).heap[gb538]? = some (.cells #[.int .i64 x539000_1, .int .i64 x539001_1] 25 (0, 0))) := ⟨by (with_reducible repeat (first | refine blk_drewN ?_ _ | refine blk_drew ?_ | refine blk_alloc ?_ _)); refine blk_far ?_ NB538_543.out _; (with_reducible repeat (first | refine blk_drewN ?_ _ | refine blk_drew ?_ | refine blk_alloc ?_ _)); refine blk_far ?_ NB538_543.out _; (with_reducible repeat (first | refine blk_drewN ?_ _ | refine blk_drew ?_ | refine blk_alloc ?_ _)); exact BK538.out⟩
        have n3_ : Aside0 (((w89.setCell ⟨gb543, 0, none⟩ (.int .i64 t541)).setCell ⟨gb543, 1, none⟩ (.int .i64 t542)).heap[gb540]? = some (.cells #[.int .i64 ((rd_T57 l1 x14_1).f0), .int .i64 ((rd_T57 l1 x14_1).f1), .int .i64 ((rd_T57 l1 x14_1).f2), .int .i64 ((rd_T57 l1 x14_1).f3)] 57 (0, 0))) := ⟨by (with_reducible repeat (first | refine blk_drewN ?_ _ | refine blk_drew ?_ | refine blk_alloc ?_ _)); refine blk_far ?_ NB540_543.out _; (with_reducible repeat (first | refine blk_drewN ?_ _ | refine blk_drew ?_ | refine blk_alloc ?_ _)); refine blk_far ?_ NB540_543.out _; (with_reducible repeat (first | refine blk_drewN ?_ _ | refine blk_drew ?_ | refine blk_alloc ?_ _)); exact BK540.out⟩
        have n4_ : Aside0 (((w89.setCell ⟨gb543, 0, none⟩ (.int .i64 t541)).setCell ⟨gb543, 1, none⟩ (.int .i64 t542)).heap[gb543]? = some (.cells #[.int .i64 t541, .int .i64 t542] 25 (0, 0))) := ⟨by (with_reducible repeat (first | refine blk_drewN ?_ _ | refine blk_drew ?_ | refine blk_alloc ?_ _)); refine blk_put (cs := #[.int .i64 t541, .int .i64 0]) ?_ 1 _ rfl; (with_reducible repeat (first | refine blk_drewN ?_ _ | refine blk_drew ?_ | refine blk_alloc ?_ _)); refine blk_put (cs := #[.int .i64 0, .int .i64 0]) ?_ 0 _ rfl; (with_reducible repeat (first | refine blk_drewN ?_ _ | refine blk_drew ?_ | refine blk_alloc ?_ _)); exact BK543.out⟩
        have n5_ : Aside0 (Below w.heap.size w ((w89.setCell ⟨gb543, 0, none⟩ (.int .i64 t541)).setCell ⟨gb543, 1, none⟩ (.int .i64 t542))) := ⟨by repeat (first | (with_reducible first | exact HB.out | apply below_alloc | apply pw_below_drewN | apply below_drew1 | refine below_set ?_ GE536.out | refine below_set ?_ GE537.out | refine below_set ?_ GE538.out | refine below_set ?_ GE540.out | refine below_set ?_ GE543.out) | exact HB.out)⟩
        (try clear BK536)
        (try clear BK537)
        (try clear BK538)
        (try clear BK540)
        (try clear BK543)
        (try clear HB)
        generalize ((w89.setCell ⟨gb543, 0, none⟩ (.int .i64 t541)).setCell ⟨gb543, 1, none⟩ (.int .i64 t542)) = w95 at n0_ n1_ n2_ n3_ n4_ n5_ ⊢
        have BK536 := n0_
        have BK537 := n1_
        have BK538 := n2_
        have BK540 := n3_
        have BK543 := n4_
        have HB := n5_
        clear n0_ n1_ n2_ n3_ n4_ n5_
        have n0_ := Aside0.mk (blk_drew BK536.out)
        have n1_ := Aside0.mk (blk_drew BK537.out)
        have n2_ := Aside0.mk (blk_drew BK538.out)
        have n3_ := Aside0.mk (blk_drew BK540.out)
        have n4_ := Aside0.mk (blk_drew BK543.out)
        have n5_ := Aside0.mk (below_drew1 HB.out)
        clear BK536
        clear BK537
        clear BK538
        clear BK540
        clear BK543
        clear HB
        have BK536 := n0_
        have BK537 := n1_
        have BK538 := n2_
        have BK540 := n3_
        have BK543 := n4_
        have HB := n5_
        clear n0_ n1_ n2_ n3_ n4_ n5_
        refine start_ (n := 14) (S := fun w' => w'.cell? ⟨gb543, 0, none⟩ = some (.int .i64 t541) ∧ w'.cell? ⟨gb543, 1, none⟩ = some (.int .i64 t542)) (ds := []) #[false, false, false, false, false, false, false, false, false, false, false, false, false, false] (by kernel_rfl) rfl rfl ⟨(blk_cell BK543.out 0).trans rfl, (blk_cell BK543.out 1).trans rfl⟩ (fun hHeld => ?_); refine with_tabW probe_Best.tab6 probe_Best.bits6 (fun HT_ HW_ => ?_)
        generalize w95.drew = w96 at BK536 BK537 BK538 BK540 BK543 HB hHeld ⊢
        refine take_ (i := 0) (N := some 21) (v := ?_) (a' := ?_) #[true, false, false, false, false, false, false, false, false, false, false, false, false, false] rfl rfl (take_ofW HT_.out HW_.out (by kernel_rfl)) (fun _ _ _ h => h) (Or.inl ⟨by rfl, ?_⟩) hHeld ?_ ?_
        rotate_left
        ·rintro w' ⟨s0, s1⟩
         go_simp
         with_reducible rfl
        rotate_left
        ·simp only [Act.put, List.setIfInBounds_toArray, List.set_cons_zero, List.set_cons_succ, i64_w, i32_w]
         rfl
        refine one_ (i := 1) (N := some 22) #[true, true, false, false, false, false, false, false, false, false, false, false, false, false] rfl rfl (one_of HT_.out (by kernel_rfl)) (by decide) (fun K hK => ?_)
        refine goes_ Try.func56 (by kernel_rfl) rfl #[.agg #[.int .i64 t541, .int .i64 t542]] (by rfl) rfl rfl (by (try simp only [List.map_toArray, List.map_cons, List.map_nil]); first | done | rfl | (simp only [List.length_drop, List.length_take]; rfl)) ?_
        with_reducible refine (span_Empty.calls t541 t542 false _ A13.out).mono ?_
        rintro e w97 ⟨rfl, hb⟩
        refine ⟨_, rfl, ?_⟩
        have n0_ := Aside0.mk (blk_below (g := gb536) (o := .cells #[.int .i64 a0_0, .int .i64 a0_1, .int .i64 a0_2, .int .i64 a0_3, .int .i64 a0_4, .int .i64 a0_5, .int .i64 a0_6, .int .i64 a0_7, .int .i64 a0_8, .int .i64 a0_9, .int .i64 a0_10, .int .i64 a0_11] 23 (0, 0)) (by (with_reducible repeat (first | refine blk_drewN ?_ _ | refine blk_drew ?_ | refine blk_alloc ?_ _)); exact BK536.out) hb)
        have n1_ := Aside0.mk (blk_below (g := gb537) (o := .cells #[.int .i64 0, .int .i64 0] 25 (0, 0)) (by (with_reducible repeat (first | refine blk_drewN ?_ _ | refine blk_drew ?_ | refine blk_alloc ?_ _)); exact BK537.out) hb)
        have n2_ := Aside0.mk (blk_below (g := gb538) (o := .cells #[.int .i64 x539000_1, .int .i64 x539001_1] 25 (0, 0)) (by (with_reducible repeat (first | refine blk_drewN ?_ _ | refine blk_drew ?_ | refine blk_alloc ?_ _)); exact BK538.out) hb)
        have n3_ := Aside0.mk (blk_below (g := gb540) (o := .cells #[.int .i64 ((rd_T57 l1 x14_1).f0), .int .i64 ((rd_T57 l1 x14_1).f1), .int .i64 ((rd_T57 l1 x14_1).f2), .int .i64 ((rd_T57 l1 x14_1).f3)] 57 (0, 0)) (by (with_reducible repeat (first | refine blk_drewN ?_ _ | refine blk_drew ?_ | refine blk_alloc ?_ _)); exact BK540.out) hb)
        have n4_ := Aside0.mk (blk_below (g := gb543) (o := .cells #[.int .i64 t541, .int .i64 t542] 25 (0, 0)) (by (with_reducible repeat (first | refine blk_drewN ?_ _ | refine blk_drew ?_ | refine blk_alloc ?_ _)); exact BK543.out) hb)
        have n5_ := Aside0.mk (below_step (by repeat (first | (with_reducible first | exact HB.out | apply below_alloc | apply pw_below_drewN | apply below_drew1 | refine below_set ?_ GE536.out | refine below_set ?_ GE537.out | refine below_set ?_ GE538.out | refine below_set ?_ GE540.out | refine below_set ?_ GE543.out) | exact HB.out)) hb)
        clear BK536
        clear BK537
        clear BK538
        clear BK540
        clear BK543
        clear HB
        have BK536 := n0_
        have BK537 := n1_
        have BK538 := n2_
        have BK540 := n3_
        have BK543 := n4_
        have HB := n5_
        clear n0_ n1_ n2_ n3_ n4_ n5_
        (try clear hb)
        (try clear hb2)
        (try clear hk)
        (try clear hi)
        refine hK.out _ _ ⟨(blk_cell BK543.out 0).trans rfl, (blk_cell BK543.out 1).trans rfl⟩ (fun hHeld => ?_)
        clear hK K
        refine norm_ (a' := ?_) ?_ ?_
        rotate_left
        ·show Act.put _ (some 22) _ = _
         simp only [Act.put, List.setIfInBounds_toArray, List.set_cons_zero, List.set_cons_succ, i64_w, i32_w]
         rfl
        refine pure_ (i := 2) (N := some 23) (v := ?_) (a' := ?_) #[true, true, true, false, false, false, false, false, false, false, false, false, false, false] rfl rfl (any_of HT_.out (by kernel_rfl)) (fun _ _ _ h => h) (Or.inl ⟨by rfl, ?_⟩) ?_ ?_
        rotate_left
        ·intro w'
         go_simp
         with_reducible rfl
        rotate_left
        ·simp only [Act.put, List.setIfInBounds_toArray, List.set_cons_zero, List.set_cons_succ, i64_w, i32_w]
         rfl
        refine pure_ (i := 3) (N := some 24) (v := ?_) (a' := ?_) #[true, true, true, true, false, false, false, false, false, false, false, false, false, false] rfl rfl (any_of HT_.out (by kernel_rfl)) (fun _ _ _ h => h) (Or.inl ⟨by rfl, ?_⟩) ?_ ?_
        rotate_left
        ·intro w'
         go_simp
         with_reducible rfl
        rotate_left
        ·simp only [Act.put, List.setIfInBounds_toArray, List.set_cons_zero, List.set_cons_succ, i64_w, i32_w]
         rfl
        refine pure_ (i := 4) (N := some 25) (v := ?_) (a' := ?_) #[true, true, true, true, true, false, false, false, false, false, false, false, false, false] rfl rfl (any_of HT_.out (by kernel_rfl)) (fun _ _ _ h => h) (Or.inl ⟨by rfl, ?_⟩) ?_ ?_
        rotate_left
        ·intro w'
         go_simp
         with_reducible rfl
        rotate_left
        ·simp only [Act.put, List.setIfInBounds_toArray, List.set_cons_zero, List.set_cons_succ, i64_w, i32_w]
         rfl
        refine pure_ (i := 5) (N := some 26) (v := ?_) (a' := ?_) #[true, true, true, true, true, true, false, false, false, false, false, false, false, false] rfl rfl (any_of HT_.out (by kernel_rfl)) (fun _ _ _ h => h) (Or.inl ⟨by rfl, ?_⟩) ?_ ?_
        rotate_left
        ·intro w'
         go_simp
         with_reducible rfl
        rotate_left
        ·simp only [Act.put, List.setIfInBounds_toArray, List.set_cons_zero, List.set_cons_succ, i64_w, i32_w]
         rfl
        refine pure_ (i := 6) (N := some 27) (v := ?_) (a' := ?_) #[true, true, true, true, true, true, true, false, false, false, false, false, false, false] rfl rfl (any_of HT_.out (by kernel_rfl)) (fun _ _ _ h => h) (Or.inl ⟨by rfl, ?_⟩) ?_ ?_
        rotate_left
        ·intro w'
         go_simp
         with_reducible rfl
        rotate_left
        ·simp only [Act.put, List.setIfInBounds_toArray, List.set_cons_zero, List.set_cons_succ, i64_w, i32_w]
         rfl
        refine pure_ (i := 7) (N := some 28) (v := undef) (a' := ?_) #[true, true, true, true, true, true, true, true, false, false, false, false, false, false] rfl rfl (any_of HT_.out (by kernel_rfl)) (fun _ _ _ h => h) (Or.inr ⟨by rfl, rfl⟩) ?_ ?_
        rotate_left
        ·simp only [Act.put, List.setIfInBounds_toArray, List.set_cons_zero, List.set_cons_succ, i64_w, i32_w]
         rfl
        refine pure_ (i := 8) (N := some 29) (v := undef) (a' := ?_) #[true, true, true, true, true, true, true, true, true, false, false, false, false, false] rfl rfl (any_of HT_.out (by kernel_rfl)) (fun _ _ _ h => h) (Or.inr ⟨by rfl, rfl⟩) ?_ ?_
        rotate_left
        ·simp only [Act.put, List.setIfInBounds_toArray, List.set_cons_zero, List.set_cons_succ, i64_w, i32_w]
         rfl
        refine pure_ (i := 9) (N := some 30) (v := undef) (a' := ?_) #[true, true, true, true, true, true, true, true, true, true, false, false, false, false] rfl rfl (any_of HT_.out (by kernel_rfl)) (fun _ _ _ h => h) (Or.inr ⟨by rfl, rfl⟩) ?_ ?_
        rotate_left
        ·simp only [Act.put, List.setIfInBounds_toArray, List.set_cons_zero, List.set_cons_succ, i64_w, i32_w]
         rfl
        refine pure_ (i := 10) (N := some 31) (v := undef) (a' := ?_) #[true, true, true, true, true, true, true, true, true, true, true, false, false, false] rfl rfl (any_of HT_.out (by kernel_rfl)) (fun _ _ _ h => h) (Or.inr ⟨by rfl, rfl⟩) ?_ ?_
        rotate_left
        ·simp only [Act.put, List.setIfInBounds_toArray, List.set_cons_zero, List.set_cons_succ, i64_w, i32_w]
         rfl
        refine pure_ (i := 11) (N := some 32) (v := undef) (a' := ?_) #[true, true, true, true, true, true, true, true, true, true, true, true, false, false] rfl rfl (any_of HT_.out (by kernel_rfl)) (fun _ _ _ h => h) (Or.inr ⟨by rfl, rfl⟩) ?_ ?_
        rotate_left
        ·simp only [Act.put, List.setIfInBounds_toArray, List.set_cons_zero, List.set_cons_succ, i64_w, i32_w]
         rfl
        refine pure_ (i := 12) (N := some 33) (v := ?_) (a' := ?_) #[true, true, true, true, true, true, true, true, true, true, true, true, true, false] rfl rfl (any_of HT_.out (by kernel_rfl)) (fun _ _ _ h => h) (Or.inl ⟨by rfl, ?_⟩) ?_ ?_
        rotate_left
        ·intro w'
         go_simp
         with_reducible rfl
        rotate_left
        ·simp only [Act.put, List.setIfInBounds_toArray, List.set_cons_zero, List.set_cons_succ, i64_w, i32_w]
         rfl
        refine pure_ (i := 13) (N := some 34) (v := ?_) (a' := ?_) #[true, true, true, true, true, true, true, true, true, true, true, true, true, true] rfl rfl (any_of HT_.out (by kernel_rfl)) (fun _ _ _ h => h) (Or.inl ⟨by rfl, ?_⟩) ?_ ?_
        rotate_left
        ·intro w'
         go_simp
         with_reducible rfl
        rotate_left
        ·simp only [Act.put, List.setIfInBounds_toArray, List.set_cons_zero, List.set_cons_succ, i64_w, i32_w]
         rfl
        refine done_ (done_of HT_.out (by kernel_rfl)) ?_
        have hcz98_0 : w97.cell? ⟨gb543, 0, none⟩ = some (.int .i64 t541) := (blk_cell BK543.out 0).trans rfl
        have hcz98_1 : w97.cell? ⟨gb543, 1, none⟩ = some (.int .i64 t542) := (blk_cell BK543.out 1).trans rfl
        have hfz98_0 := blk_frozen BK543.out 0
        have hfz98_1 := blk_frozen BK543.out 1
        have hnb99 := NB538_537.out
        have hnc99 := NB537_538.out
        have hcz100_0 : w97.cell? ⟨gb538, 0, none⟩ = some (.int .i64 x539000_1) := (blk_cell BK538.out 0).trans rfl
        have hcz100_1 : w97.cell? ⟨gb538, 1, none⟩ = some (.int .i64 x539001_1) := (blk_cell BK538.out 1).trans rfl
        have hfz100_0 := blk_frozen BK538.out 0
        have hfz100_1 := blk_frozen BK538.out 1
        try go_wp2
        go_roundg k1
        case measure => have := HK1.out; omega
        case rel => exact ⟨(true), (wrap64 (x14_1 + 1)), (t541), (t542), (by first | rfl | (simp; done) | (simp [*]; done) | (simp [Int.tdiv_eq_ediv_of_nonneg]; done) | (simp [Go.RowKit.wrap64]; done) | (simp [*, Go.RowKit.wrap64]; done)), (by first | rfl | (simp; done) | (simp [*]; done) | (simp [Int.tdiv_eq_ediv_of_nonneg]; done) | (simp [Go.RowKit.wrap64]; done) | (simp [*, Go.RowKit.wrap64]; done)), H', ⟨by have := HK1.out; omega⟩, ⟨by (with_reducible repeat (first | refine blk_drewN ?_ _ | refine blk_drew ?_ | refine blk_alloc ?_ _)); refine blk_far ?_ NB536_538.out _; (with_reducible repeat (first | refine blk_drewN ?_ _ | refine blk_drew ?_ | refine blk_alloc ?_ _)); refine blk_far ?_ NB536_538.out _; (with_reducible repeat (first | refine blk_drewN ?_ _ | refine blk_drew ?_ | refine blk_alloc ?_ _)); exact BK536.out⟩, ⟨by (with_reducible repeat (first | refine blk_drewN ?_ _ | refine blk_drew ?_ | refine blk_alloc ?_ _)); refine blk_far ?_ NB537_538.out _; (with_reducible repeat (first | refine blk_drewN ?_ _ | refine blk_drew ?_ | refine blk_alloc ?_ _)); refine blk_far ?_ NB537_538.out _; (with_reducible repeat (first | refine blk_drewN ?_ _ | refine blk_drew ?_ | refine blk_alloc ?_ _)); exact BK537.out⟩, ⟨by (with_reducible repeat (first | refine blk_drewN ?_ _ | refine blk_drew ?_ | refine blk_alloc ?_ _)); refine blk_put (cs := #[.int .i64 t541, .int .i64 x539001_1]) ?_ 1 _ rfl; (with_reducible repeat (first | refine blk_drewN ?_ _ | refine blk_drew ?_ | refine blk_alloc ?_ _)); refine blk_put (cs := #[.int .i64 x539000_1, .int .i64 x539001_1]) ?_ 0 _ rfl; (with_reducible repeat (first | refine blk_drewN ?_ _ | refine blk_drew ?_ | refine blk_alloc ?_ _)); exact BK538.out⟩, ⟨by repeat (first | (with_reducible first | exact HB.out | apply below_alloc | apply pw_below_drewN | apply below_drew1 | refine below_set ?_ GE536.out | refine below_set ?_ GE537.out | refine below_set ?_ GE538.out | refine below_set ?_ GE540.out | refine below_set ?_ GE543.out) | exact HB.out)⟩⟩
     ·rw [if_neg c11] at H
      exact absurd H (by simp)
    ·rw [if_neg c10] at H
     exact absurd H (by simp)
   ·rw [if_neg c9] at H
    have c9b0 : decide (x14_1 < (l1.length : Int)) = false := decide_eq_false c9
    clear c9
    simp only [Option.some.injEq, Prod.mk.injEq] at H
    obtain ⟨rfl, rfl, rfl⟩ := H
    have hnb101 := NB538_536.out
    have hnc101 := NB536_538.out
    have hnb102 := NB538_537.out
    have hnc102 := NB537_538.out
    have hcz103_0 : wr.cell? ⟨gb538, 0, none⟩ = some (.int .i64 x539000_1) := (blk_cell BK538.out 0).trans rfl
    have hcz103_1 : wr.cell? ⟨gb538, 1, none⟩ = some (.int .i64 x539001_1) := (blk_cell BK538.out 1).trans rfl
    have hfz103_0 := blk_frozen BK538.out 0
    have hfz103_1 := blk_frozen BK538.out 1
    have hnb104 := NB537_536.out
    have hnc104 := NB536_537.out
    have hcz105_0 : wr.cell? ⟨gb537, 0, none⟩ = some (.int .i64 0) := (blk_cell BK537.out 0).trans rfl
    have hcz105_1 : wr.cell? ⟨gb537, 1, none⟩ = some (.int .i64 0) := (blk_cell BK537.out 1).trans rfl
    have hfz105_0 := blk_frozen BK537.out 0
    have hfz105_1 := blk_frozen BK537.out 1
    go_wp2
    refine bodyPost_ret (results_ct rfl _ _ gb537 25 #[.int .i64 x539000_1, .int .i64 x539001_1] (0, 0) _ rfl (by (with_reducible repeat (first | refine blk_drewN ?_ _ | refine blk_drew ?_ | refine blk_alloc ?_ _)); refine blk_put (cs := #[.int .i64 x539000_1, .int .i64 0]) ?_ 1 _ rfl; (with_reducible repeat (first | refine blk_drewN ?_ _ | refine blk_drew ?_ | refine blk_alloc ?_ _)); refine blk_put (cs := #[.int .i64 0, .int .i64 0]) ?_ 0 _ rfl; (with_reducible repeat (first | refine blk_drewN ?_ _ | refine blk_drew ?_ | refine blk_alloc ?_ _)); exact BK537.out) Try.underlying25 rfl (by kernel_rfl)) rfl ?_
    exact ⟨by first | rfl | (simp [errW_none, errW_some] <;> rfl) | (simp [*, errW_none, errW_some] <;> rfl), by repeat (first | (with_reducible first | exact HB.out | apply below_alloc | apply pw_below_drewN | apply below_drew1 | refine below_set ?_ GE536.out | refine below_set ?_ GE537.out | refine below_set ?_ GE538.out) | exact HB.out)⟩

end Go.Proofs.Ytigpigfoahlfjaa.Q
