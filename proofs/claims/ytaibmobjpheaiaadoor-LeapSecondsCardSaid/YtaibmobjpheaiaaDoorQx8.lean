/- The calls of these Go functions answer what the Lean functions beside them answer; written by a program (wip/pr2.py, out of the print of the loaded program); under no condition but those that stand in the theorems. -/
import Derived.Test.YtaibmobjpheaiaaDoorQx0
import Derived.Test.YtaibmobjpheaiaaDoorQx5
import Derived.Test.YtaibmobjpheaiaaDoorQx6
import Derived.Test.YtaibmobjpheaiaaDoorQx7
namespace Go.Proofs.YtaibmobjpheaiaaDoor.Q
open Go.RowKit Go.Proofs.YtaibmobjpheaiaaDoorW.PrintWords Go.Proofs.YtaibmobjpheaiaaDoorW.PrintLast Go.Proofs.YtaibmobjpheaiaaDoorW.PrintMore
attribute [local go_sem] max2_int min2_int max_two min_two max_three min_three max_four min_four   -- for this text's walks alone
set_option linter.unusedVariables false
set_option linter.unusedSimpArgs false

/-! ### leap_ToLabel: function 12 -/
mutual
def leap_ToLabel.j0 : Nat → List (S40) → Int → Bool → Option (Int × Int × Int × Int × Int × Int × Int)
 | 0, _, _, _ => none
 | k + 1, x0, x1, x24 => if x24 = true then (some (0, 0, 0, 0, 0, 0, 30)) else ((leap_at.f k x0 x1).bind fun bt136 => (if bt136.2 = true then (leap_ToLabel.j1 k (wrap64 (x1 - 1)) bt136.1 bt136.2) else (leap_ToLabel.j1 k x1 bt136.1 bt136.2)))
def leap_ToLabel.j1 : Nat → Int → Int → Bool → Option (Int × Int × Int × Int × Int × Int × Int)
 | 0, _, _, _ => none
 | k + 1, x1, x6, x7 => (wide_Div.f k (wrap64 (x1 - x6)) 86400).bind fun bt138 => ((civil_Date.f k bt138.1).bind fun bt140 => (if x7 = true then (some (bt140.1, bt140.2.1, bt140.2.2.1, wrap64 (Int.tdiv bt138.2 3600), Int.tmod (wrap64 (Int.tdiv bt138.2 60)) 60, wrap64 ((Int.tmod bt138.2 60) + 1), 0)) else (some (bt140.1, bt140.2.1, bt140.2.2.1, wrap64 (Int.tdiv bt138.2 3600), Int.tmod (wrap64 (Int.tdiv bt138.2 60)) 60, Int.tmod bt138.2 60, 0))))
end
def leap_ToLabel.f (k : Nat) (l0 : List (S40)) (a1 : Int) : Option (Int × Int × Int × Int × Int × Int × Int) := (leap_Good.f k l0).bind fun t135 => (if t135 = true then (if a1 > 4398046511104 then (leap_ToLabel.j0 k l0 a1 true) else (leap_ToLabel.j0 k l0 a1 (decide (a1 < (-4398046511104))))) else (some (0, 0, 0, 0, 0, 0, 31)))
theorem leap_ToLabel.mono_l : ∀ k, (∀ y0 y1 y2, LeO (leap_ToLabel.j0 k y0 y1 y2) (leap_ToLabel.j0 (k + 1) y0 y1 y2)) ∧ (∀ y0 y1 y2, LeO (leap_ToLabel.j1 k y0 y1 y2) (leap_ToLabel.j1 (k + 1) y0 y1 y2))
 | 0 => ⟨fun _ _ _ r h => by simp [leap_ToLabel.j0] at h, fun _ _ _ r h => by simp [leap_ToLabel.j1] at h⟩
 | k + 1 => by
  obtain ⟨ih0, ih1⟩ := leap_ToLabel.mono_l k
  refine ⟨?_, ?_⟩
  ·intro y0 y1 y2
   unfold leap_ToLabel.j0
   repeat' first
   | (with_reducible exact ih0 _ _ _)
   | (with_reducible exact ih1 _ _ _)
   | (with_reducible exact civil_Date.mono _ _)
   | (with_reducible exact leap_Good.mono _ _)
   | (with_reducible exact leap_at.mono _ _ _)
   | (with_reducible exact wide_Div.mono _ _ _)
   | (with_reducible exact LeO.refl _)
   | (with_reducible exact LeO.none _)
   | (with_reducible refine LeO.ite ?_ ?_)
   | (with_reducible refine LeO.bind ?_ (fun _ => ?_))
   | exact ih0 _ _ _
   | exact ih1 _ _ _
   | exact civil_Date.mono _ _
   | exact leap_Good.mono _ _
   | exact leap_at.mono _ _ _
   | exact wide_Div.mono _ _ _
   | exact LeO.none _
   | refine LeO.ite ?_ ?_
   | refine LeO.bind ?_ (fun _ => ?_)
  ·intro y0 y1 y2
   unfold leap_ToLabel.j1
   repeat' first
   | (with_reducible exact ih0 _ _ _)
   | (with_reducible exact ih1 _ _ _)
   | (with_reducible exact civil_Date.mono _ _)
   | (with_reducible exact leap_Good.mono _ _)
   | (with_reducible exact leap_at.mono _ _ _)
   | (with_reducible exact wide_Div.mono _ _ _)
   | (with_reducible exact LeO.refl _)
   | (with_reducible exact LeO.none _)
   | (with_reducible refine LeO.ite ?_ ?_)
   | (with_reducible refine LeO.bind ?_ (fun _ => ?_))
   | exact ih0 _ _ _
   | exact ih1 _ _ _
   | exact civil_Date.mono _ _
   | exact leap_Good.mono _ _
   | exact leap_at.mono _ _ _
   | exact wide_Div.mono _ _ _
   | exact LeO.none _
   | refine LeO.ite ?_ ?_
   | refine LeO.bind ?_ (fun _ => ?_)
theorem leap_ToLabel.mono : ∀ a0 a1 k, LeO (leap_ToLabel.f k a0 a1) (leap_ToLabel.f (k + 1) a0 a1) := by
 intro a0 a1 k
 obtain ⟨ih0, ih1⟩ := leap_ToLabel.mono_l k
 unfold leap_ToLabel.f
 repeat' first
   | (with_reducible exact ih0 _ _ _)
   | (with_reducible exact ih1 _ _ _)
   | (with_reducible exact civil_Date.mono _ _)
   | (with_reducible exact leap_Good.mono _ _)
   | (with_reducible exact leap_at.mono _ _ _)
   | (with_reducible exact wide_Div.mono _ _ _)
   | (with_reducible exact LeO.refl _)
   | (with_reducible exact LeO.none _)
   | (with_reducible refine LeO.ite ?_ ?_)
   | (with_reducible refine LeO.bind ?_ (fun _ => ?_))
   | exact ih0 _ _ _
   | exact ih1 _ _ _
   | exact civil_Date.mono _ _
   | exact leap_Good.mono _ _
   | exact leap_at.mono _ _ _
   | exact wide_Div.mono _ _ _
   | exact LeO.none _
   | refine LeO.ite ?_ ?_
   | refine LeO.bind ?_ (fun _ => ?_)
set_option maxHeartbeats 8000000 in
set_option maxRecDepth 100000 in
theorem leap_ToLabel.calls (k : Nat) (A0 : Option Addr) (c0 : Nat) (l0 : List (S40)) (a1 : Int) (r1 : Int) (r2 : Int) (r3 : Int) (r4 : Int) (r5 : Int) (r6 : Int) (r7 : Int) (w : World) (hM : GM w) (hr0 : Kd.C k40 w A0 l0.length l0) (hc0 : l0.length ≤ c0) (h : leap_ToLabel.f k l0 a1 = some (r1, r2, r3, r4, r5, r6, r7)) :
  Calls Tryd.prog 12 #[.slice A0 l0.length c0, .int .i64 a1] w fun e w' => e = .returned (.tuple #[.agg #[.int .i64 r1, .int .i64 r2, .int .i64 r3, .int .i64 r4, .int .i64 r5, .int .i64 r6], .int .i64 r7]) ∧ Below w.heap.size w w' := by
 have hu26 := Tryd.underlying26
 have HR0 := Aside0.mk hr0
 have HC0 := Aside0.mk hc0
 clear hr0 hc0
 have HB := Aside0.mk (Below.refl w.heap.size w)
 have H : ((leap_Good.f k l0).bind fun t135 => (if t135 = true then (if a1 > 4398046511104 then (leap_ToLabel.j0 k l0 a1 true) else (leap_ToLabel.j0 k l0 a1 (decide (a1 < (-4398046511104))))) else (some (0, 0, 0, 0, 0, 0, 31)))) = some (r1, r2, r3, r4, r5, r6, r7) := h
 clear h
 replace H := Option.bind_eq_some_iff.mp H
 obtain ⟨t135, A30, H⟩ := H
 replace H : (if t135 = true then (if a1 > 4398046511104 then (leap_ToLabel.j0 k l0 a1 true) else (leap_ToLabel.j0 k l0 a1 (decide (a1 < (-4398046511104))))) else (some (0, 0, 0, 0, 0, 0, 31))) = some (r1, r2, r3, r4, r5, r6, r7) := H
 have A3 := Aside0.mk A30
 clear A30
 by_cases c4 : t135 = true
 ·subst c4
  have H1 : (if a1 > 4398046511104 then (leap_ToLabel.j0 k l0 a1 true) else (leap_ToLabel.j0 k l0 a1 (decide (a1 < (-4398046511104))))) = some (r1, r2, r3, r4, r5, r6, r7) := by rw [if_pos rfl] at H; exact H
  clear H
  have H := H1
  clear H1
  have HC5 := Aside0.mk H
  clear H
  go_enter Tryd.func12, Tryd.ntmps12
  go_upto_region 3 with (first | ((with_reducible refine gate_dst (N := 4) rfl ?_); refine box_event ?hg (N := 4) ?hd (cs := #[.int .i64 0, .int .i64 0, .int .i64 0, .int .i64 0, .int .i64 0, .int .i64 0]) (t := 26) ?hr ?_; (case hd => rfl); (case hg => rfl); (case hr => first | (go_simp; done) | (go_simp; rfl)); intro gb134 hg w6 hbox hb; have n0_ := Aside0.mk (below_step (by repeat (first | (with_reducible first | exact HB.out | apply below_alloc | apply pw_below_drewN | apply below_drew1) | exact HB.out)) hb); have n1_ := Aside0.mk (hbox); have n2_ := Aside0.mk ((by rw [hg]; exact (below_size (by repeat (first | (with_reducible first | exact HB.out | apply below_alloc | apply pw_below_drewN | apply below_drew1) | exact HB.out))) : w.heap.size ≤ gb134)); have n3_ := Aside0.mk ((by rw [hg]; exact (below_size (by repeat (first | (with_reducible first | exact HB.out | apply below_alloc | apply pw_below_drewN | apply below_drew1) | exact HB.out))) : w.heap.size ≤ gb134)); clear HB; have HB := n0_; have BK134 := n1_; have GW134 := n2_; have GE134 := n3_; clear n0_ n1_ n2_ n3_; clear hb hbox hg) | ((with_reducible refine gate_callee (f := 13) rfl ?_); refine goesL_ (some 16) rfl rfl Tryd.func13 (by kernel_rfl) rfl #[.slice A0 l0.length c0] rfl (by (try simp only [List.map_toArray, List.map_cons, List.map_nil]); first | done | rfl | (simp only [List.length_drop, List.length_take]; rfl)) ?_; (with_reducible refine (leap_Good.calls k _ _ l0 true _ ?side1 ?side2 A3.out).mono ?_); (case side1 => repeat (first | exact (Kd.C_below HR0.out HB.out) | (with_reducible refine Kd.C_alloc ?_ _) | (with_reducible refine Kd.C_drewN ?_ _) | (with_reducible refine Kd.C_drew ?_))); (case side2 => exact HC0.out); rintro e w7 ⟨rfl, hb⟩; refine ⟨_, rfl, ?_⟩; have n0_ := Aside0.mk (blk_below (g := gb134) (o := .cells #[.int .i64 0, .int .i64 0, .int .i64 0, .int .i64 0, .int .i64 0, .int .i64 0] 26 (0, 0)) (by (with_reducible repeat (first | refine blk_drewN ?_ _ | refine blk_drew ?_ | refine blk_alloc ?_ _)); exact BK134.out) hb); have n1_ := Aside0.mk (below_step (by repeat (first | (with_reducible first | exact HB.out | apply below_alloc | apply pw_below_drewN | apply below_drew1 | refine below_set ?_ GE134.out) | exact HB.out)) hb); clear BK134; clear HB; have BK134 := n0_; have HB := n1_; clear n0_ n1_; (try clear hb); (try clear hb2); (try clear hk); (try clear hi)))
  (try simp only [Act.put, List.setIfInBounds_toArray, List.set_cons_zero, List.set_cons_succ])
  go_cut [24] (fun v24 wc => ∃ (kq : Nat) (x24_4 : Bool), v24 = .bool x24_4 ∧ Aside0 (leap_ToLabel.j0 kq l0 a1 x24_4 = some (r1, r2, r3, r4, r5, r6, r7)) ∧ Aside0 (kq ≤ k) ∧ Aside0 (wc.heap[gb134]? = some (.cells #[.int .i64 0, .int .i64 0, .int .i64 0, .int .i64 0, .int .i64 0, .int .i64 0] 26 (0, 0))) ∧ Aside0 (Below w.heap.size w wc))
  case first =>
   have H := HC5.out
   clear HC5
   by_cases c8 : a1 > 4398046511104
   ·rw [if_pos c8] at H
    have c8b0 : decide (4398046511104 < a1) = true := decide_eq_true c8
    clear c8
    (first | rw [c8b0] | (simp only [i64_w, i32_w]; rw [c8b0]) | skip)
    have H' := Aside0.mk H
    clear H
    go_wp2
    go_meet
    case rel => exact ⟨_, (true), (by first | rfl | (simp; done) | (simp [*]; done) | (simp [Int.tdiv_eq_ediv_of_nonneg]; done) | (simp [Go.RowKit.wrap64]; done) | (simp [*, Go.RowKit.wrap64]; done)), H', ⟨by first | omega | exact Nat.le_refl _⟩, ⟨by (with_reducible repeat (first | refine blk_drewN ?_ _ | refine blk_drew ?_ | refine blk_alloc ?_ _)); exact BK134.out⟩, ⟨by repeat (first | (with_reducible first | exact HB.out | apply below_alloc | apply pw_below_drewN | apply below_drew1 | refine below_set ?_ GE134.out) | exact HB.out)⟩⟩
   ·rw [if_neg c8] at H
    have c8b0 : decide (4398046511104 < a1) = false := decide_eq_false c8
    clear c8
    (first | rw [c8b0] | (simp only [i64_w, i32_w]; rw [c8b0]) | skip)
    have H' := Aside0.mk H
    clear H
    go_wp2
    go_meet
    case rel => exact ⟨_, (decide (a1 < (-4398046511104))), (by first | rfl | (simp; done) | (simp [*]; done) | (simp [Int.tdiv_eq_ediv_of_nonneg]; done) | (simp [Go.RowKit.wrap64]; done) | (simp [*, Go.RowKit.wrap64]; done)), H', ⟨by first | omega | exact Nat.le_refl _⟩, ⟨by (with_reducible repeat (first | refine blk_drewN ?_ _ | refine blk_drew ?_ | refine blk_alloc ?_ _)); exact BK134.out⟩, ⟨by repeat (first | (with_reducible first | exact HB.out | apply below_alloc | apply pw_below_drewN | apply below_drew1 | refine below_set ?_ GE134.out) | exact HB.out)⟩⟩
  case rest =>
   clear HC5
   try clear c1
   try clear p2
   try clear c4
   try clear c8
   try clear c8b0
   obtain ⟨kq, x24_4, rfl, HA, HJ4, BK134, HB⟩ := hcut
   cases kq with
   | zero => exact absurd HA.out (by simp [leap_ToLabel.j0])
   | succ kj4 =>
    have H := HA.out
    clear HA
    simp only [leap_ToLabel.j0] at H
    by_cases c9 : x24_4 = true
    ·subst c9
     have H1 : (some (0, 0, 0, 0, 0, 0, 30)) = some (r1, r2, r3, r4, r5, r6, r7) := by rw [if_pos rfl] at H; exact H
     clear H
     have H := H1
     clear H1
     simp only [Option.some.injEq, Prod.mk.injEq] at H
     obtain ⟨rfl, rfl, rfl, rfl, rfl, rfl, rfl⟩ := H
     have hcz10_0 : wc.cell? ⟨gb134, 0, none⟩ = some (.int .i64 0) := (blk_cell BK134.out 0).trans rfl
     have hcz10_1 : wc.cell? ⟨gb134, 1, none⟩ = some (.int .i64 0) := (blk_cell BK134.out 1).trans rfl
     have hcz10_2 : wc.cell? ⟨gb134, 2, none⟩ = some (.int .i64 0) := (blk_cell BK134.out 2).trans rfl
     have hcz10_3 : wc.cell? ⟨gb134, 3, none⟩ = some (.int .i64 0) := (blk_cell BK134.out 3).trans rfl
     have hcz10_4 : wc.cell? ⟨gb134, 4, none⟩ = some (.int .i64 0) := (blk_cell BK134.out 4).trans rfl
     have hcz10_5 : wc.cell? ⟨gb134, 5, none⟩ = some (.int .i64 0) := (blk_cell BK134.out 5).trans rfl
     have hfz10_0 := blk_frozen BK134.out 0
     have hfz10_1 := blk_frozen BK134.out 1
     have hfz10_2 := blk_frozen BK134.out 2
     have hfz10_3 := blk_frozen BK134.out 3
     have hfz10_4 := blk_frozen BK134.out 4
     have hfz10_5 := blk_frozen BK134.out 5
     go_wp2
     refine bodyPost_ret (results_ct rfl _ _ gb134 26 #[.int .i64 0, .int .i64 0, .int .i64 0, .int .i64 0, .int .i64 0, .int .i64 0] (0, 0) _ rfl (by (with_reducible repeat (first | refine blk_drewN ?_ _ | refine blk_drew ?_ | refine blk_alloc ?_ _)); refine blk_put (cs := #[.int .i64 0, .int .i64 0, .int .i64 0, .int .i64 0, .int .i64 0, .int .i64 0]) ?_ 5 _ rfl; (with_reducible repeat (first | refine blk_drewN ?_ _ | refine blk_drew ?_ | refine blk_alloc ?_ _)); refine blk_put (cs := #[.int .i64 0, .int .i64 0, .int .i64 0, .int .i64 0, .int .i64 0, .int .i64 0]) ?_ 4 _ rfl; (with_reducible repeat (first | refine blk_drewN ?_ _ | refine blk_drew ?_ | refine blk_alloc ?_ _)); refine blk_put (cs := #[.int .i64 0, .int .i64 0, .int .i64 0, .int .i64 0, .int .i64 0, .int .i64 0]) ?_ 3 _ rfl; (with_reducible repeat (first | refine blk_drewN ?_ _ | refine blk_drew ?_ | refine blk_alloc ?_ _)); refine blk_put (cs := #[.int .i64 0, .int .i64 0, .int .i64 0, .int .i64 0, .int .i64 0, .int .i64 0]) ?_ 2 _ rfl; (with_reducible repeat (first | refine blk_drewN ?_ _ | refine blk_drew ?_ | refine blk_alloc ?_ _)); refine blk_put (cs := #[.int .i64 0, .int .i64 0, .int .i64 0, .int .i64 0, .int .i64 0, .int .i64 0]) ?_ 1 _ rfl; (with_reducible repeat (first | refine blk_drewN ?_ _ | refine blk_drew ?_ | refine blk_alloc ?_ _)); refine blk_put (cs := #[.int .i64 0, .int .i64 0, .int .i64 0, .int .i64 0, .int .i64 0, .int .i64 0]) ?_ 0 _ rfl; (with_reducible repeat (first | refine blk_drewN ?_ _ | refine blk_drew ?_ | refine blk_alloc ?_ _)); exact BK134.out) Tryd.underlying26 rfl (by kernel_rfl)) rfl ?_
     exact ⟨by first | rfl | (simp [errW_none, errW_some] <;> rfl) | (simp [*, errW_none, errW_some] <;> rfl), by repeat (first | (with_reducible first | exact HB.out | apply below_alloc | apply pw_below_drewN | apply below_drew1 | refine below_set ?_ GE134.out) | exact HB.out)⟩
    ·replace c9 := Bool.eq_false_iff.mpr c9
     subst c9
     have H1 : ((leap_at.f kj4 l0 a1).bind fun bt136 => (if bt136.2 = true then (leap_ToLabel.j1 kj4 (wrap64 (a1 - 1)) bt136.1 bt136.2) else (leap_ToLabel.j1 kj4 a1 bt136.1 bt136.2))) = some (r1, r2, r3, r4, r5, r6, r7) := by rw [if_neg (show ¬ (false = true) by decide)] at H; exact H
     clear H
     have H := H1
     clear H1
     replace H := Option.bind_eq_some_iff.mp H
     obtain ⟨⟨t136, t137⟩, A110, H⟩ := H
     replace H : (if t137 = true then (leap_ToLabel.j1 kj4 (wrap64 (a1 - 1)) t136 t137) else (leap_ToLabel.j1 kj4 a1 t136 t137)) = some (r1, r2, r3, r4, r5, r6, r7) := H
     have A11 := Aside0.mk A110
     clear A110
     have HC12 := Aside0.mk H
     clear H
     go_upto_if 32 with (first | ((with_reducible refine gate_callee (f := 22) rfl ?_); refine goesL_ (some 29) rfl rfl Tryd.func22 (by kernel_rfl) rfl #[.slice A0 l0.length c0, .int .i64 a1] rfl (by (try simp only [List.map_toArray, List.map_cons, List.map_nil]); first | done | rfl | (simp only [List.length_drop, List.length_take]; rfl)) ?_; (with_reducible refine (leap_at.calls kj4 _ _ l0 a1 t136 t137 _ ?side1 ?side2 A11.out).mono ?_); (case side1 => repeat (first | exact (Kd.C_below HR0.out HB.out) | (with_reducible refine Kd.C_alloc ?_ _) | (with_reducible refine Kd.C_drewN ?_ _) | (with_reducible refine Kd.C_drew ?_))); (case side2 => exact HC0.out); rintro e w13 ⟨rfl, hb⟩; refine ⟨_, rfl, ?_⟩; have n0_ := Aside0.mk (blk_below (g := gb134) (o := .cells #[.int .i64 0, .int .i64 0, .int .i64 0, .int .i64 0, .int .i64 0, .int .i64 0] 26 (0, 0)) (by (with_reducible repeat (first | refine blk_drewN ?_ _ | refine blk_drew ?_ | refine blk_alloc ?_ _)); exact BK134.out) hb); have n1_ := Aside0.mk (below_step (by repeat (first | (with_reducible first | exact HB.out | apply below_alloc | apply pw_below_drewN | apply below_drew1 | refine below_set ?_ GE134.out) | exact HB.out)) hb); clear BK134; clear HB; have BK134 := n0_; have HB := n1_; clear n0_ n1_; (try clear hb); (try clear hb2); (try clear hk); (try clear hi)))
     (try simp only [Act.put, List.setIfInBounds_toArray, List.set_cons_zero, List.set_cons_succ])
     go_cut [1] (fun v1 wc => ∃ (kq : Nat) (x1_11 : Int), v1 = .int .i64 x1_11 ∧ Aside0 (leap_ToLabel.j1 kq x1_11 t136 t137 = some (r1, r2, r3, r4, r5, r6, r7)) ∧ Aside0 (kq ≤ kj4) ∧ Aside0 (wc.heap[gb134]? = some (.cells #[.int .i64 0, .int .i64 0, .int .i64 0, .int .i64 0, .int .i64 0, .int .i64 0] 26 (0, 0))) ∧ Aside0 (Below w.heap.size w wc))
     case first =>
      have H := HC12.out
      clear HC12
      by_cases c14 : t137 = true
      ·subst c14
       have H1 : (leap_ToLabel.j1 kj4 (wrap64 (a1 - 1)) t136 true) = some (r1, r2, r3, r4, r5, r6, r7) := by rw [if_pos rfl] at H; exact H
       clear H
       have H := H1
       clear H1
       have H' := Aside0.mk H
       clear H
       go_wp2
       go_meet
       case rel => exact ⟨_, (wrap64 (a1 - 1)), (by first | rfl | (simp; done) | (simp [*]; done) | (simp [Int.tdiv_eq_ediv_of_nonneg]; done) | (simp [Go.RowKit.wrap64]; done) | (simp [*, Go.RowKit.wrap64]; done)), H', ⟨by have := HJ4.out; first | omega | exact Nat.le_refl _⟩, ⟨by (with_reducible repeat (first | refine blk_drewN ?_ _ | refine blk_drew ?_ | refine blk_alloc ?_ _)); exact BK134.out⟩, ⟨by repeat (first | (with_reducible first | exact HB.out | apply below_alloc | apply pw_below_drewN | apply below_drew1 | refine below_set ?_ GE134.out) | exact HB.out)⟩⟩
      ·replace c14 := Bool.eq_false_iff.mpr c14
       subst c14
       have H1 : (leap_ToLabel.j1 kj4 a1 t136 false) = some (r1, r2, r3, r4, r5, r6, r7) := by rw [if_neg (show ¬ (false = true) by decide)] at H; exact H
       clear H
       have H := H1
       clear H1
       have H' := Aside0.mk H
       clear H
       go_wp2
       go_meet
       case rel => exact ⟨_, (a1), (by first | rfl | (simp; done) | (simp [*]; done) | (simp [Int.tdiv_eq_ediv_of_nonneg]; done) | (simp [Go.RowKit.wrap64]; done) | (simp [*, Go.RowKit.wrap64]; done)), H', ⟨by have := HJ4.out; first | omega | exact Nat.le_refl _⟩, ⟨by (with_reducible repeat (first | refine blk_drewN ?_ _ | refine blk_drew ?_ | refine blk_alloc ?_ _)); exact BK134.out⟩, ⟨by repeat (first | (with_reducible first | exact HB.out | apply below_alloc | apply pw_below_drewN | apply below_drew1 | refine below_set ?_ GE134.out) | exact HB.out)⟩⟩
     case rest =>
      clear HC12
      try clear c1
      try clear c2
      try clear p2
      try clear c4
      try clear p6
      try clear c8
      try clear c8b0
      try clear c9
      try clear c12
      try clear c13
      try clear c14
      try clear hcz10_0
      try clear hcz10_1
      try clear hcz10_2
      try clear hcz10_3
      try clear hcz10_4
      try clear hcz10_5
      try clear hfz10_0
      try clear hfz10_1
      try clear hfz10_2
      try clear hfz10_3
      try clear hfz10_4
      try clear hfz10_5
      try clear p2
      obtain ⟨kq, x1_11, rfl, HA, HJ11, BK134, HB⟩ := hcut
      cases kq with
      | zero => exact absurd HA.out (by simp [leap_ToLabel.j1])
      | succ kj11 =>
       have H := HA.out
       clear HA
       simp only [leap_ToLabel.j1] at H
       replace H := Option.bind_eq_some_iff.mp H
       obtain ⟨⟨t138, t139⟩, A150, H⟩ := H
       replace H : ((civil_Date.f kj11 t138).bind fun bt140 => (if t137 = true then (some (bt140.1, bt140.2.1, bt140.2.2.1, wrap64 (Int.tdiv t139 3600), Int.tmod (wrap64 (Int.tdiv t139 60)) 60, wrap64 ((Int.tmod t139 60) + 1), 0)) else (some (bt140.1, bt140.2.1, bt140.2.2.1, wrap64 (Int.tdiv t139 3600), Int.tmod (wrap64 (Int.tdiv t139 60)) 60, Int.tmod t139 60, 0)))) = some (r1, r2, r3, r4, r5, r6, r7) := H
       have A15 := Aside0.mk A150
       clear A150
       replace H := Option.bind_eq_some_iff.mp H
       obtain ⟨⟨t140, t141, t142, t143⟩, A160, H⟩ := H
       replace H : (if t137 = true then (some (t140, t141, t142, wrap64 (Int.tdiv t139 3600), Int.tmod (wrap64 (Int.tdiv t139 60)) 60, wrap64 ((Int.tmod t139 60) + 1), 0)) else (some (t140, t141, t142, wrap64 (Int.tdiv t139 3600), Int.tmod (wrap64 (Int.tdiv t139 60)) 60, Int.tmod t139 60, 0))) = some (r1, r2, r3, r4, r5, r6, r7) := H
       have A16 := Aside0.mk A160
       clear A160
       by_cases c17 : t137 = true
       ·subst c17
        have H1 : (some (t140, t141, t142, wrap64 (Int.tdiv t139 3600), Int.tmod (wrap64 (Int.tdiv t139 60)) 60, wrap64 ((Int.tmod t139 60) + 1), 0)) = some (r1, r2, r3, r4, r5, r6, r7) := by rw [if_pos rfl] at H; exact H
        clear H
        have H := H1
        clear H1
        simp only [Option.some.injEq, Prod.mk.injEq] at H
        have NH := Aside0.mk H
        clear H
        go_upto_region 11 with (first | ((with_reducible refine gate_callee (f := 23) rfl ?_); refine goesL_ (some 39) rfl rfl Tryd.func23 (by kernel_rfl) rfl #[.int .i64 (wrap64 (x1_11 - t136)), .int .i64 86400] rfl (by (try simp only [List.map_toArray, List.map_cons, List.map_nil]); first | done | rfl | (simp only [List.length_drop, List.length_take]; rfl)) ?_; (with_reducible refine (wide_Div.calls kj11 (wrap64 (x1_11 - t136)) 86400 t138 t139 _ A15.out).mono ?_); rintro e w18 ⟨rfl, hb⟩; refine ⟨_, rfl, ?_⟩; have n0_ := Aside0.mk (blk_below (g := gb134) (o := .cells #[.int .i64 0, .int .i64 0, .int .i64 0, .int .i64 0, .int .i64 0, .int .i64 0] 26 (0, 0)) (by (with_reducible repeat (first | refine blk_drewN ?_ _ | refine blk_drew ?_ | refine blk_alloc ?_ _)); exact BK134.out) hb); have n1_ := Aside0.mk (below_step (by repeat (first | (with_reducible first | exact HB.out | apply below_alloc | apply pw_below_drewN | apply below_drew1 | refine below_set ?_ GE134.out) | exact HB.out)) hb); clear BK134; clear HB; have BK134 := n0_; have HB := n1_; clear n0_ n1_; (try clear hb); (try clear hb2); (try clear hk); (try clear hi)) | ((with_reducible refine gate_callee (f := 24) rfl ?_); refine goesL_ (some 44) rfl rfl Tryd.func24 (by kernel_rfl) rfl #[.int .i64 t138] rfl (by (try simp only [List.map_toArray, List.map_cons, List.map_nil]); first | done | rfl | (simp only [List.length_drop, List.length_take]; rfl)) ?_; (with_reducible refine (civil_Date.calls kj11 t138 t140 t141 t142 t143 _ (by first | exact hM | exact hM.below HB.out | repeat (first | exact hM | exact hM.below HB.out | apply GM.drewN | apply GM.drew)) A16.out).mono ?_); rintro e w19 ⟨rfl, hb⟩; refine ⟨_, rfl, ?_⟩; have n0_ := Aside0.mk (blk_below (g := gb134) (o := .cells #[.int .i64 0, .int .i64 0, .int .i64 0, .int .i64 0, .int .i64 0, .int .i64 0] 26 (0, 0)) (by (with_reducible repeat (first | refine blk_drewN ?_ _ | refine blk_drew ?_ | refine blk_alloc ?_ _)); exact BK134.out) hb); have n1_ := Aside0.mk (below_step (by repeat (first | (with_reducible first | exact HB.out | apply below_alloc | apply pw_below_drewN | apply below_drew1 | refine below_set ?_ GE134.out) | exact HB.out)) hb); clear BK134; clear HB; have BK134 := n0_; have HB := n1_; clear n0_ n1_; (try clear hb); (try clear hb2); (try clear hk); (try clear hi)) | ((with_reducible refine gate_dst (N := 14) rfl ?_); refine box_event ?hg (N := 14) ?hd (cs := #[.int .i64 0, .int .i64 0, .int .i64 0, .int .i64 0, .int .i64 0, .int .i64 0]) (t := 26) ?hr ?_; (case hd => rfl); (case hg => rfl); (case hr => first | (go_simp; done) | (go_simp; rfl)); intro gb144 hg w20 hbox hb; have n0_ := Aside0.mk (blk_below (g := gb134) (o := .cells #[.int .i64 0, .int .i64 0, .int .i64 0, .int .i64 0, .int .i64 0, .int .i64 0] 26 (0, 0)) (by (with_reducible repeat (first | refine blk_drewN ?_ _ | refine blk_drew ?_ | refine blk_alloc ?_ _)); exact BK134.out) hb); have n1_ := Aside0.mk (below_step (by repeat (first | (with_reducible first | exact HB.out | apply below_alloc | apply pw_below_drewN | apply below_drew1 | refine below_set ?_ GE134.out) | exact HB.out)) hb); have n2_ := Aside0.mk (hbox); have n3_ := Aside0.mk ((by rw [hg]; exact (below_size (by repeat (first | (with_reducible first | exact HB.out | apply below_alloc | apply pw_below_drewN | apply below_drew1 | refine below_set ?_ GE134.out) | exact HB.out))) : w.heap.size ≤ gb144)); have n4_ := Aside0.mk ((by rw [hg]; exact (below_size (by repeat (first | (with_reducible first | exact HB.out | apply below_alloc | apply pw_below_drewN | apply below_drew1 | refine below_set ?_ GE134.out) | exact HB.out))) : w.heap.size ≤ gb144)); have n5_ := Aside0.mk ((by rw [hg]; exact Nat.ne_of_lt (blk_lt (g := gb134) (o := .cells #[.int .i64 0, .int .i64 0, .int .i64 0, .int .i64 0, .int .i64 0, .int .i64 0] 26 (0, 0)) (by (with_reducible repeat (first | refine blk_drewN ?_ _ | refine blk_drew ?_ | refine blk_alloc ?_ _)); exact BK134.out)) : gb134 ≠ gb144)); have n6_ := Aside0.mk ((by rw [hg]; exact Nat.ne_of_gt (blk_lt (g := gb134) (o := .cells #[.int .i64 0, .int .i64 0, .int .i64 0, .int .i64 0, .int .i64 0, .int .i64 0] 26 (0, 0)) (by (with_reducible repeat (first | refine blk_drewN ?_ _ | refine blk_drew ?_ | refine blk_alloc ?_ _)); exact BK134.out)) : gb144 ≠ gb134)); clear BK134; clear HB; have BK134 := n0_; have HB := n1_; have BK144 := n2_; have GW144 := n3_; have GE144 := n4_; have NB134_144 := n5_; have NB144_134 := n6_; clear n0_ n1_ n2_ n3_ n4_ n5_ n6_; clear hb hbox hg; have hnb21 := NB144_134.out; have hnc21 := NB134_144.out; have hcz22_0 : w20.cell? ⟨gb144, 0, none⟩ = some (.int .i64 0) := (blk_cell BK144.out 0).trans rfl; have hcz22_1 : w20.cell? ⟨gb144, 1, none⟩ = some (.int .i64 0) := (blk_cell BK144.out 1).trans rfl; have hcz22_2 : w20.cell? ⟨gb144, 2, none⟩ = some (.int .i64 0) := (blk_cell BK144.out 2).trans rfl; have hcz22_3 : w20.cell? ⟨gb144, 3, none⟩ = some (.int .i64 0) := (blk_cell BK144.out 3).trans rfl; have hcz22_4 : w20.cell? ⟨gb144, 4, none⟩ = some (.int .i64 0) := (blk_cell BK144.out 4).trans rfl; have hcz22_5 : w20.cell? ⟨gb144, 5, none⟩ = some (.int .i64 0) := (blk_cell BK144.out 5).trans rfl; have hfz22_0 := blk_frozen BK144.out 0; have hfz22_1 := blk_frozen BK144.out 1; have hfz22_2 := blk_frozen BK144.out 2; have hfz22_3 := blk_frozen BK144.out 3; have hfz22_4 := blk_frozen BK144.out 4; have hfz22_5 := blk_frozen BK144.out 5; have hcz23_0 : w20.cell? ⟨gb134, 0, none⟩ = some (.int .i64 0) := (blk_cell BK134.out 0).trans rfl; have hcz23_1 : w20.cell? ⟨gb134, 1, none⟩ = some (.int .i64 0) := (blk_cell BK134.out 1).trans rfl; have hcz23_2 : w20.cell? ⟨gb134, 2, none⟩ = some (.int .i64 0) := (blk_cell BK134.out 2).trans rfl; have hcz23_3 : w20.cell? ⟨gb134, 3, none⟩ = some (.int .i64 0) := (blk_cell BK134.out 3).trans rfl; have hcz23_4 : w20.cell? ⟨gb134, 4, none⟩ = some (.int .i64 0) := (blk_cell BK134.out 4).trans rfl; have hcz23_5 : w20.cell? ⟨gb134, 5, none⟩ = some (.int .i64 0) := (blk_cell BK134.out 5).trans rfl; have hfz23_0 := blk_frozen BK134.out 0; have hfz23_1 := blk_frozen BK134.out 1; have hfz23_2 := blk_frozen BK134.out 2; have hfz23_3 := blk_frozen BK134.out 3; have hfz23_4 := blk_frozen BK134.out 4; have hfz23_5 := blk_frozen BK134.out 5))
        obtain ⟨v0, hv0⟩ : ∃ v, v = wrap64 (Int.tdiv t139 3600) := ⟨_, rfl⟩
        obtain ⟨v1, hv1⟩ : ∃ v, v = Int.tmod (wrap64 (Int.tdiv t139 60)) 60 := ⟨_, rfl⟩
        obtain ⟨v2, hv2⟩ : ∃ v, v = Int.tmod t139 60 := ⟨_, rfl⟩
        obtain ⟨h1_, h2_, h3_, h4_, h5_, h6_, h7_⟩ := NH.out
        clear NH
        rw [← hv0] at h4_
        rw [← hv1] at h5_
        rw [← hv2] at h6_
        subst h1_ h2_ h3_ h4_ h5_ h6_ h7_
        rw [← hv0, ← hv1, ← hv2]
        clear hv0 hv1 hv2
        have m0_ : Aside0 (((((((w20.setCell ⟨gb144, 0, none⟩ (.int .i64 t140)).setCell ⟨gb144, 1, none⟩ (.int .i64 t141)).setCell ⟨gb144, 2, none⟩ (.int .i64 t142)).setCell ⟨gb144, 3, none⟩ (.int .i64 v0)).setCell ⟨gb144, 4, none⟩ (.int .i64 v1)).setCell ⟨gb144, 5, none⟩ (.int .i64 v2)).heap[gb144]? = some (.cells #[.int .i64 t140, .int .i64 t141, .int .i64 t142, .int .i64 v0, .int .i64 v1, .int .i64 v2] 26 (0, 0))) := ⟨by refine blk_put (cs := #[.int .i64 t140, .int .i64 t141, .int .i64 t142, .int .i64 v0, .int .i64 v1, .int .i64 0]) ?_ 5 _ rfl; refine blk_put (cs := #[.int .i64 t140, .int .i64 t141, .int .i64 t142, .int .i64 v0, .int .i64 0, .int .i64 0]) ?_ 4 _ rfl; refine blk_put (cs := #[.int .i64 t140, .int .i64 t141, .int .i64 t142, .int .i64 0, .int .i64 0, .int .i64 0]) ?_ 3 _ rfl; refine blk_put (cs := #[.int .i64 t140, .int .i64 t141, .int .i64 0, .int .i64 0, .int .i64 0, .int .i64 0]) ?_ 2 _ rfl; refine blk_put (cs := #[.int .i64 t140, .int .i64 0, .int .i64 0, .int .i64 0, .int .i64 0, .int .i64 0]) ?_ 1 _ rfl; refine blk_put (cs := #[.int .i64 0, .int .i64 0, .int .i64 0, .int .i64 0, .int .i64 0, .int .i64 0]) ?_ 0 _ rfl; exact BK144.out⟩
        have m1_ : Aside0 (((((((w20.setCell ⟨gb144, 0, none⟩ (.int .i64 t140)).setCell ⟨gb144, 1, none⟩ (.int .i64 t141)).setCell ⟨gb144, 2, none⟩ (.int .i64 t142)).setCell ⟨gb144, 3, none⟩ (.int .i64 v0)).setCell ⟨gb144, 4, none⟩ (.int .i64 v1)).setCell ⟨gb144, 5, none⟩ (.int .i64 v2)).heap[gb134]? = some (.cells #[.int .i64 0, .int .i64 0, .int .i64 0, .int .i64 0, .int .i64 0, .int .i64 0] 26 (0, 0))) := ⟨by refine blk_far ?_ NB134_144.out _; refine blk_far ?_ NB134_144.out _; refine blk_far ?_ NB134_144.out _; refine blk_far ?_ NB134_144.out _; refine blk_far ?_ NB134_144.out _; refine blk_far ?_ NB134_144.out _; exact BK134.out⟩
        have m2_ : Aside0 (Below w.heap.size w ((((((w20.setCell ⟨gb144, 0, none⟩ (.int .i64 t140)).setCell ⟨gb144, 1, none⟩ (.int .i64 t141)).setCell ⟨gb144, 2, none⟩ (.int .i64 t142)).setCell ⟨gb144, 3, none⟩ (.int .i64 v0)).setCell ⟨gb144, 4, none⟩ (.int .i64 v1)).setCell ⟨gb144, 5, none⟩ (.int .i64 v2))) := ⟨by refine below_set ?_ GE144.out; refine below_set ?_ GE144.out; refine below_set ?_ GE144.out; refine below_set ?_ GE144.out; refine below_set ?_ GE144.out; refine below_set ?_ GE144.out; exact HB.out⟩
        clear hcz22_0 hcz22_1 hcz22_2 hcz22_3 hcz22_4 hcz22_5 hfz22_0 hfz22_1 hfz22_2 hfz22_3 hfz22_4 hfz22_5 hcz23_0 hcz23_1 hcz23_2 hcz23_3 hcz23_4 hcz23_5 hfz23_0 hfz23_1 hfz23_2 hfz23_3 hfz23_4 hfz23_5
        clear BK144 BK134 HB
        generalize ((((((w20.setCell ⟨gb144, 0, none⟩ (.int .i64 t140)).setCell ⟨gb144, 1, none⟩ (.int .i64 t141)).setCell ⟨gb144, 2, none⟩ (.int .i64 t142)).setCell ⟨gb144, 3, none⟩ (.int .i64 v0)).setCell ⟨gb144, 4, none⟩ (.int .i64 v1)).setCell ⟨gb144, 5, none⟩ (.int .i64 v2)) = wz at m0_ m1_ m2_ ⊢
        have hcg_0 : wz.cell? ⟨gb144, 0, none⟩ = some (.int .i64 t140) := (blk_cell m0_.out 0).trans rfl
        have hfg_0 := blk_frozen m0_.out 0
        have hcg_1 : wz.cell? ⟨gb144, 1, none⟩ = some (.int .i64 t141) := (blk_cell m0_.out 1).trans rfl
        have hfg_1 := blk_frozen m0_.out 1
        have hcg_2 : wz.cell? ⟨gb144, 2, none⟩ = some (.int .i64 t142) := (blk_cell m0_.out 2).trans rfl
        have hfg_2 := blk_frozen m0_.out 2
        have hcg_3 : wz.cell? ⟨gb144, 3, none⟩ = some (.int .i64 v0) := (blk_cell m0_.out 3).trans rfl
        have hfg_3 := blk_frozen m0_.out 3
        have hcg_4 : wz.cell? ⟨gb144, 4, none⟩ = some (.int .i64 v1) := (blk_cell m0_.out 4).trans rfl
        have hfg_4 := blk_frozen m0_.out 4
        have hcg_5 : wz.cell? ⟨gb144, 5, none⟩ = some (.int .i64 v2) := (blk_cell m0_.out 5).trans rfl
        have hfg_5 := blk_frozen m0_.out 5
        have hcr_0 : wz.cell? ⟨gb134, 0, none⟩ = some (.int .i64 0) := (blk_cell m1_.out 0).trans rfl
        have hfr_0 := blk_frozen m1_.out 0
        have hcr_1 : wz.cell? ⟨gb134, 1, none⟩ = some (.int .i64 0) := (blk_cell m1_.out 1).trans rfl
        have hfr_1 := blk_frozen m1_.out 1
        have hcr_2 : wz.cell? ⟨gb134, 2, none⟩ = some (.int .i64 0) := (blk_cell m1_.out 2).trans rfl
        have hfr_2 := blk_frozen m1_.out 2
        have hcr_3 : wz.cell? ⟨gb134, 3, none⟩ = some (.int .i64 0) := (blk_cell m1_.out 3).trans rfl
        have hfr_3 := blk_frozen m1_.out 3
        have hcr_4 : wz.cell? ⟨gb134, 4, none⟩ = some (.int .i64 0) := (blk_cell m1_.out 4).trans rfl
        have hfr_4 := blk_frozen m1_.out 4
        have hcr_5 : wz.cell? ⟨gb134, 5, none⟩ = some (.int .i64 0) := (blk_cell m1_.out 5).trans rfl
        have hfr_5 := blk_frozen m1_.out 5
        go_wp2
        refine bodyPost_ret (results_ct rfl _ _ gb134 26 #[.int .i64 t140, .int .i64 t141, .int .i64 t142, .int .i64 v0, .int .i64 v1, .int .i64 (wrap64 (v2 + 1))] (0, 0) _ rfl (by refine blk_put (cs := #[.int .i64 t140, .int .i64 t141, .int .i64 t142, .int .i64 v0, .int .i64 v1, .int .i64 0]) ?_ 5 _ rfl; refine blk_put (cs := #[.int .i64 t140, .int .i64 t141, .int .i64 t142, .int .i64 v0, .int .i64 0, .int .i64 0]) ?_ 4 _ rfl; refine blk_put (cs := #[.int .i64 t140, .int .i64 t141, .int .i64 t142, .int .i64 0, .int .i64 0, .int .i64 0]) ?_ 3 _ rfl; refine blk_put (cs := #[.int .i64 t140, .int .i64 t141, .int .i64 0, .int .i64 0, .int .i64 0, .int .i64 0]) ?_ 2 _ rfl; refine blk_put (cs := #[.int .i64 t140, .int .i64 0, .int .i64 0, .int .i64 0, .int .i64 0, .int .i64 0]) ?_ 1 _ rfl; refine blk_put (cs := #[.int .i64 0, .int .i64 0, .int .i64 0, .int .i64 0, .int .i64 0, .int .i64 0]) ?_ 0 _ rfl; refine blk_far ?_ NB134_144.out _; exact m1_.out) Tryd.underlying26 rfl (by kernel_rfl)) rfl ?_
        exact ⟨rfl, by refine below_set ?_ GE134.out; refine below_set ?_ GE134.out; refine below_set ?_ GE134.out; refine below_set ?_ GE134.out; refine below_set ?_ GE134.out; refine below_set ?_ GE134.out; refine below_set ?_ GE144.out; exact m2_.out⟩
       ·replace c17 := Bool.eq_false_iff.mpr c17
        subst c17
        have H1 : (some (t140, t141, t142, wrap64 (Int.tdiv t139 3600), Int.tmod (wrap64 (Int.tdiv t139 60)) 60, Int.tmod t139 60, 0)) = some (r1, r2, r3, r4, r5, r6, r7) := by rw [if_neg (show ¬ (false = true) by decide)] at H; exact H
        clear H
        have H := H1
        clear H1
        simp only [Option.some.injEq, Prod.mk.injEq] at H
        have NH := Aside0.mk H
        clear H
        go_upto_region 11 with (first | ((with_reducible refine gate_callee (f := 23) rfl ?_); refine goesL_ (some 39) rfl rfl Tryd.func23 (by kernel_rfl) rfl #[.int .i64 (wrap64 (x1_11 - t136)), .int .i64 86400] rfl (by (try simp only [List.map_toArray, List.map_cons, List.map_nil]); first | done | rfl | (simp only [List.length_drop, List.length_take]; rfl)) ?_; (with_reducible refine (wide_Div.calls kj11 (wrap64 (x1_11 - t136)) 86400 t138 t139 _ A15.out).mono ?_); rintro e w24 ⟨rfl, hb⟩; refine ⟨_, rfl, ?_⟩; have n0_ := Aside0.mk (blk_below (g := gb134) (o := .cells #[.int .i64 0, .int .i64 0, .int .i64 0, .int .i64 0, .int .i64 0, .int .i64 0] 26 (0, 0)) (by (with_reducible repeat (first | refine blk_drewN ?_ _ | refine blk_drew ?_ | refine blk_alloc ?_ _)); exact BK134.out) hb); have n1_ := Aside0.mk (below_step (by repeat (first | (with_reducible first | exact HB.out | apply below_alloc | apply pw_below_drewN | apply below_drew1 | refine below_set ?_ GE134.out) | exact HB.out)) hb); clear BK134; clear HB; have BK134 := n0_; have HB := n1_; clear n0_ n1_; (try clear hb); (try clear hb2); (try clear hk); (try clear hi)) | ((with_reducible refine gate_callee (f := 24) rfl ?_); refine goesL_ (some 44) rfl rfl Tryd.func24 (by kernel_rfl) rfl #[.int .i64 t138] rfl (by (try simp only [List.map_toArray, List.map_cons, List.map_nil]); first | done | rfl | (simp only [List.length_drop, List.length_take]; rfl)) ?_; (with_reducible refine (civil_Date.calls kj11 t138 t140 t141 t142 t143 _ (by first | exact hM | exact hM.below HB.out | repeat (first | exact hM | exact hM.below HB.out | apply GM.drewN | apply GM.drew)) A16.out).mono ?_); rintro e w25 ⟨rfl, hb⟩; refine ⟨_, rfl, ?_⟩; have n0_ := Aside0.mk (blk_below (g := gb134) (o := .cells #[.int .i64 0, .int .i64 0, .int .i64 0, .int .i64 0, .int .i64 0, .int .i64 0] 26 (0, 0)) (by (with_reducible repeat (first | refine blk_drewN ?_ _ | refine blk_drew ?_ | refine blk_alloc ?_ _)); exact BK134.out) hb); have n1_ := Aside0.mk (below_step (by repeat (first | (with_reducible first | exact HB.out | apply below_alloc | apply pw_below_drewN | apply below_drew1 | refine below_set ?_ GE134.out) | exact HB.out)) hb); clear BK134; clear HB; have BK134 := n0_; have HB := n1_; clear n0_ n1_; (try clear hb); (try clear hb2); (try clear hk); (try clear hi)) | ((with_reducible refine gate_dst (N := 14) rfl ?_); refine box_event ?hg (N := 14) ?hd (cs := #[.int .i64 0, .int .i64 0, .int .i64 0, .int .i64 0, .int .i64 0, .int .i64 0]) (t := 26) ?hr ?_; (case hd => rfl); (case hg => rfl); (case hr => first | (go_simp; done) | (go_simp; rfl)); intro gb144 hg w26 hbox hb; have n0_ := Aside0.mk (blk_below (g := gb134) (o := .cells #[.int .i64 0, .int .i64 0, .int .i64 0, .int .i64 0, .int .i64 0, .int .i64 0] 26 (0, 0)) (by (with_reducible repeat (first | refine blk_drewN ?_ _ | refine blk_drew ?_ | refine blk_alloc ?_ _)); exact BK134.out) hb); have n1_ := Aside0.mk (below_step (by repeat (first | (with_reducible first | exact HB.out | apply below_alloc | apply pw_below_drewN | apply below_drew1 | refine below_set ?_ GE134.out) | exact HB.out)) hb); have n2_ := Aside0.mk (hbox); have n3_ := Aside0.mk ((by rw [hg]; exact (below_size (by repeat (first | (with_reducible first | exact HB.out | apply below_alloc | apply pw_below_drewN | apply below_drew1 | refine below_set ?_ GE134.out) | exact HB.out))) : w.heap.size ≤ gb144)); have n4_ := Aside0.mk ((by rw [hg]; exact (below_size (by repeat (first | (with_reducible first | exact HB.out | apply below_alloc | apply pw_below_drewN | apply below_drew1 | refine below_set ?_ GE134.out) | exact HB.out))) : w.heap.size ≤ gb144)); have n5_ := Aside0.mk ((by rw [hg]; exact Nat.ne_of_lt (blk_lt (g := gb134) (o := .cells #[.int .i64 0, .int .i64 0, .int .i64 0, .int .i64 0, .int .i64 0, .int .i64 0] 26 (0, 0)) (by (with_reducible repeat (first | refine blk_drewN ?_ _ | refine blk_drew ?_ | refine blk_alloc ?_ _)); exact BK134.out)) : gb134 ≠ gb144)); have n6_ := Aside0.mk ((by rw [hg]; exact Nat.ne_of_gt (blk_lt (g := gb134) (o := .cells #[.int .i64 0, .int .i64 0, .int .i64 0, .int .i64 0, .int .i64 0, .int .i64 0] 26 (0, 0)) (by (with_reducible repeat (first | refine blk_drewN ?_ _ | refine blk_drew ?_ | refine blk_alloc ?_ _)); exact BK134.out)) : gb144 ≠ gb134)); clear BK134; clear HB; have BK134 := n0_; have HB := n1_; have BK144 := n2_; have GW144 := n3_; have GE144 := n4_; have NB134_144 := n5_; have NB144_134 := n6_; clear n0_ n1_ n2_ n3_ n4_ n5_ n6_; clear hb hbox hg; have hnb27 := NB144_134.out; have hnc27 := NB134_144.out; have hcz28_0 : w26.cell? ⟨gb144, 0, none⟩ = some (.int .i64 0) := (blk_cell BK144.out 0).trans rfl; have hcz28_1 : w26.cell? ⟨gb144, 1, none⟩ = some (.int .i64 0) := (blk_cell BK144.out 1).trans rfl; have hcz28_2 : w26.cell? ⟨gb144, 2, none⟩ = some (.int .i64 0) := (blk_cell BK144.out 2).trans rfl; have hcz28_3 : w26.cell? ⟨gb144, 3, none⟩ = some (.int .i64 0) := (blk_cell BK144.out 3).trans rfl; have hcz28_4 : w26.cell? ⟨gb144, 4, none⟩ = some (.int .i64 0) := (blk_cell BK144.out 4).trans rfl; have hcz28_5 : w26.cell? ⟨gb144, 5, none⟩ = some (.int .i64 0) := (blk_cell BK144.out 5).trans rfl; have hfz28_0 := blk_frozen BK144.out 0; have hfz28_1 := blk_frozen BK144.out 1; have hfz28_2 := blk_frozen BK144.out 2; have hfz28_3 := blk_frozen BK144.out 3; have hfz28_4 := blk_frozen BK144.out 4; have hfz28_5 := blk_frozen BK144.out 5; have hcz29_0 : w26.cell? ⟨gb134, 0, none⟩ = some (.int .i64 0) := (blk_cell BK134.out 0).trans rfl; have hcz29_1 : w26.cell? ⟨gb134, 1, none⟩ = some (.int .i64 0) := (blk_cell BK134.out 1).trans rfl; have hcz29_2 : w26.cell? ⟨gb134, 2, none⟩ = some (.int .i64 0) := (blk_cell BK134.out 2).trans rfl; have hcz29_3 : w26.cell? ⟨gb134, 3, none⟩ = some (.int .i64 0) := (blk_cell BK134.out 3).trans rfl; have hcz29_4 : w26.cell? ⟨gb134, 4, none⟩ = some (.int .i64 0) := (blk_cell BK134.out 4).trans rfl; have hcz29_5 : w26.cell? ⟨gb134, 5, none⟩ = some (.int .i64 0) := (blk_cell BK134.out 5).trans rfl; have hfz29_0 := blk_frozen BK134.out 0; have hfz29_1 := blk_frozen BK134.out 1; have hfz29_2 := blk_frozen BK134.out 2; have hfz29_3 := blk_frozen BK134.out 3; have hfz29_4 := blk_frozen BK134.out 4; have hfz29_5 := blk_frozen BK134.out 5))
        obtain ⟨v0, hv0⟩ : ∃ v, v = wrap64 (Int.tdiv t139 3600) := ⟨_, rfl⟩
        obtain ⟨v1, hv1⟩ : ∃ v, v = Int.tmod (wrap64 (Int.tdiv t139 60)) 60 := ⟨_, rfl⟩
        obtain ⟨v2, hv2⟩ : ∃ v, v = Int.tmod t139 60 := ⟨_, rfl⟩
        obtain ⟨h1_, h2_, h3_, h4_, h5_, h6_, h7_⟩ := NH.out
        clear NH
        rw [← hv0] at h4_
        rw [← hv1] at h5_
        rw [← hv2] at h6_
        subst h1_ h2_ h3_ h4_ h5_ h6_ h7_
        rw [← hv0, ← hv1, ← hv2]
        clear hv0 hv1 hv2
        have m0_ : Aside0 (((((((w26.setCell ⟨gb144, 0, none⟩ (.int .i64 t140)).setCell ⟨gb144, 1, none⟩ (.int .i64 t141)).setCell ⟨gb144, 2, none⟩ (.int .i64 t142)).setCell ⟨gb144, 3, none⟩ (.int .i64 v0)).setCell ⟨gb144, 4, none⟩ (.int .i64 v1)).setCell ⟨gb144, 5, none⟩ (.int .i64 v2)).heap[gb144]? = some (.cells #[.int .i64 t140, .int .i64 t141, .int .i64 t142, .int .i64 v0, .int .i64 v1, .int .i64 v2] 26 (0, 0))) := ⟨by refine blk_put (cs := #[.int .i64 t140, .int .i64 t141, .int .i64 t142, .int .i64 v0, .int .i64 v1, .int .i64 0]) ?_ 5 _ rfl; refine blk_put (cs := #[.int .i64 t140, .int .i64 t141, .int .i64 t142, .int .i64 v0, .int .i64 0, .int .i64 0]) ?_ 4 _ rfl; refine blk_put (cs := #[.int .i64 t140, .int .i64 t141, .int .i64 t142, .int .i64 0, .int .i64 0, .int .i64 0]) ?_ 3 _ rfl; refine blk_put (cs := #[.int .i64 t140, .int .i64 t141, .int .i64 0, .int .i64 0, .int .i64 0, .int .i64 0]) ?_ 2 _ rfl; refine blk_put (cs := #[.int .i64 t140, .int .i64 0, .int .i64 0, .int .i64 0, .int .i64 0, .int .i64 0]) ?_ 1 _ rfl; refine blk_put (cs := #[.int .i64 0, .int .i64 0, .int .i64 0, .int .i64 0, .int .i64 0, .int .i64 0]) ?_ 0 _ rfl; exact BK144.out⟩
        have m1_ : Aside0 (((((((w26.setCell ⟨gb144, 0, none⟩ (.int .i64 t140)).setCell ⟨gb144, 1, none⟩ (.int .i64 t141)).setCell ⟨gb144, 2, none⟩ (.int .i64 t142)).setCell ⟨gb144, 3, none⟩ (.int .i64 v0)).setCell ⟨gb144, 4, none⟩ (.int .i64 v1)).setCell ⟨gb144, 5, none⟩ (.int .i64 v2)).heap[gb134]? = some (.cells #[.int .i64 0, .int .i64 0, .int .i64 0, .int .i64 0, .int .i64 0, .int .i64 0] 26 (0, 0))) := ⟨by refine blk_far ?_ NB134_144.out _; refine blk_far ?_ NB134_144.out _; refine blk_far ?_ NB134_144.out _; refine blk_far ?_ NB134_144.out _; refine blk_far ?_ NB134_144.out _; refine blk_far ?_ NB134_144.out _; exact BK134.out⟩
        have m2_ : Aside0 (Below w.heap.size w ((((((w26.setCell ⟨gb144, 0, none⟩ (.int .i64 t140)).setCell ⟨gb144, 1, none⟩ (.int .i64 t141)).setCell ⟨gb144, 2, none⟩ (.int .i64 t142)).setCell ⟨gb144, 3, none⟩ (.int .i64 v0)).setCell ⟨gb144, 4, none⟩ (.int .i64 v1)).setCell ⟨gb144, 5, none⟩ (.int .i64 v2))) := ⟨by refine below_set ?_ GE144.out; refine below_set ?_ GE144.out; refine below_set ?_ GE144.out; refine below_set ?_ GE144.out; refine below_set ?_ GE144.out; refine below_set ?_ GE144.out; exact HB.out⟩
        clear hcz28_0 hcz28_1 hcz28_2 hcz28_3 hcz28_4 hcz28_5 hfz28_0 hfz28_1 hfz28_2 hfz28_3 hfz28_4 hfz28_5 hcz29_0 hcz29_1 hcz29_2 hcz29_3 hcz29_4 hcz29_5 hfz29_0 hfz29_1 hfz29_2 hfz29_3 hfz29_4 hfz29_5
        clear BK144 BK134 HB
        generalize ((((((w26.setCell ⟨gb144, 0, none⟩ (.int .i64 t140)).setCell ⟨gb144, 1, none⟩ (.int .i64 t141)).setCell ⟨gb144, 2, none⟩ (.int .i64 t142)).setCell ⟨gb144, 3, none⟩ (.int .i64 v0)).setCell ⟨gb144, 4, none⟩ (.int .i64 v1)).setCell ⟨gb144, 5, none⟩ (.int .i64 v2)) = wz at m0_ m1_ m2_ ⊢
        have hcg_0 : wz.cell? ⟨gb144, 0, none⟩ = some (.int .i64 t140) := (blk_cell m0_.out 0).trans rfl
        have hfg_0 := blk_frozen m0_.out 0
        have hcg_1 : wz.cell? ⟨gb144, 1, none⟩ = some (.int .i64 t141) := (blk_cell m0_.out 1).trans rfl
        have hfg_1 := blk_frozen m0_.out 1
        have hcg_2 : wz.cell? ⟨gb144, 2, none⟩ = some (.int .i64 t142) := (blk_cell m0_.out 2).trans rfl
        have hfg_2 := blk_frozen m0_.out 2
        have hcg_3 : wz.cell? ⟨gb144, 3, none⟩ = some (.int .i64 v0) := (blk_cell m0_.out 3).trans rfl
        have hfg_3 := blk_frozen m0_.out 3
        have hcg_4 : wz.cell? ⟨gb144, 4, none⟩ = some (.int .i64 v1) := (blk_cell m0_.out 4).trans rfl
        have hfg_4 := blk_frozen m0_.out 4
        have hcg_5 : wz.cell? ⟨gb144, 5, none⟩ = some (.int .i64 v2) := (blk_cell m0_.out 5).trans rfl
        have hfg_5 := blk_frozen m0_.out 5
        have hcr_0 : wz.cell? ⟨gb134, 0, none⟩ = some (.int .i64 0) := (blk_cell m1_.out 0).trans rfl
        have hfr_0 := blk_frozen m1_.out 0
        have hcr_1 : wz.cell? ⟨gb134, 1, none⟩ = some (.int .i64 0) := (blk_cell m1_.out 1).trans rfl
        have hfr_1 := blk_frozen m1_.out 1
        have hcr_2 : wz.cell? ⟨gb134, 2, none⟩ = some (.int .i64 0) := (blk_cell m1_.out 2).trans rfl
        have hfr_2 := blk_frozen m1_.out 2
        have hcr_3 : wz.cell? ⟨gb134, 3, none⟩ = some (.int .i64 0) := (blk_cell m1_.out 3).trans rfl
        have hfr_3 := blk_frozen m1_.out 3
        have hcr_4 : wz.cell? ⟨gb134, 4, none⟩ = some (.int .i64 0) := (blk_cell m1_.out 4).trans rfl
        have hfr_4 := blk_frozen m1_.out 4
        have hcr_5 : wz.cell? ⟨gb134, 5, none⟩ = some (.int .i64 0) := (blk_cell m1_.out 5).trans rfl
        have hfr_5 := blk_frozen m1_.out 5
        go_wp2
        refine bodyPost_ret (results_ct rfl _ _ gb134 26 #[.int .i64 t140, .int .i64 t141, .int .i64 t142, .int .i64 v0, .int .i64 v1, .int .i64 v2] (0, 0) _ rfl (by refine blk_put (cs := #[.int .i64 t140, .int .i64 t141, .int .i64 t142, .int .i64 v0, .int .i64 v1, .int .i64 0]) ?_ 5 _ rfl; refine blk_put (cs := #[.int .i64 t140, .int .i64 t141, .int .i64 t142, .int .i64 v0, .int .i64 0, .int .i64 0]) ?_ 4 _ rfl; refine blk_put (cs := #[.int .i64 t140, .int .i64 t141, .int .i64 t142, .int .i64 0, .int .i64 0, .int .i64 0]) ?_ 3 _ rfl; refine blk_put (cs := #[.int .i64 t140, .int .i64 t141, .int .i64 0, .int .i64 0, .int .i64 0, .int .i64 0]) ?_ 2 _ rfl; refine blk_put (cs := #[.int .i64 t140, .int .i64 0, .int .i64 0, .int .i64 0, .int .i64 0, .int .i64 0]) ?_ 1 _ rfl; refine blk_put (cs := #[.int .i64 0, .int .i64 0, .int .i64 0, .int .i64 0, .int .i64 0, .int .i64 0]) ?_ 0 _ rfl; exact m1_.out) Tryd.underlying26 rfl (by kernel_rfl)) rfl ?_
        exact ⟨rfl, by refine below_set ?_ GE134.out; refine below_set ?_ GE134.out; refine below_set ?_ GE134.out; refine below_set ?_ GE134.out; refine below_set ?_ GE134.out; refine below_set ?_ GE134.out; exact m2_.out⟩
 ·replace c4 := Bool.eq_false_iff.mpr c4
  subst c4
  have H1 : (some (0, 0, 0, 0, 0, 0, 31)) = some (r1, r2, r3, r4, r5, r6, r7) := by rw [if_neg (show ¬ (false = true) by decide)] at H; exact H
  clear H
  have H := H1
  clear H1
  simp only [Option.some.injEq, Prod.mk.injEq] at H
  obtain ⟨rfl, rfl, rfl, rfl, rfl, rfl, rfl⟩ := H
  go_enter Tryd.func12, Tryd.ntmps12
  go_wp2_with (first | ((with_reducible refine gate_dst (N := 4) rfl ?_); refine box_event ?hg (N := 4) ?hd (cs := #[.int .i64 0, .int .i64 0, .int .i64 0, .int .i64 0, .int .i64 0, .int .i64 0]) (t := 26) ?hr ?_; (case hd => rfl); (case hg => rfl); (case hr => first | (go_simp; done) | (go_simp; rfl)); intro gb134 hg w30 hbox hb; have n0_ := Aside0.mk (below_step (by repeat (first | (with_reducible first | exact HB.out | apply below_alloc | apply pw_below_drewN | apply below_drew1) | exact HB.out)) hb); have n1_ := Aside0.mk (hbox); have n2_ := Aside0.mk ((by rw [hg]; exact (below_size (by repeat (first | (with_reducible first | exact HB.out | apply below_alloc | apply pw_below_drewN | apply below_drew1) | exact HB.out))) : w.heap.size ≤ gb134)); have n3_ := Aside0.mk ((by rw [hg]; exact (below_size (by repeat (first | (with_reducible first | exact HB.out | apply below_alloc | apply pw_below_drewN | apply below_drew1) | exact HB.out))) : w.heap.size ≤ gb134)); clear HB; have HB := n0_; have BK134 := n1_; have GW134 := n2_; have GE134 := n3_; clear n0_ n1_ n2_ n3_; clear hb hbox hg) | ((with_reducible refine gate_callee (f := 13) rfl ?_); refine goesL_ (some 16) rfl rfl Tryd.func13 (by kernel_rfl) rfl #[.slice A0 l0.length c0] rfl (by (try simp only [List.map_toArray, List.map_cons, List.map_nil]); first | done | rfl | (simp only [List.length_drop, List.length_take]; rfl)) ?_; (with_reducible refine (leap_Good.calls k _ _ l0 false _ ?side1 ?side2 A3.out).mono ?_); (case side1 => repeat (first | exact (Kd.C_below HR0.out HB.out) | (with_reducible refine Kd.C_alloc ?_ _) | (with_reducible refine Kd.C_drewN ?_ _) | (with_reducible refine Kd.C_drew ?_))); (case side2 => exact HC0.out); rintro e w31 ⟨rfl, hb⟩; refine ⟨_, rfl, ?_⟩; have n0_ := Aside0.mk (blk_below (g := gb134) (o := .cells #[.int .i64 0, .int .i64 0, .int .i64 0, .int .i64 0, .int .i64 0, .int .i64 0] 26 (0, 0)) (by (with_reducible repeat (first | refine blk_drewN ?_ _ | refine blk_drew ?_ | refine blk_alloc ?_ _)); exact BK134.out) hb); have n1_ := Aside0.mk (below_step (by repeat (first | (with_reducible first | exact HB.out | apply below_alloc | apply pw_below_drewN | apply below_drew1 | refine below_set ?_ GE134.out) | exact HB.out)) hb); clear BK134; clear HB; have BK134 := n0_; have HB := n1_; clear n0_ n1_; (try clear hb); (try clear hb2); (try clear hk); (try clear hi); have hcz32_0 : w31.cell? ⟨gb134, 0, none⟩ = some (.int .i64 0) := (blk_cell BK134.out 0).trans rfl; have hcz32_1 : w31.cell? ⟨gb134, 1, none⟩ = some (.int .i64 0) := (blk_cell BK134.out 1).trans rfl; have hcz32_2 : w31.cell? ⟨gb134, 2, none⟩ = some (.int .i64 0) := (blk_cell BK134.out 2).trans rfl; have hcz32_3 : w31.cell? ⟨gb134, 3, none⟩ = some (.int .i64 0) := (blk_cell BK134.out 3).trans rfl; have hcz32_4 : w31.cell? ⟨gb134, 4, none⟩ = some (.int .i64 0) := (blk_cell BK134.out 4).trans rfl; have hcz32_5 : w31.cell? ⟨gb134, 5, none⟩ = some (.int .i64 0) := (blk_cell BK134.out 5).trans rfl; have hfz32_0 := blk_frozen BK134.out 0; have hfz32_1 := blk_frozen BK134.out 1; have hfz32_2 := blk_frozen BK134.out 2; have hfz32_3 := blk_frozen BK134.out 3; have hfz32_4 := blk_frozen BK134.out 4; have hfz32_5 := blk_frozen BK134.out 5))
  refine bodyPost_ret (results_ct rfl _ _ gb134 26 #[.int .i64 0, .int .i64 0, .int .i64 0, .int .i64 0, .int .i64 0, .int .i64 0] (0, 0) _ rfl (by (with_reducible repeat (first | refine blk_drewN ?_ _ | refine blk_drew ?_ | refine blk_alloc ?_ _)); refine blk_put (cs := #[.int .i64 0, .int .i64 0, .int .i64 0, .int .i64 0, .int .i64 0, .int .i64 0]) ?_ 5 _ rfl; (with_reducible repeat (first | refine blk_drewN ?_ _ | refine blk_drew ?_ | refine blk_alloc ?_ _)); refine blk_put (cs := #[.int .i64 0, .int .i64 0, .int .i64 0, .int .i64 0, .int .i64 0, .int .i64 0]) ?_ 4 _ rfl; (with_reducible repeat (first | refine blk_drewN ?_ _ | refine blk_drew ?_ | refine blk_alloc ?_ _)); refine blk_put (cs := #[.int .i64 0, .int .i64 0, .int .i64 0, .int .i64 0, .int .i64 0, .int .i64 0]) ?_ 3 _ rfl; (with_reducible repeat (first | refine blk_drewN ?_ _ | refine blk_drew ?_ | refine blk_alloc ?_ _)); refine blk_put (cs := #[.int .i64 0, .int .i64 0, .int .i64 0, .int .i64 0, .int .i64 0, .int .i64 0]) ?_ 2 _ rfl; (with_reducible repeat (first | refine blk_drewN ?_ _ | refine blk_drew ?_ | refine blk_alloc ?_ _)); refine blk_put (cs := #[.int .i64 0, .int .i64 0, .int .i64 0, .int .i64 0, .int .i64 0, .int .i64 0]) ?_ 1 _ rfl; (with_reducible repeat (first | refine blk_drewN ?_ _ | refine blk_drew ?_ | refine blk_alloc ?_ _)); refine blk_put (cs := #[.int .i64 0, .int .i64 0, .int .i64 0, .int .i64 0, .int .i64 0, .int .i64 0]) ?_ 0 _ rfl; (with_reducible repeat (first | refine blk_drewN ?_ _ | refine blk_drew ?_ | refine blk_alloc ?_ _)); exact BK134.out) Tryd.underlying26 rfl (by kernel_rfl)) rfl ?_
  exact ⟨by first | rfl | (simp [errW_none, errW_some] <;> rfl) | (simp [*, errW_none, errW_some] <;> rfl), by repeat (first | (with_reducible first | exact HB.out | apply below_alloc | apply pw_below_drewN | apply below_drew1 | refine below_set ?_ GE134.out) | exact HB.out)⟩

/-! ### civil_Days: function 43 -/
def civil_Days.j0 : Nat → Int → Int → Bool → Option (Int)
  | 0, _, _, _ => none
  | k + 1, x0, x1, x10 => if x10 = true then (some 0) else ((civil_ahead.f x0 (wrap64 (x1 + 1))).bind fun t145 => ((civil_ahead.f x0 x1).bind fun t146 => (some (wrap64 (t145 - t146)))))
def civil_Days.f (k : Nat) (a0 : Int) (a1 : Int) : Option (Int) := if a1 < 1 then (civil_Days.j0 k a0 a1 true) else (civil_Days.j0 k a0 a1 (decide (a1 > 12)))
theorem civil_Days.mono_l : ∀ k, (∀ y0 y1 y2, LeO (civil_Days.j0 k y0 y1 y2) (civil_Days.j0 (k + 1) y0 y1 y2))
  | 0 => fun _ _ _ r h => by simp [civil_Days.j0] at h
  | k + 1 => by
    have ih0 := civil_Days.mono_l k
    · intro y0 y1 y2
      unfold civil_Days.j0
      repeat' first
      | (with_reducible exact ih0 _ _ _)
      | (with_reducible exact LeO.refl _)
      | (with_reducible exact LeO.none _)
      | (with_reducible refine LeO.ite ?_ ?_)
      | (with_reducible refine LeO.bind ?_ (fun _ => ?_))
      | exact ih0 _ _ _
      | exact LeO.none _
      | refine LeO.ite ?_ ?_
      | refine LeO.bind ?_ (fun _ => ?_)
theorem civil_Days.mono : ∀ a0 a1 k, LeO (civil_Days.f k a0 a1) (civil_Days.f (k + 1) a0 a1) := by
  intro a0 a1 k
  have ih0 := civil_Days.mono_l k
  unfold civil_Days.f
  repeat' first
      | (with_reducible exact ih0 _ _ _)
      | (with_reducible exact LeO.refl _)
      | (with_reducible exact LeO.none _)
      | (with_reducible refine LeO.ite ?_ ?_)
      | (with_reducible refine LeO.bind ?_ (fun _ => ?_))
      | exact ih0 _ _ _
      | exact LeO.none _
      | refine LeO.ite ?_ ?_
      | refine LeO.bind ?_ (fun _ => ?_)
set_option maxHeartbeats 8000000 in
set_option maxRecDepth 100000 in
theorem civil_Days.calls (k : Nat) (a0 : Int) (a1 : Int) (r : Int) (w : World) (hM : GM w) (h : civil_Days.f k a0 a1 = some r) :
    Calls Tryd.prog 43 #[.int .i64 a0, .int .i64 a1] w fun e w' => e = .returned (.int .i64 r) ∧ Drawn0 w w' := by
  have H : (if a1 < 1 then (civil_Days.j0 k a0 a1 true) else (civil_Days.j0 k a0 a1 (decide (a1 > 12)))) = some r := h
  clear h
  have HC3 := Aside0.mk H
  clear H
  go_enter Tryd.func43, Tryd.ntmps43
  go_upto_region 1 with (fail)
  go_cut [10] (fun v10 wc => ∃ (kq : Nat) (x10_2 : Bool), v10 = .bool x10_2 ∧ Aside0 (civil_Days.j0 kq a0 a1 x10_2 = some r) ∧ Aside0 (kq ≤ k) ∧ Drawn0 w wc)
  case first =>
    have H := HC3.out
    clear HC3
    by_cases c4 : a1 < 1
    · rw [if_pos c4] at H
      have c4b0 : decide (a1 < 1) = true := decide_eq_true c4
      clear c4
      (first | rw [c4b0] | (simp only [i64_w, i32_w]; rw [c4b0]) | skip)
      have H' := Aside0.mk H
      clear H
      go_wp2
      go_meet
      case rel => exact ⟨_, (true), (by first | rfl | (simp; done) | (simp [*]; done) | (simp [Int.tdiv_eq_ediv_of_nonneg]; done) | (simp [Go.RowKit.wrap64]; done) | (simp [*, Go.RowKit.wrap64]; done)), H', ⟨by first | omega | exact Nat.le_refl _⟩, by repeat (first | exact Drawn0.refl _ | apply Drawn0.step)⟩
    · rw [if_neg c4] at H
      have c4b0 : decide (a1 < 1) = false := decide_eq_false c4
      clear c4
      (first | rw [c4b0] | (simp only [i64_w, i32_w]; rw [c4b0]) | skip)
      have H' := Aside0.mk H
      clear H
      go_wp2
      go_meet
      case rel => exact ⟨_, (decide (a1 > 12)), (by first | rfl | (simp; done) | (simp [*]; done) | (simp [Int.tdiv_eq_ediv_of_nonneg]; done) | (simp [Go.RowKit.wrap64]; done) | (simp [*, Go.RowKit.wrap64]; done)), H', ⟨by first | omega | exact Nat.le_refl _⟩, by repeat (first | exact Drawn0.refl _ | apply Drawn0.step)⟩
  case rest =>
    clear HC3
    try clear p2
    try clear c4
    try clear c4b0
    obtain ⟨kq, x10_2, rfl, HA, HJ2, ⟨mc2, rfl⟩⟩ := hcut
    cases kq with
    | zero => exact absurd HA.out (by simp [civil_Days.j0])
    | succ kj2 =>
      have H := HA.out
      clear HA
      simp only [civil_Days.j0] at H
      by_cases c5 : x10_2 = true
      · subst c5
        have H1 : (some 0) = some r := by rw [if_pos rfl] at H; exact H
        clear H
        have H := H1
        clear H1
        obtain rfl := Option.some.inj H
        go_wp2
        go_ret
        exact ⟨by first | rfl | (simp; done) | (simp [*]; done) | (simp [Int.tdiv_eq_ediv_of_nonneg]; done) | (simp [Go.RowKit.wrap64]; done) | (simp [*, Go.RowKit.wrap64]; done), by repeat (first | exact Drawn0.refl _ | apply Drawn0.step)⟩
      · replace c5 := Bool.eq_false_iff.mpr c5
        subst c5
        have H1 : ((civil_ahead.f a0 (wrap64 (a1 + 1))).bind fun t145 => ((civil_ahead.f a0 a1).bind fun t146 => (some (wrap64 (t145 - t146))))) = some r := by rw [if_neg (show ¬ (false = true) by decide)] at H; exact H
        clear H
        have H := H1
        clear H1
        replace H := Option.bind_eq_some_iff.mp H
        obtain ⟨t145, A60, H⟩ := H
        replace H : ((civil_ahead.f a0 a1).bind fun t146 => (some (wrap64 (t145 - t146)))) = some r := H
        have A6 := Aside0.mk A60
        clear A60
        replace H := Option.bind_eq_some_iff.mp H
        obtain ⟨t146, A70, H⟩ := H
        replace H : (some (wrap64 (t145 - t146))) = some r := H
        have A7 := Aside0.mk A70
        clear A70
        obtain rfl := Option.some.inj H
        go_wp2_with (first | ((with_reducible refine gate_callee (f := 37) rfl ?_); refine goesL_ (some 14) rfl rfl Tryd.func37 (by kernel_rfl) rfl #[.int .i64 a0, .int .i64 (wrap64 (a1 + 1))] rfl (by (try simp only [List.map_toArray, List.map_cons, List.map_nil]); first | done | rfl | (simp only [List.length_drop, List.length_take]; rfl)) ?_; (with_reducible refine (civil_ahead.calls a0 (wrap64 (a1 + 1)) t145 _ (by first | exact hM | exact hM.below HB.out | repeat (first | exact hM | exact hM.below HB.out | apply GM.drewN | apply GM.drew)) A6.out).mono ?_); rintro e w' ⟨rfl, ⟨nd, rfl⟩⟩; refine ⟨_, rfl, ?_⟩) | ((with_reducible refine gate_callee (f := 37) rfl ?_); refine goesL_ (some 17) rfl rfl Tryd.func37 (by kernel_rfl) rfl #[.int .i64 a0, .int .i64 a1] rfl (by (try simp only [List.map_toArray, List.map_cons, List.map_nil]); first | done | rfl | (simp only [List.length_drop, List.length_take]; rfl)) ?_; (with_reducible refine (civil_ahead.calls a0 a1 t146 _ (by first | exact hM | exact hM.below HB.out | repeat (first | exact hM | exact hM.below HB.out | apply GM.drewN | apply GM.drew)) A7.out).mono ?_); rintro e w' ⟨rfl, ⟨nd, rfl⟩⟩; refine ⟨_, rfl, ?_⟩))
        go_ret
        exact ⟨by first | rfl | (simp; done) | (simp [*]; done) | (simp [Int.tdiv_eq_ediv_of_nonneg]; done) | (simp [Go.RowKit.wrap64]; done) | (simp [*, Go.RowKit.wrap64]; done), by repeat (first | exact Drawn0.refl _ | apply Drawn0.step)⟩

end Go.Proofs.YtaibmobjpheaiaaDoor.Q
