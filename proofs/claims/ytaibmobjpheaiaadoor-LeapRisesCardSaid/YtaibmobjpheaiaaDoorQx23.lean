/- The calls of these Go functions answer what the Lean functions beside them answer; written by a program (wip/pr2.py, out of the print of the loaded program); under no condition but those that stand in the theorems. -/
import Derived.Test.YtaibmobjpheaiaaDoorQx0
import Derived.Test.YtaibmobjpheaiaaDoorQx8
import Derived.Test.YtaibmobjpheaiaaDoorQx11
import Derived.Test.YtaibmobjpheaiaaDoorQx19
namespace Go.Proofs.YtaibmobjpheaiaaDoor.Q
open Go.RowKit Go.Proofs.YtaibmobjpheaiaaDoorW.PrintWords Go.Proofs.YtaibmobjpheaiaaDoorW.PrintLast Go.Proofs.YtaibmobjpheaiaaDoorW.PrintMore
attribute [local go_sem] max2_int min2_int max_two min_two max_three min_three max_four min_four   -- for this text's walks alone
set_option linter.unusedVariables false
set_option linter.unusedSimpArgs false

/-! ### clepsydralaw18_LeapRises: function 6 -/
mutual
def clepsydralaw18_LeapRises.j0 : Nat → List (S40) → Int → Int → Bool → Option (Bool)
 | 0, _, _, _, _ => none
 | k + 1, x0, x1, x2, x22 => if x22 = true then (some true) else ((leap_ToLabel.f k x0 x1).bind fun bt249 => ((leap_ToLabel.f k x0 x2).bind fun bt257 => (if bt249.2.2.2.2.2.2 = 0 then (clepsydralaw18_LeapRises.j1 k x0 x1 (bt257.2.2.2.2.2.2 != 0) bt249.1 bt249.2.1 bt249.2.2.1 bt249.2.2.2.1 bt249.2.2.2.2.1 bt249.2.2.2.2.2.1 bt257.1 bt257.2.1 bt257.2.2.1 bt257.2.2.2.1 bt257.2.2.2.2.1 bt257.2.2.2.2.2.1) else (clepsydralaw18_LeapRises.j1 k x0 x1 true bt249.1 bt249.2.1 bt249.2.2.1 bt249.2.2.2.1 bt249.2.2.2.2.1 bt249.2.2.2.2.2.1 bt257.1 bt257.2.1 bt257.2.2.1 bt257.2.2.2.1 bt257.2.2.2.2.1 bt257.2.2.2.2.2.1))))
def clepsydralaw18_LeapRises.j1 : Nat → List (S40) → Int → Bool → Int → Int → Int → Int → Int → Int → Int → Int → Int → Int → Int → Int → Option (Bool)
 | 0, _, _, _, _, _, _, _, _, _, _, _, _, _, _, _ => none
 | k + 1, x0, x1, x40, x257000, x257001, x257002, x257003, x257004, x257005, x265000, x265001, x265002, x265003, x265004, x265005 => if x40 = true then (some true) else ((clepsydraref18_Before.f x257000 x257001 x257002 x257003 x257004 x257005 x265000 x265001 x265002 x265003 x265004 x265005).bind fun t265 => (if t265 = true then ((leap_ToLabel.f k x0 (wrap64 (x1 + 1))).bind fun bt266 => (if bt266.2.2.2.2.2.2 = 0 then (if x257005 ≥ 58 then (some true) else (if bt266.2.2.2.2.2.1 = (wrap64 (x257005 + 1)) then (if bt266.2.2.2.2.1 = x257004 then (some (bt266.2.2.1 == x257002)) else (some false)) else (some false))) else (some true))) else (some false)))
end
def clepsydralaw18_LeapRises.f (k : Nat) (l0 : List (S40)) (a1 : Int) (a2 : Int) : Option (Bool) := (clepsydralaw18_alive.f k).bind fun t248 => (if t248 = true then (if (l0.length : Int) > 256 then (clepsydralaw18_LeapRises.j0 k l0 a1 a2 true) else (clepsydralaw18_LeapRises.j0 k l0 a1 a2 (decide (a1 ≥ a2)))) else (some false))
theorem clepsydralaw18_LeapRises.mono_l : ∀ k, (∀ y0 y1 y2 y3, LeO (clepsydralaw18_LeapRises.j0 k y0 y1 y2 y3) (clepsydralaw18_LeapRises.j0 (k + 1) y0 y1 y2 y3)) ∧ (∀ y0 y1 y2 y3 y4 y5 y6 y7 y8 y9 y10 y11 y12 y13 y14, LeO (clepsydralaw18_LeapRises.j1 k y0 y1 y2 y3 y4 y5 y6 y7 y8 y9 y10 y11 y12 y13 y14) (clepsydralaw18_LeapRises.j1 (k + 1) y0 y1 y2 y3 y4 y5 y6 y7 y8 y9 y10 y11 y12 y13 y14))
 | 0 => ⟨fun _ _ _ _ r h => by simp [clepsydralaw18_LeapRises.j0] at h, fun _ _ _ _ _ _ _ _ _ _ _ _ _ _ _ r h => by simp [clepsydralaw18_LeapRises.j1] at h⟩
 | k + 1 => by
  obtain ⟨ih0, ih1⟩ := clepsydralaw18_LeapRises.mono_l k
  refine ⟨?_, ?_⟩
  ·intro y0 y1 y2 y3
   unfold clepsydralaw18_LeapRises.j0
   repeat' first
   | (with_reducible exact ih0 _ _ _ _)
   | (with_reducible exact ih1 _ _ _ _ _ _ _ _ _ _ _ _ _ _ _)
   | (with_reducible exact clepsydralaw18_alive.mono _)
   | (with_reducible exact leap_ToLabel.mono _ _ _)
   | (with_reducible exact LeO.refl _)
   | (with_reducible exact LeO.none _)
   | (with_reducible refine LeO.ite ?_ ?_)
   | (with_reducible refine LeO.bind ?_ (fun _ => ?_))
   | exact ih0 _ _ _ _
   | exact ih1 _ _ _ _ _ _ _ _ _ _ _ _ _ _ _
   | exact clepsydralaw18_alive.mono _
   | exact leap_ToLabel.mono _ _ _
   | exact LeO.none _
   | refine LeO.ite ?_ ?_
   | refine LeO.bind ?_ (fun _ => ?_)
  ·intro y0 y1 y2 y3 y4 y5 y6 y7 y8 y9 y10 y11 y12 y13 y14
   unfold clepsydralaw18_LeapRises.j1
   repeat' first
   | (with_reducible exact ih0 _ _ _ _)
   | (with_reducible exact ih1 _ _ _ _ _ _ _ _ _ _ _ _ _ _ _)
   | (with_reducible exact clepsydralaw18_alive.mono _)
   | (with_reducible exact leap_ToLabel.mono _ _ _)
   | (with_reducible exact LeO.refl _)
   | (with_reducible exact LeO.none _)
   | (with_reducible refine LeO.ite ?_ ?_)
   | (with_reducible refine LeO.bind ?_ (fun _ => ?_))
   | exact ih0 _ _ _ _
   | exact ih1 _ _ _ _ _ _ _ _ _ _ _ _ _ _ _
   | exact clepsydralaw18_alive.mono _
   | exact leap_ToLabel.mono _ _ _
   | exact LeO.none _
   | refine LeO.ite ?_ ?_
   | refine LeO.bind ?_ (fun _ => ?_)
theorem clepsydralaw18_LeapRises.mono : ∀ a0 a1 a2 k, LeO (clepsydralaw18_LeapRises.f k a0 a1 a2) (clepsydralaw18_LeapRises.f (k + 1) a0 a1 a2) := by
 intro a0 a1 a2 k
 obtain ⟨ih0, ih1⟩ := clepsydralaw18_LeapRises.mono_l k
 unfold clepsydralaw18_LeapRises.f
 repeat' first
   | (with_reducible exact ih0 _ _ _ _)
   | (with_reducible exact ih1 _ _ _ _ _ _ _ _ _ _ _ _ _ _ _)
   | (with_reducible exact clepsydralaw18_alive.mono _)
   | (with_reducible exact leap_ToLabel.mono _ _ _)
   | (with_reducible exact LeO.refl _)
   | (with_reducible exact LeO.none _)
   | (with_reducible refine LeO.ite ?_ ?_)
   | (with_reducible refine LeO.bind ?_ (fun _ => ?_))
   | exact ih0 _ _ _ _
   | exact ih1 _ _ _ _ _ _ _ _ _ _ _ _ _ _ _
   | exact clepsydralaw18_alive.mono _
   | exact leap_ToLabel.mono _ _ _
   | exact LeO.none _
   | refine LeO.ite ?_ ?_
   | refine LeO.bind ?_ (fun _ => ?_)
set_option maxHeartbeats 8000000 in
set_option maxRecDepth 100000 in
theorem clepsydralaw18_LeapRises.calls (k : Nat) (A0 : Option Addr) (c0 : Nat) (l0 : List (S40)) (a1 : Int) (a2 : Int) (r : Bool) (w : World) (hM : GM w) (hr0 : Kd.C k40 w A0 l0.length l0) (hc0 : l0.length ≤ c0) (hT : Aside0 (r = true)) (h : clepsydralaw18_LeapRises.f k l0 a1 a2 = some r) :
  Calls Tryd.prog 6 #[.slice A0 l0.length c0, .int .i64 a1, .int .i64 a2] w fun e w' => e = .returned (.bool r) ∧ Below w.heap.size w w' := by
 have hu26 := Tryd.underlying26
 have HR0 := Aside0.mk hr0
 have HC0 := Aside0.mk hc0
 clear hr0 hc0
 have HB := Aside0.mk (Below.refl w.heap.size w)
 have H : ((clepsydralaw18_alive.f k).bind fun t248 => (if t248 = true then (if (l0.length : Int) > 256 then (clepsydralaw18_LeapRises.j0 k l0 a1 a2 true) else (clepsydralaw18_LeapRises.j0 k l0 a1 a2 (decide (a1 ≥ a2)))) else (some false))) = some r := h
 clear h
 replace H := Option.bind_eq_some_iff.mp H
 obtain ⟨t248, A40, H⟩ := H
 replace H : (if t248 = true then (if (l0.length : Int) > 256 then (clepsydralaw18_LeapRises.j0 k l0 a1 a2 true) else (clepsydralaw18_LeapRises.j0 k l0 a1 a2 (decide (a1 ≥ a2)))) else (some false)) = some r := H
 have A4 := Aside0.mk A40
 clear A40
 by_cases c5 : t248 = true
 ·subst c5
  have H1 : (if (l0.length : Int) > 256 then (clepsydralaw18_LeapRises.j0 k l0 a1 a2 true) else (clepsydralaw18_LeapRises.j0 k l0 a1 a2 (decide (a1 ≥ a2)))) = some r := by rw [if_pos rfl] at H; exact H
  clear H
  have H := H1
  clear H1
  have HC6 := Aside0.mk H
  clear H
  go_enter Tryd.func6, Tryd.ntmps6
  go_upto_region 3 with (first | ((with_reducible refine gate_callee (f := 10) rfl ?_); refine goesL_ (some 13) rfl rfl Tryd.func10 (by kernel_rfl) rfl #[] rfl (by (try simp only [List.map_toArray, List.map_cons, List.map_nil]); first | done | rfl | (simp only [List.length_drop, List.length_take]; rfl)) ?_; (with_reducible refine (clepsydralaw18_alive.calls k  true _ (by first | exact hM | exact hM.below HB.out | repeat (first | exact hM | exact hM.below HB.out | apply GM.drewN | apply GM.drew)) A4.out).mono ?_); rintro e w7 ⟨rfl, hb⟩; refine ⟨_, rfl, ?_⟩; have n0_ := Aside0.mk (below_step (by repeat (first | (with_reducible first | exact HB.out | apply below_alloc | apply pw_below_drewN | apply below_drew1) | exact HB.out)) hb); clear HB; have HB := n0_; clear n0_; (try clear hb); (try clear hb2); (try clear hk); (try clear hi)))
  (try simp only [Act.put, List.setIfInBounds_toArray, List.set_cons_zero, List.set_cons_succ])
  go_cut [22] (fun v22 wc => ∃ (kq : Nat) (x22_5 : Bool), v22 = .bool x22_5 ∧ Aside0 (clepsydralaw18_LeapRises.j0 kq l0 a1 a2 x22_5 = some r) ∧ Aside0 (kq ≤ k) ∧ Aside0 (Below w.heap.size w wc))
  case first =>
   have H := HC6.out
   clear HC6
   by_cases c8 : (l0.length : Int) > 256
   ·rw [if_pos c8] at H
    have c8b0 : decide (256 < (l0.length : Int)) = true := decide_eq_true c8
    have c8b1 : decide (256 < l0.length) = true := decide_eq_true (by omega)
    clear c8
    (first | rw [c8b0] | (simp only [i64_w, i32_w]; rw [c8b0]) | skip)
    have H' := Aside0.mk H
    clear H
    go_wp2
    go_meet
    case rel => exact ⟨_, (true), (by first | rfl | (simp; done) | (simp [*]; done) | (simp [Int.tdiv_eq_ediv_of_nonneg]; done) | (simp [Go.RowKit.wrap64]; done) | (simp [*, Go.RowKit.wrap64]; done)), H', ⟨by first | omega | exact Nat.le_refl _⟩, ⟨by repeat (first | (with_reducible first | exact HB.out | apply below_alloc | apply pw_below_drewN | apply below_drew1) | exact HB.out)⟩⟩
   ·rw [if_neg c8] at H
    have c8b0 : decide (256 < (l0.length : Int)) = false := decide_eq_false c8
    have c8b1 : decide (256 < l0.length) = false := decide_eq_false (by omega)
    clear c8
    (first | rw [c8b0] | (simp only [i64_w, i32_w]; rw [c8b0]) | skip)
    have H' := Aside0.mk H
    clear H
    go_wp2
    go_meet
    case rel => exact ⟨_, (decide (a1 ≥ a2)), (by first | rfl | (simp; done) | (simp [*]; done) | (simp [Int.tdiv_eq_ediv_of_nonneg]; done) | (simp [Go.RowKit.wrap64]; done) | (simp [*, Go.RowKit.wrap64]; done)), H', ⟨by first | omega | exact Nat.le_refl _⟩, ⟨by repeat (first | (with_reducible first | exact HB.out | apply below_alloc | apply pw_below_drewN | apply below_drew1) | exact HB.out)⟩⟩
  case rest =>
   clear HC6
   try clear c1
   try clear p2
   try clear c5
   try clear c6
   try clear c8
   try clear c8b0
   try clear c8b1
   obtain ⟨kq, x22_5, rfl, HA, HJ5, HB⟩ := hcut
   cases kq with
   | zero => exact absurd HA.out (by simp [clepsydralaw18_LeapRises.j0])
   | succ kj5 =>
    have H := HA.out
    clear HA
    simp only [clepsydralaw18_LeapRises.j0] at H
    by_cases c9 : x22_5 = true
    ·subst c9
     have H1 : (some true) = some r := by rw [if_pos rfl] at H; exact H
     clear H
     have H := H1
     clear H1
     obtain rfl := Option.some.inj H
     go_wp2
     go_ret
     exact ⟨by first | rfl | (simp [errW_none, errW_some] <;> rfl) | (simp [*, errW_none, errW_some] <;> rfl), by repeat (first | (with_reducible first | exact HB.out | apply below_alloc | apply pw_below_drewN | apply below_drew1) | exact HB.out)⟩
    ·replace c9 := Bool.eq_false_iff.mpr c9
     subst c9
     have H1 : ((leap_ToLabel.f kj5 l0 a1).bind fun bt249 => ((leap_ToLabel.f kj5 l0 a2).bind fun bt257 => (if bt249.2.2.2.2.2.2 = 0 then (clepsydralaw18_LeapRises.j1 kj5 l0 a1 (bt257.2.2.2.2.2.2 != 0) bt249.1 bt249.2.1 bt249.2.2.1 bt249.2.2.2.1 bt249.2.2.2.2.1 bt249.2.2.2.2.2.1 bt257.1 bt257.2.1 bt257.2.2.1 bt257.2.2.2.1 bt257.2.2.2.2.1 bt257.2.2.2.2.2.1) else (clepsydralaw18_LeapRises.j1 kj5 l0 a1 true bt249.1 bt249.2.1 bt249.2.2.1 bt249.2.2.2.1 bt249.2.2.2.2.1 bt249.2.2.2.2.2.1 bt257.1 bt257.2.1 bt257.2.2.1 bt257.2.2.2.1 bt257.2.2.2.2.1 bt257.2.2.2.2.2.1)))) = some r := by rw [if_neg (show ¬ (false = true) by decide)] at H; exact H
     clear H
     have H := H1
     clear H1
     replace H := Option.bind_eq_some_iff.mp H
     obtain ⟨⟨t249, t250, t251, t252, t253, t254, t255⟩, A100, H⟩ := H
     replace H : ((leap_ToLabel.f kj5 l0 a2).bind fun bt257 => (if t255 = 0 then (clepsydralaw18_LeapRises.j1 kj5 l0 a1 (bt257.2.2.2.2.2.2 != 0) t249 t250 t251 t252 t253 t254 bt257.1 bt257.2.1 bt257.2.2.1 bt257.2.2.2.1 bt257.2.2.2.2.1 bt257.2.2.2.2.2.1) else (clepsydralaw18_LeapRises.j1 kj5 l0 a1 true t249 t250 t251 t252 t253 t254 bt257.1 bt257.2.1 bt257.2.2.1 bt257.2.2.2.1 bt257.2.2.2.2.1 bt257.2.2.2.2.2.1))) = some r := H
     have A10 := Aside0.mk A100
     clear A100
     replace H := Option.bind_eq_some_iff.mp H
     obtain ⟨⟨t257, t258, t259, t260, t261, t262, t263⟩, A110, H⟩ := H
     replace H : (if t255 = 0 then (clepsydralaw18_LeapRises.j1 kj5 l0 a1 (t263 != 0) t249 t250 t251 t252 t253 t254 t257 t258 t259 t260 t261 t262) else (clepsydralaw18_LeapRises.j1 kj5 l0 a1 true t249 t250 t251 t252 t253 t254 t257 t258 t259 t260 t261 t262)) = some r := H
     have A11 := Aside0.mk A110
     clear A110
     have HC12 := Aside0.mk H
     clear H
     go_upto_region 7 with (first | ((with_reducible refine gate_callee (f := 12) rfl ?_); refine goesL_ (some 26) rfl rfl Tryd.func12 (by kernel_rfl) rfl #[.slice A0 l0.length c0, .int .i64 a1] rfl (by (try simp only [List.map_toArray, List.map_cons, List.map_nil]); first | done | rfl | (simp only [List.length_drop, List.length_take]; rfl)) ?_; (with_reducible refine (leap_ToLabel.calls kj5 _ _ l0 a1 t249 t250 t251 t252 t253 t254 t255 _ (hM.below (by repeat (first | (with_reducible first | exact HB.out | apply below_alloc | apply pw_below_drewN | apply below_drew1) | exact HB.out))) ?side1 ?side2 A10.out).mono ?_); (case side1 => repeat (first | exact (Kd.C_below HR0.out HB.out) | (with_reducible refine Kd.C_alloc ?_ _) | (with_reducible refine Kd.C_drewN ?_ _) | (with_reducible refine Kd.C_drew ?_))); (case side2 => exact HC0.out); rintro e w13 ⟨rfl, hb⟩; refine ⟨_, rfl, ?_⟩; have n0_ := Aside0.mk (below_step (by repeat (first | (with_reducible first | exact HB.out | apply below_alloc | apply pw_below_drewN | apply below_drew1) | exact HB.out)) hb); clear HB; have HB := n0_; clear n0_; (try clear hb); (try clear hb2); (try clear hk); (try clear hi)) | ((with_reducible refine gate_dst (N := 7) rfl ?_); refine box_event ?hg (N := 7) ?hd (cs := #[.int .i64 0, .int .i64 0, .int .i64 0, .int .i64 0, .int .i64 0, .int .i64 0]) (t := 26) ?hr ?_; (case hd => rfl); (case hg => rfl); (case hr => first | (go_simp; done) | (go_simp; rfl)); intro gb256 hg w14 hbox hb; have n0_ := Aside0.mk (below_step (by repeat (first | (with_reducible first | exact HB.out | apply below_alloc | apply pw_below_drewN | apply below_drew1) | exact HB.out)) hb); have n1_ := Aside0.mk (hbox); have n2_ := Aside0.mk ((by rw [hg]; exact (below_size (by repeat (first | (with_reducible first | exact HB.out | apply below_alloc | apply pw_below_drewN | apply below_drew1) | exact HB.out))) : w.heap.size ≤ gb256)); have n3_ := Aside0.mk ((by rw [hg]; exact (below_size (by repeat (first | (with_reducible first | exact HB.out | apply below_alloc | apply pw_below_drewN | apply below_drew1) | exact HB.out))) : w.heap.size ≤ gb256)); clear HB; have HB := n0_; have BK256 := n1_; have GW256 := n2_; have GE256 := n3_; clear n0_ n1_ n2_ n3_; clear hb hbox hg; have hcz15_0 : w14.cell? ⟨gb256, 0, none⟩ = some (.int .i64 0) := (blk_cell BK256.out 0).trans rfl; have hcz15_1 : w14.cell? ⟨gb256, 1, none⟩ = some (.int .i64 0) := (blk_cell BK256.out 1).trans rfl; have hcz15_2 : w14.cell? ⟨gb256, 2, none⟩ = some (.int .i64 0) := (blk_cell BK256.out 2).trans rfl; have hcz15_3 : w14.cell? ⟨gb256, 3, none⟩ = some (.int .i64 0) := (blk_cell BK256.out 3).trans rfl; have hcz15_4 : w14.cell? ⟨gb256, 4, none⟩ = some (.int .i64 0) := (blk_cell BK256.out 4).trans rfl; have hcz15_5 : w14.cell? ⟨gb256, 5, none⟩ = some (.int .i64 0) := (blk_cell BK256.out 5).trans rfl; have hfz15_0 := blk_frozen BK256.out 0; have hfz15_1 := blk_frozen BK256.out 1; have hfz15_2 := blk_frozen BK256.out 2; have hfz15_3 := blk_frozen BK256.out 3; have hfz15_4 := blk_frozen BK256.out 4; have hfz15_5 := blk_frozen BK256.out 5) | ((with_reducible refine gate_callee (f := 12) rfl ?_); refine goesL_ (some 32) rfl rfl Tryd.func12 (by kernel_rfl) rfl #[.slice A0 l0.length c0, .int .i64 a2] rfl (by (try simp only [List.map_toArray, List.map_cons, List.map_nil]); first | done | rfl | (simp only [List.length_drop, List.length_take]; rfl)) ?_; (with_reducible refine (leap_ToLabel.calls kj5 _ _ l0 a2 t257 t258 t259 t260 t261 t262 t263 _ (hM.below (by repeat (first | (with_reducible first | exact HB.out | apply below_alloc | apply pw_below_drewN | apply below_drew1 | refine below_set ?_ GE256.out) | exact HB.out))) ?side1 ?side2 A11.out).mono ?_); (case side1 => exact Kd.C_below HR0.out (by repeat (first | (with_reducible first | exact HB.out | apply below_alloc | apply pw_below_drewN | apply below_drew1 | refine below_set ?_ GE256.out) | exact HB.out))); (case side2 => exact HC0.out); rintro e w16 ⟨rfl, hb⟩; refine ⟨_, rfl, ?_⟩; have n0_ := Aside0.mk (blk_below (g := gb256) (o := .cells #[.int .i64 t249, .int .i64 t250, .int .i64 t251, .int .i64 t252, .int .i64 t253, .int .i64 t254] 26 (0, 0)) (by (with_reducible repeat (first | refine blk_drewN ?_ _ | refine blk_drew ?_ | refine blk_alloc ?_ _)); refine blk_put (cs := #[.int .i64 t249, .int .i64 t250, .int .i64 t251, .int .i64 t252, .int .i64 t253, .int .i64 0]) ?_ 5 _ rfl; (with_reducible repeat (first | refine blk_drewN ?_ _ | refine blk_drew ?_ | refine blk_alloc ?_ _)); refine blk_put (cs := #[.int .i64 t249, .int .i64 t250, .int .i64 t251, .int .i64 t252, .int .i64 0, .int .i64 0]) ?_ 4 _ rfl; (with_reducible repeat (first | refine blk_drewN ?_ _ | refine blk_drew ?_ | refine blk_alloc ?_ _)); refine blk_put (cs := #[.int .i64 t249, .int .i64 t250, .int .i64 t251, .int .i64 0, .int .i64 0, .int .i64 0]) ?_ 3 _ rfl; (with_reducible repeat (first | refine blk_drewN ?_ _ | refine blk_drew ?_ | refine blk_alloc ?_ _)); refine blk_put (cs := #[.int .i64 t249, .int .i64 t250, .int .i64 0, .int .i64 0, .int .i64 0, .int .i64 0]) ?_ 2 _ rfl; (with_reducible repeat (first | refine blk_drewN ?_ _ | refine blk_drew ?_ | refine blk_alloc ?_ _)); refine blk_put (cs := #[.int .i64 t249, .int .i64 0, .int .i64 0, .int .i64 0, .int .i64 0, .int .i64 0]) ?_ 1 _ rfl; (with_reducible repeat (first | refine blk_drewN ?_ _ | refine blk_drew ?_ | refine blk_alloc ?_ _)); refine blk_put (cs := #[.int .i64 0, .int .i64 0, .int .i64 0, .int .i64 0, .int .i64 0, .int .i64 0]) ?_ 0 _ rfl; (with_reducible repeat (first | refine blk_drewN ?_ _ | refine blk_drew ?_ | refine blk_alloc ?_ _)); exact BK256.out) hb); have n1_ := Aside0.mk (below_step (by repeat (first | (with_reducible first | exact HB.out | apply below_alloc | apply pw_below_drewN | apply below_drew1 | refine below_set ?_ GE256.out) | exact HB.out)) hb); clear BK256; clear HB; have BK256 := n0_; have HB := n1_; clear n0_ n1_; (try clear hb); (try clear hb2); (try clear hk); (try clear hi)) | ((with_reducible refine gate_dst (N := 9) rfl ?_); refine box_event ?hg (N := 9) ?hd (cs := #[.int .i64 0, .int .i64 0, .int .i64 0, .int .i64 0, .int .i64 0, .int .i64 0]) (t := 26) ?hr ?_; (case hd => rfl); (case hg => rfl); (case hr => first | (go_simp; done) | (go_simp; rfl)); intro gb264 hg w17 hbox hb; have n0_ := Aside0.mk (blk_below (g := gb256) (o := .cells #[.int .i64 t249, .int .i64 t250, .int .i64 t251, .int .i64 t252, .int .i64 t253, .int .i64 t254] 26 (0, 0)) (by (with_reducible repeat (first | refine blk_drewN ?_ _ | refine blk_drew ?_ | refine blk_alloc ?_ _)); exact BK256.out) hb); have n1_ := Aside0.mk (below_step (by repeat (first | (with_reducible first | exact HB.out | apply below_alloc | apply pw_below_drewN | apply below_drew1 | refine below_set ?_ GE256.out) | exact HB.out)) hb); have n2_ := Aside0.mk (hbox); have n3_ := Aside0.mk ((by rw [hg]; exact (below_size (by repeat (first | (with_reducible first | exact HB.out | apply below_alloc | apply pw_below_drewN | apply below_drew1 | refine below_set ?_ GE256.out) | exact HB.out))) : w.heap.size ≤ gb264)); have n4_ := Aside0.mk ((by rw [hg]; exact (below_size (by repeat (first | (with_reducible first | exact HB.out | apply below_alloc | apply pw_below_drewN | apply below_drew1 | refine below_set ?_ GE256.out) | exact HB.out))) : w.heap.size ≤ gb264)); have n5_ := Aside0.mk ((by rw [hg]; exact Nat.ne_of_lt (blk_lt (g := gb256) (o := .cells #[.int .i64 t249, .int .i64 t250, .int .i64 t251, .int .i64 t252, .int .i64 t253, .int .i64 t254] 26 (0, 0)) (by (with_reducible repeat (first | refine blk_drewN ?_ _ | refine blk_drew ?_ | refine blk_alloc ?_ _)); exact BK256.out)) : gb256 ≠ gb264)); have n6_ := Aside0.mk ((by rw [hg]; exact Nat.ne_of_gt (blk_lt (g := gb256) (o := .cells #[.int .i64 t249, .int .i64 t250, .int .i64 t251, .int .i64 t252, .int .i64 t253, .int .i64 t254] 26 (0, 0)) (by (with_reducible repeat (first | refine blk_drewN ?_ _ | refine blk_drew ?_ | refine blk_alloc ?_ _)); exact BK256.out)) : gb264 ≠ gb256)); clear BK256; clear HB; have BK256 := n0_; have HB := n1_; have BK264 := n2_; have GW264 := n3_; have GE264 := n4_; have NB256_264 := n5_; have NB264_256 := n6_; clear n0_ n1_ n2_ n3_ n4_ n5_ n6_; clear hb hbox hg; have hnb18 := NB264_256.out; have hnc18 := NB256_264.out; have hcz19_0 : w17.cell? ⟨gb264, 0, none⟩ = some (.int .i64 0) := (blk_cell BK264.out 0).trans rfl; have hcz19_1 : w17.cell? ⟨gb264, 1, none⟩ = some (.int .i64 0) := (blk_cell BK264.out 1).trans rfl; have hcz19_2 : w17.cell? ⟨gb264, 2, none⟩ = some (.int .i64 0) := (blk_cell BK264.out 2).trans rfl; have hcz19_3 : w17.cell? ⟨gb264, 3, none⟩ = some (.int .i64 0) := (blk_cell BK264.out 3).trans rfl; have hcz19_4 : w17.cell? ⟨gb264, 4, none⟩ = some (.int .i64 0) := (blk_cell BK264.out 4).trans rfl; have hcz19_5 : w17.cell? ⟨gb264, 5, none⟩ = some (.int .i64 0) := (blk_cell BK264.out 5).trans rfl; have hfz19_0 := blk_frozen BK264.out 0; have hfz19_1 := blk_frozen BK264.out 1; have hfz19_2 := blk_frozen BK264.out 2; have hfz19_3 := blk_frozen BK264.out 3; have hfz19_4 := blk_frozen BK264.out 4; have hfz19_5 := blk_frozen BK264.out 5))
     (try simp only [Act.put, List.setIfInBounds_toArray, List.set_cons_zero, List.set_cons_succ])
     go_cut [40] (fun v40 wc => ∃ (kq : Nat) (x40_11 : Bool), v40 = .bool x40_11 ∧ Aside0 (clepsydralaw18_LeapRises.j1 kq l0 a1 x40_11 t249 t250 t251 t252 t253 t254 t257 t258 t259 t260 t261 t262 = some r) ∧ Aside0 (kq ≤ kj5) ∧ Aside0 (wc.heap[gb256]? = some (.cells #[.int .i64 t249, .int .i64 t250, .int .i64 t251, .int .i64 t252, .int .i64 t253, .int .i64 t254] 26 (0, 0))) ∧ Aside0 (wc.heap[gb264]? = some (.cells #[.int .i64 t257, .int .i64 t258, .int .i64 t259, .int .i64 t260, .int .i64 t261, .int .i64 t262] 26 (0, 0))) ∧ Aside0 (Below w.heap.size w wc))
     case first =>
      have H := HC12.out
      clear HC12
      by_cases c20 : t255 = 0
      ·rw [if_pos c20] at H
       have c20b0 : (t255 == 0) = true := beq_iff_eq.mpr c20
       have c20b1 : (t255 != 0) = false := bne_eq_false_iff_eq.mpr c20
       clear c20
       (first | rw [c20b0] | (simp only [i64_w, i32_w]; rw [c20b0]) | skip)
       have H' := Aside0.mk H
       clear H
       go_wp2
       go_meet
       case rel => exact ⟨_, ((t263 != 0)), (by first | rfl | (simp; done) | (simp [*]; done) | (simp [Int.tdiv_eq_ediv_of_nonneg]; done) | (simp [Go.RowKit.wrap64]; done) | (simp [*, Go.RowKit.wrap64]; done)), H', ⟨by have := HJ5.out; first | omega | exact Nat.le_refl _⟩, ⟨by (with_reducible repeat (first | refine blk_drewN ?_ _ | refine blk_drew ?_ | refine blk_alloc ?_ _)); refine blk_far ?_ NB256_264.out _; (with_reducible repeat (first | refine blk_drewN ?_ _ | refine blk_drew ?_ | refine blk_alloc ?_ _)); refine blk_far ?_ NB256_264.out _; (with_reducible repeat (first | refine blk_drewN ?_ _ | refine blk_drew ?_ | refine blk_alloc ?_ _)); refine blk_far ?_ NB256_264.out _; (with_reducible repeat (first | refine blk_drewN ?_ _ | refine blk_drew ?_ | refine blk_alloc ?_ _)); refine blk_far ?_ NB256_264.out _; (with_reducible repeat (first | refine blk_drewN ?_ _ | refine blk_drew ?_ | refine blk_alloc ?_ _)); refine blk_far ?_ NB256_264.out _; (with_reducible repeat (first | refine blk_drewN ?_ _ | refine blk_drew ?_ | refine blk_alloc ?_ _)); refine blk_far ?_ NB256_264.out _; (with_reducible repeat (first | refine blk_drewN ?_ _ | refine blk_drew ?_ | refine blk_alloc ?_ _)); exact BK256.out⟩, ⟨by (with_reducible repeat (first | refine blk_drewN ?_ _ | refine blk_drew ?_ | refine blk_alloc ?_ _)); refine blk_put (cs := #[.int .i64 t257, .int .i64 t258, .int .i64 t259, .int .i64 t260, .int .i64 t261, .int .i64 0]) ?_ 5 _ rfl; (with_reducible repeat (first | refine blk_drewN ?_ _ | refine blk_drew ?_ | refine blk_alloc ?_ _)); refine blk_put (cs := #[.int .i64 t257, .int .i64 t258, .int .i64 t259, .int .i64 t260, .int .i64 0, .int .i64 0]) ?_ 4 _ rfl; (with_reducible repeat (first | refine blk_drewN ?_ _ | refine blk_drew ?_ | refine blk_alloc ?_ _)); refine blk_put (cs := #[.int .i64 t257, .int .i64 t258, .int .i64 t259, .int .i64 0, .int .i64 0, .int .i64 0]) ?_ 3 _ rfl; (with_reducible repeat (first | refine blk_drewN ?_ _ | refine blk_drew ?_ | refine blk_alloc ?_ _)); refine blk_put (cs := #[.int .i64 t257, .int .i64 t258, .int .i64 0, .int .i64 0, .int .i64 0, .int .i64 0]) ?_ 2 _ rfl; (with_reducible repeat (first | refine blk_drewN ?_ _ | refine blk_drew ?_ | refine blk_alloc ?_ _)); refine blk_put (cs := #[.int .i64 t257, .int .i64 0, .int .i64 0, .int .i64 0, .int .i64 0, .int .i64 0]) ?_ 1 _ rfl; (with_reducible repeat (first | refine blk_drewN ?_ _ | refine blk_drew ?_ | refine blk_alloc ?_ _)); refine blk_put (cs := #[.int .i64 0, .int .i64 0, .int .i64 0, .int .i64 0, .int .i64 0, .int .i64 0]) ?_ 0 _ rfl; (with_reducible repeat (first | refine blk_drewN ?_ _ | refine blk_drew ?_ | refine blk_alloc ?_ _)); exact BK264.out⟩, ⟨by repeat (first | (with_reducible first | exact HB.out | apply below_alloc | apply pw_below_drewN | apply below_drew1 | refine below_set ?_ GE256.out | refine below_set ?_ GE264.out) | exact HB.out)⟩⟩
      ·rw [if_neg c20] at H
       have c20b0 : (t255 == 0) = false := beq_eq_false_iff_ne.mpr c20
       have c20b1 : (t255 != 0) = true := bne_iff_ne.mpr c20
       (first | rw [c20b0] | (simp only [i64_w, i32_w]; rw [c20b0]) | skip)
       have H' := Aside0.mk H
       clear H
       go_wp2
       go_meet
       case rel => exact ⟨_, (true), (by first | rfl | (simp; done) | (simp [*]; done) | (simp [Int.tdiv_eq_ediv_of_nonneg]; done) | (simp [Go.RowKit.wrap64]; done) | (simp [*, Go.RowKit.wrap64]; done)), H', ⟨by have := HJ5.out; first | omega | exact Nat.le_refl _⟩, ⟨by (with_reducible repeat (first | refine blk_drewN ?_ _ | refine blk_drew ?_ | refine blk_alloc ?_ _)); refine blk_far ?_ NB256_264.out _; (with_reducible repeat (first | refine blk_drewN ?_ _ | refine blk_drew ?_ | refine blk_alloc ?_ _)); refine blk_far ?_ NB256_264.out _; (with_reducible repeat (first | refine blk_drewN ?_ _ | refine blk_drew ?_ | refine blk_alloc ?_ _)); refine blk_far ?_ NB256_264.out _; (with_reducible repeat (first | refine blk_drewN ?_ _ | refine blk_drew ?_ | refine blk_alloc ?_ _)); refine blk_far ?_ NB256_264.out _; (with_reducible repeat (first | refine blk_drewN ?_ _ | refine blk_drew ?_ | refine blk_alloc ?_ _)); refine blk_far ?_ NB256_264.out _; (with_reducible repeat (first | refine blk_drewN ?_ _ | refine blk_drew ?_ | refine blk_alloc ?_ _)); refine blk_far ?_ NB256_264.out _; (with_reducible repeat (first | refine blk_drewN ?_ _ | refine blk_drew ?_ | refine blk_alloc ?_ _)); exact BK256.out⟩, ⟨by (with_reducible repeat (first | refine blk_drewN ?_ _ | refine blk_drew ?_ | refine blk_alloc ?_ _)); refine blk_put (cs := #[.int .i64 t257, .int .i64 t258, .int .i64 t259, .int .i64 t260, .int .i64 t261, .int .i64 0]) ?_ 5 _ rfl; (with_reducible repeat (first | refine blk_drewN ?_ _ | refine blk_drew ?_ | refine blk_alloc ?_ _)); refine blk_put (cs := #[.int .i64 t257, .int .i64 t258, .int .i64 t259, .int .i64 t260, .int .i64 0, .int .i64 0]) ?_ 4 _ rfl; (with_reducible repeat (first | refine blk_drewN ?_ _ | refine blk_drew ?_ | refine blk_alloc ?_ _)); refine blk_put (cs := #[.int .i64 t257, .int .i64 t258, .int .i64 t259, .int .i64 0, .int .i64 0, .int .i64 0]) ?_ 3 _ rfl; (with_reducible repeat (first | refine blk_drewN ?_ _ | refine blk_drew ?_ | refine blk_alloc ?_ _)); refine blk_put (cs := #[.int .i64 t257, .int .i64 t258, .int .i64 0, .int .i64 0, .int .i64 0, .int .i64 0]) ?_ 2 _ rfl; (with_reducible repeat (first | refine blk_drewN ?_ _ | refine blk_drew ?_ | refine blk_alloc ?_ _)); refine blk_put (cs := #[.int .i64 t257, .int .i64 0, .int .i64 0, .int .i64 0, .int .i64 0, .int .i64 0]) ?_ 1 _ rfl; (with_reducible repeat (first | refine blk_drewN ?_ _ | refine blk_drew ?_ | refine blk_alloc ?_ _)); refine blk_put (cs := #[.int .i64 0, .int .i64 0, .int .i64 0, .int .i64 0, .int .i64 0, .int .i64 0]) ?_ 0 _ rfl; (with_reducible repeat (first | refine blk_drewN ?_ _ | refine blk_drew ?_ | refine blk_alloc ?_ _)); exact BK264.out⟩, ⟨by repeat (first | (with_reducible first | exact HB.out | apply below_alloc | apply pw_below_drewN | apply below_drew1 | refine below_set ?_ GE256.out | refine below_set ?_ GE264.out) | exact HB.out)⟩⟩
     case rest =>
      clear HC12
      try clear c1
      try clear c2
      try clear p2
      try clear c5
      try clear c6
      try clear c8
      try clear c8b0
      try clear c8b1
      try clear c9
      try clear c10
      try clear c12
      try clear c18
      try clear c20
      try clear c20b0
      try clear c20b1
      try clear hcz15_0
      try clear hcz15_1
      try clear hcz15_2
      try clear hcz15_3
      try clear hcz15_4
      try clear hcz15_5
      try clear hcz19_0
      try clear hcz19_1
      try clear hcz19_2
      try clear hcz19_3
      try clear hcz19_4
      try clear hcz19_5
      try clear hfz15_0
      try clear hfz15_1
      try clear hfz15_2
      try clear hfz15_3
      try clear hfz15_4
      try clear hfz15_5
      try clear hfz19_0
      try clear hfz19_1
      try clear hfz19_2
      try clear hfz19_3
      try clear hfz19_4
      try clear hfz19_5
      try clear p2
      obtain ⟨kq, x40_11, rfl, HA, HJ11, BK256, BK264, HB⟩ := hcut
      cases kq with
      | zero => exact absurd HA.out (by simp [clepsydralaw18_LeapRises.j1])
      | succ kj11 =>
       have H := HA.out
       clear HA
       simp only [clepsydralaw18_LeapRises.j1] at H
       by_cases c21 : x40_11 = true
       ·subst c21
        have H1 : (some true) = some r := by rw [if_pos rfl] at H; exact H
        clear H
        have H := H1
        clear H1
        obtain rfl := Option.some.inj H
        go_wp2
        go_ret
        exact ⟨by first | rfl | (simp [errW_none, errW_some] <;> rfl) | (simp [*, errW_none, errW_some] <;> rfl), by repeat (first | (with_reducible first | exact HB.out | apply below_alloc | apply pw_below_drewN | apply below_drew1 | refine below_set ?_ GE256.out | refine below_set ?_ GE264.out) | exact HB.out)⟩
       ·replace c21 := Bool.eq_false_iff.mpr c21
        subst c21
        have H1 : ((clepsydraref18_Before.f t249 t250 t251 t252 t253 t254 t257 t258 t259 t260 t261 t262).bind fun t265 => (if t265 = true then ((leap_ToLabel.f kj11 l0 (wrap64 (a1 + 1))).bind fun bt266 => (if bt266.2.2.2.2.2.2 = 0 then (if t254 ≥ 58 then (some true) else (if bt266.2.2.2.2.2.1 = (wrap64 (t254 + 1)) then (if bt266.2.2.2.2.1 = t253 then (some (bt266.2.2.1 == t251)) else (some false)) else (some false))) else (some true))) else (some false))) = some r := by rw [if_neg (show ¬ (false = true) by decide)] at H; exact H
        clear H
        have H := H1
        clear H1
        replace H := Option.bind_eq_some_iff.mp H
        obtain ⟨t265, A220, H⟩ := H
        replace H : (if t265 = true then ((leap_ToLabel.f kj11 l0 (wrap64 (a1 + 1))).bind fun bt266 => (if bt266.2.2.2.2.2.2 = 0 then (if t254 ≥ 58 then (some true) else (if bt266.2.2.2.2.2.1 = (wrap64 (t254 + 1)) then (if bt266.2.2.2.2.1 = t253 then (some (bt266.2.2.1 == t251)) else (some false)) else (some false))) else (some true))) else (some false)) = some r := H
        have A22 := Aside0.mk A220
        clear A220
        by_cases c23 : t265 = true
        ·subst c23
         have H1 : ((leap_ToLabel.f kj11 l0 (wrap64 (a1 + 1))).bind fun bt266 => (if bt266.2.2.2.2.2.2 = 0 then (if t254 ≥ 58 then (some true) else (if bt266.2.2.2.2.2.1 = (wrap64 (t254 + 1)) then (if bt266.2.2.2.2.1 = t253 then (some (bt266.2.2.1 == t251)) else (some false)) else (some false))) else (some true))) = some r := by rw [if_pos rfl] at H; exact H
         clear H
         have H := H1
         clear H1
         replace H := Option.bind_eq_some_iff.mp H
         obtain ⟨⟨t266, t267, t268, t269, t270, t271, t272⟩, A240, H⟩ := H
         replace H : (if t272 = 0 then (if t254 ≥ 58 then (some true) else (if t271 = (wrap64 (t254 + 1)) then (if t270 = t253 then (some (t268 == t251)) else (some false)) else (some false))) else (some true)) = some r := H
         have A24 := Aside0.mk A240
         clear A240
         by_cases c25 : t272 = 0
         ·rw [if_pos c25] at H
          have c25b0 : (t272 == 0) = true := beq_iff_eq.mpr c25
          have c25b1 : (t272 != 0) = false := bne_eq_false_iff_eq.mpr c25
          clear c25
          by_cases c26 : t254 ≥ 58
          ·rw [if_pos c26] at H
           have c26b0 : decide (58 ≤ t254) = true := decide_eq_true c26
           clear c26
           obtain rfl := Option.some.inj H
           have hnb27 := NB256_264.out
           have hnc27 := NB264_256.out
           have hcz28_0 : wc.cell? ⟨gb256, 0, none⟩ = some (.int .i64 t249) := (blk_cell BK256.out 0).trans rfl
           have hcz28_1 : wc.cell? ⟨gb256, 1, none⟩ = some (.int .i64 t250) := (blk_cell BK256.out 1).trans rfl
           have hcz28_2 : wc.cell? ⟨gb256, 2, none⟩ = some (.int .i64 t251) := (blk_cell BK256.out 2).trans rfl
           have hcz28_3 : wc.cell? ⟨gb256, 3, none⟩ = some (.int .i64 t252) := (blk_cell BK256.out 3).trans rfl
           have hcz28_4 : wc.cell? ⟨gb256, 4, none⟩ = some (.int .i64 t253) := (blk_cell BK256.out 4).trans rfl
           have hcz28_5 : wc.cell? ⟨gb256, 5, none⟩ = some (.int .i64 t254) := (blk_cell BK256.out 5).trans rfl
           have hfz28_0 := blk_frozen BK256.out 0
           have hfz28_1 := blk_frozen BK256.out 1
           have hfz28_2 := blk_frozen BK256.out 2
           have hfz28_3 := blk_frozen BK256.out 3
           have hfz28_4 := blk_frozen BK256.out 4
           have hfz28_5 := blk_frozen BK256.out 5
           have hcz29_0 : wc.cell? ⟨gb264, 0, none⟩ = some (.int .i64 t257) := (blk_cell BK264.out 0).trans rfl
           have hcz29_1 : wc.cell? ⟨gb264, 1, none⟩ = some (.int .i64 t258) := (blk_cell BK264.out 1).trans rfl
           have hcz29_2 : wc.cell? ⟨gb264, 2, none⟩ = some (.int .i64 t259) := (blk_cell BK264.out 2).trans rfl
           have hcz29_3 : wc.cell? ⟨gb264, 3, none⟩ = some (.int .i64 t260) := (blk_cell BK264.out 3).trans rfl
           have hcz29_4 : wc.cell? ⟨gb264, 4, none⟩ = some (.int .i64 t261) := (blk_cell BK264.out 4).trans rfl
           have hcz29_5 : wc.cell? ⟨gb264, 5, none⟩ = some (.int .i64 t262) := (blk_cell BK264.out 5).trans rfl
           have hfz29_0 := blk_frozen BK264.out 0
           have hfz29_1 := blk_frozen BK264.out 1
           have hfz29_2 := blk_frozen BK264.out 2
           have hfz29_3 := blk_frozen BK264.out 3
           have hfz29_4 := blk_frozen BK264.out 4
           have hfz29_5 := blk_frozen BK264.out 5
           go_wp2_with (first | ((with_reducible refine gate_callee (f := 17) rfl ?_); refine goesL_ (some 43) rfl rfl Tryd.func17 (by kernel_rfl) rfl #[.agg #[.int .i64 t249, .int .i64 t250, .int .i64 t251, .int .i64 t252, .int .i64 t253, .int .i64 t254], .agg #[.int .i64 t257, .int .i64 t258, .int .i64 t259, .int .i64 t260, .int .i64 t261, .int .i64 t262]] rfl (by (try simp only [List.map_toArray, List.map_cons, List.map_nil]); first | done | rfl | (simp only [List.length_drop, List.length_take]; rfl)) ?_; (with_reducible refine (clepsydraref18_Before.calls t249 t250 t251 t252 t253 t254 t257 t258 t259 t260 t261 t262 true _ A22.out).mono ?_); rintro e w30 ⟨rfl, hb⟩; refine ⟨_, rfl, ?_⟩; have n0_ := Aside0.mk (blk_below (g := gb256) (o := .cells #[.int .i64 t249, .int .i64 t250, .int .i64 t251, .int .i64 t252, .int .i64 t253, .int .i64 t254] 26 (0, 0)) (by (with_reducible repeat (first | refine blk_drewN ?_ _ | refine blk_drew ?_ | refine blk_alloc ?_ _)); exact BK256.out) hb); have n1_ := Aside0.mk (blk_below (g := gb264) (o := .cells #[.int .i64 t257, .int .i64 t258, .int .i64 t259, .int .i64 t260, .int .i64 t261, .int .i64 t262] 26 (0, 0)) (by (with_reducible repeat (first | refine blk_drewN ?_ _ | refine blk_drew ?_ | refine blk_alloc ?_ _)); exact BK264.out) hb); have n2_ := Aside0.mk (below_step (by repeat (first | (with_reducible first | exact HB.out | apply below_alloc | apply pw_below_drewN | apply below_drew1 | refine below_set ?_ GE256.out | refine below_set ?_ GE264.out) | exact HB.out)) hb); clear BK256; clear BK264; clear HB; have BK256 := n0_; have BK264 := n1_; have HB := n2_; clear n0_ n1_ n2_; (try clear hb); (try clear hb2); (try clear hk); (try clear hi)) | ((with_reducible refine gate_callee (f := 12) rfl ?_); refine goesL_ (some 49) rfl rfl Tryd.func12 (by kernel_rfl) rfl #[.slice A0 l0.length c0, .int .i64 (wrap64 (a1 + 1))] rfl (by (try simp only [List.map_toArray, List.map_cons, List.map_nil]); first | done | rfl | (simp only [List.length_drop, List.length_take]; rfl)) ?_; (with_reducible refine (leap_ToLabel.calls kj11 _ _ l0 (wrap64 (a1 + 1)) t266 t267 t268 t269 t270 t271 t272 _ (hM.below (by repeat (first | (with_reducible first | exact HB.out | apply below_alloc | apply pw_below_drewN | apply below_drew1 | refine below_set ?_ GE256.out | refine below_set ?_ GE264.out) | exact HB.out))) ?side1 ?side2 A24.out).mono ?_); (case side1 => repeat (first | exact (Kd.C_below HR0.out HB.out) | (with_reducible refine Kd.C_alloc ?_ _) | (with_reducible refine Kd.C_drewN ?_ _) | (with_reducible refine Kd.C_drew ?_))); (case side2 => exact HC0.out); rintro e w31 ⟨rfl, hb⟩; refine ⟨_, rfl, ?_⟩; have n0_ := Aside0.mk (blk_below (g := gb256) (o := .cells #[.int .i64 t249, .int .i64 t250, .int .i64 t251, .int .i64 t252, .int .i64 t253, .int .i64 t254] 26 (0, 0)) (by (with_reducible repeat (first | refine blk_drewN ?_ _ | refine blk_drew ?_ | refine blk_alloc ?_ _)); exact BK256.out) hb); have n1_ := Aside0.mk (blk_below (g := gb264) (o := .cells #[.int .i64 t257, .int .i64 t258, .int .i64 t259, .int .i64 t260, .int .i64 t261, .int .i64 t262] 26 (0, 0)) (by (with_reducible repeat (first | refine blk_drewN ?_ _ | refine blk_drew ?_ | refine blk_alloc ?_ _)); exact BK264.out) hb); have n2_ := Aside0.mk (below_step (by repeat (first | (with_reducible first | exact HB.out | apply below_alloc | apply pw_below_drewN | apply below_drew1 | refine below_set ?_ GE256.out | refine below_set ?_ GE264.out) | exact HB.out)) hb); clear BK256; clear BK264; clear HB; have BK256 := n0_; have BK264 := n1_; have HB := n2_; clear n0_ n1_ n2_; (try clear hb); (try clear hb2); (try clear hk); (try clear hi)) | ((with_reducible refine gate_dst (N := 11) rfl ?_); refine box_event ?hg (N := 11) ?hd (cs := #[.int .i64 0, .int .i64 0, .int .i64 0, .int .i64 0, .int .i64 0, .int .i64 0]) (t := 26) ?hr ?_; (case hd => rfl); (case hg => rfl); (case hr => first | (go_simp; done) | (go_simp; rfl)); intro gb273 hg w32 hbox hb; have n0_ := Aside0.mk (blk_below (g := gb256) (o := .cells #[.int .i64 t249, .int .i64 t250, .int .i64 t251, .int .i64 t252, .int .i64 t253, .int .i64 t254] 26 (0, 0)) (by (with_reducible repeat (first | refine blk_drewN ?_ _ | refine blk_drew ?_ | refine blk_alloc ?_ _)); exact BK256.out) hb); have n1_ := Aside0.mk (blk_below (g := gb264) (o := .cells #[.int .i64 t257, .int .i64 t258, .int .i64 t259, .int .i64 t260, .int .i64 t261, .int .i64 t262] 26 (0, 0)) (by (with_reducible repeat (first | refine blk_drewN ?_ _ | refine blk_drew ?_ | refine blk_alloc ?_ _)); exact BK264.out) hb); have n2_ := Aside0.mk (below_step (by repeat (first | (with_reducible first | exact HB.out | apply below_alloc | apply pw_below_drewN | apply below_drew1 | refine below_set ?_ GE256.out | refine below_set ?_ GE264.out) | exact HB.out)) hb); have n3_ := Aside0.mk (hbox); have n4_ := Aside0.mk ((by rw [hg]; exact (below_size (by repeat (first | (with_reducible first | exact HB.out | apply below_alloc | apply pw_below_drewN | apply below_drew1 | refine below_set ?_ GE256.out | refine below_set ?_ GE264.out) | exact HB.out))) : w.heap.size ≤ gb273)); have n5_ := Aside0.mk ((by rw [hg]; exact (below_size (by repeat (first | (with_reducible first | exact HB.out | apply below_alloc | apply pw_below_drewN | apply below_drew1 | refine below_set ?_ GE256.out | refine below_set ?_ GE264.out) | exact HB.out))) : w.heap.size ≤ gb273)); have n6_ := Aside0.mk ((by rw [hg]; exact Nat.ne_of_lt (blk_lt (g := gb256) (o := .cells #[.int .i64 t249, .int .i64 t250, .int .i64 t251, .int .i64 t252, .int .i64 t253, .int .i64 t254] 26 (0, 0)) (by (with_reducible repeat (first | refine blk_drewN ?_ _ | refine blk_drew ?_ | refine blk_alloc ?_ _)); exact BK256.out)) : gb256 ≠ gb273)); have n7_ := Aside0.mk ((by rw [hg]; exact Nat.ne_of_gt (blk_lt (g := gb256) (o := .cells #[.int .i64 t249, .int .i64 t250, .int .i64 t251, .int .i64 t252, .int .i64 t253, .int .i64 t254] 26 (0, 0)) (by (with_reducible repeat (first | refine blk_drewN ?_ _ | refine blk_drew ?_ | refine blk_alloc ?_ _)); exact BK256.out)) : gb273 ≠ gb256)); have n8_ := Aside0.mk ((by rw [hg]; exact Nat.ne_of_lt (blk_lt (g := gb264) (o := .cells #[.int .i64 t257, .int .i64 t258, .int .i64 t259, .int .i64 t260, .int .i64 t261, .int .i64 t262] 26 (0, 0)) (by (with_reducible repeat (first | refine blk_drewN ?_ _ | refine blk_drew ?_ | refine blk_alloc ?_ _)); exact BK264.out)) : gb264 ≠ gb273)); have n9_ := Aside0.mk ((by rw [hg]; exact Nat.ne_of_gt (blk_lt (g := gb264) (o := .cells #[.int .i64 t257, .int .i64 t258, .int .i64 t259, .int .i64 t260, .int .i64 t261, .int .i64 t262] 26 (0, 0)) (by (with_reducible repeat (first | refine blk_drewN ?_ _ | refine blk_drew ?_ | refine blk_alloc ?_ _)); exact BK264.out)) : gb273 ≠ gb264)); clear BK256; clear BK264; clear HB; have BK256 := n0_; have BK264 := n1_; have HB := n2_; have BK273 := n3_; have GW273 := n4_; have GE273 := n5_; have NB256_273 := n6_; have NB273_256 := n7_; have NB264_273 := n8_; have NB273_264 := n9_; clear n0_ n1_ n2_ n3_ n4_ n5_ n6_ n7_ n8_ n9_; clear hb hbox hg; have hnb33 := NB273_256.out; have hnc33 := NB256_273.out; have hnb34 := NB273_264.out; have hnc34 := NB264_273.out; have hcz35_0 : w32.cell? ⟨gb273, 0, none⟩ = some (.int .i64 0) := (blk_cell BK273.out 0).trans rfl; have hcz35_1 : w32.cell? ⟨gb273, 1, none⟩ = some (.int .i64 0) := (blk_cell BK273.out 1).trans rfl; have hcz35_2 : w32.cell? ⟨gb273, 2, none⟩ = some (.int .i64 0) := (blk_cell BK273.out 2).trans rfl; have hcz35_3 : w32.cell? ⟨gb273, 3, none⟩ = some (.int .i64 0) := (blk_cell BK273.out 3).trans rfl; have hcz35_4 : w32.cell? ⟨gb273, 4, none⟩ = some (.int .i64 0) := (blk_cell BK273.out 4).trans rfl; have hcz35_5 : w32.cell? ⟨gb273, 5, none⟩ = some (.int .i64 0) := (blk_cell BK273.out 5).trans rfl; have hfz35_0 := blk_frozen BK273.out 0; have hfz35_1 := blk_frozen BK273.out 1; have hfz35_2 := blk_frozen BK273.out 2; have hfz35_3 := blk_frozen BK273.out 3; have hfz35_4 := blk_frozen BK273.out 4; have hfz35_5 := blk_frozen BK273.out 5; have hcz36_0 : w32.cell? ⟨gb256, 0, none⟩ = some (.int .i64 t249) := (blk_cell BK256.out 0).trans rfl; have hcz36_1 : w32.cell? ⟨gb256, 1, none⟩ = some (.int .i64 t250) := (blk_cell BK256.out 1).trans rfl; have hcz36_2 : w32.cell? ⟨gb256, 2, none⟩ = some (.int .i64 t251) := (blk_cell BK256.out 2).trans rfl; have hcz36_3 : w32.cell? ⟨gb256, 3, none⟩ = some (.int .i64 t252) := (blk_cell BK256.out 3).trans rfl; have hcz36_4 : w32.cell? ⟨gb256, 4, none⟩ = some (.int .i64 t253) := (blk_cell BK256.out 4).trans rfl; have hcz36_5 : w32.cell? ⟨gb256, 5, none⟩ = some (.int .i64 t254) := (blk_cell BK256.out 5).trans rfl; have hfz36_0 := blk_frozen BK256.out 0; have hfz36_1 := blk_frozen BK256.out 1; have hfz36_2 := blk_frozen BK256.out 2; have hfz36_3 := blk_frozen BK256.out 3; have hfz36_4 := blk_frozen BK256.out 4; have hfz36_5 := blk_frozen BK256.out 5))
           go_ret
           exact ⟨by first | rfl | (simp [errW_none, errW_some] <;> rfl) | (simp [*, errW_none, errW_some] <;> rfl), by repeat (first | (with_reducible first | exact HB.out | apply below_alloc | apply pw_below_drewN | apply below_drew1 | refine below_set ?_ GE256.out | refine below_set ?_ GE264.out | refine below_set ?_ GE273.out) | exact HB.out)⟩
          ·rw [if_neg c26] at H
           have c26b0 : decide (58 ≤ t254) = false := decide_eq_false c26
           clear c26
           by_cases c37 : t271 = (wrap64 (t254 + 1))
           ·rw [if_pos c37] at H
            have c37b0 : (t271 == (wrap64 (t254 + 1))) = true := beq_iff_eq.mpr c37
            have c37b1 : (t271 != (wrap64 (t254 + 1))) = false := bne_eq_false_iff_eq.mpr c37
            clear c37
            by_cases c38 : t270 = t253
            ·rw [if_pos c38] at H
             have c38b0 : (t270 == t253) = true := beq_iff_eq.mpr c38
             have c38b1 : (t270 != t253) = false := bne_eq_false_iff_eq.mpr c38
             clear c38
             obtain rfl := Option.some.inj H
             have hnb39 := NB256_264.out
             have hnc39 := NB264_256.out
             have hcz40_0 : wc.cell? ⟨gb256, 0, none⟩ = some (.int .i64 t249) := (blk_cell BK256.out 0).trans rfl
             have hcz40_1 : wc.cell? ⟨gb256, 1, none⟩ = some (.int .i64 t250) := (blk_cell BK256.out 1).trans rfl
             have hcz40_2 : wc.cell? ⟨gb256, 2, none⟩ = some (.int .i64 t251) := (blk_cell BK256.out 2).trans rfl
             have hcz40_3 : wc.cell? ⟨gb256, 3, none⟩ = some (.int .i64 t252) := (blk_cell BK256.out 3).trans rfl
             have hcz40_4 : wc.cell? ⟨gb256, 4, none⟩ = some (.int .i64 t253) := (blk_cell BK256.out 4).trans rfl
             have hcz40_5 : wc.cell? ⟨gb256, 5, none⟩ = some (.int .i64 t254) := (blk_cell BK256.out 5).trans rfl
             have hfz40_0 := blk_frozen BK256.out 0
             have hfz40_1 := blk_frozen BK256.out 1
             have hfz40_2 := blk_frozen BK256.out 2
             have hfz40_3 := blk_frozen BK256.out 3
             have hfz40_4 := blk_frozen BK256.out 4
             have hfz40_5 := blk_frozen BK256.out 5
             have hcz41_0 : wc.cell? ⟨gb264, 0, none⟩ = some (.int .i64 t257) := (blk_cell BK264.out 0).trans rfl
             have hcz41_1 : wc.cell? ⟨gb264, 1, none⟩ = some (.int .i64 t258) := (blk_cell BK264.out 1).trans rfl
             have hcz41_2 : wc.cell? ⟨gb264, 2, none⟩ = some (.int .i64 t259) := (blk_cell BK264.out 2).trans rfl
             have hcz41_3 : wc.cell? ⟨gb264, 3, none⟩ = some (.int .i64 t260) := (blk_cell BK264.out 3).trans rfl
             have hcz41_4 : wc.cell? ⟨gb264, 4, none⟩ = some (.int .i64 t261) := (blk_cell BK264.out 4).trans rfl
             have hcz41_5 : wc.cell? ⟨gb264, 5, none⟩ = some (.int .i64 t262) := (blk_cell BK264.out 5).trans rfl
             have hfz41_0 := blk_frozen BK264.out 0
             have hfz41_1 := blk_frozen BK264.out 1
             have hfz41_2 := blk_frozen BK264.out 2
             have hfz41_3 := blk_frozen BK264.out 3
             have hfz41_4 := blk_frozen BK264.out 4
             have hfz41_5 := blk_frozen BK264.out 5
             go_wp2_with (first | ((with_reducible refine gate_callee (f := 17) rfl ?_); refine goesL_ (some 43) rfl rfl Tryd.func17 (by kernel_rfl) rfl #[.agg #[.int .i64 t249, .int .i64 t250, .int .i64 t251, .int .i64 t252, .int .i64 t253, .int .i64 t254], .agg #[.int .i64 t257, .int .i64 t258, .int .i64 t259, .int .i64 t260, .int .i64 t261, .int .i64 t262]] rfl (by (try simp only [List.map_toArray, List.map_cons, List.map_nil]); first | done | rfl | (simp only [List.length_drop, List.length_take]; rfl)) ?_; (with_reducible refine (clepsydraref18_Before.calls t249 t250 t251 t252 t253 t254 t257 t258 t259 t260 t261 t262 true _ A22.out).mono ?_); rintro e w42 ⟨rfl, hb⟩; refine ⟨_, rfl, ?_⟩; have n0_ := Aside0.mk (blk_below (g := gb256) (o := .cells #[.int .i64 t249, .int .i64 t250, .int .i64 t251, .int .i64 t252, .int .i64 t253, .int .i64 t254] 26 (0, 0)) (by (with_reducible repeat (first | refine blk_drewN ?_ _ | refine blk_drew ?_ | refine blk_alloc ?_ _)); exact BK256.out) hb); have n1_ := Aside0.mk (blk_below (g := gb264) (o := .cells #[.int .i64 t257, .int .i64 t258, .int .i64 t259, .int .i64 t260, .int .i64 t261, .int .i64 t262] 26 (0, 0)) (by (with_reducible repeat (first | refine blk_drewN ?_ _ | refine blk_drew ?_ | refine blk_alloc ?_ _)); exact BK264.out) hb); have n2_ := Aside0.mk (below_step (by repeat (first | (with_reducible first | exact HB.out | apply below_alloc | apply pw_below_drewN | apply below_drew1 | refine below_set ?_ GE256.out | refine below_set ?_ GE264.out) | exact HB.out)) hb); clear BK256; clear BK264; clear HB; have BK256 := n0_; have BK264 := n1_; have HB := n2_; clear n0_ n1_ n2_; (try clear hb); (try clear hb2); (try clear hk); (try clear hi)) | ((with_reducible refine gate_callee (f := 12) rfl ?_); refine goesL_ (some 49) rfl rfl Tryd.func12 (by kernel_rfl) rfl #[.slice A0 l0.length c0, .int .i64 (wrap64 (a1 + 1))] rfl (by (try simp only [List.map_toArray, List.map_cons, List.map_nil]); first | done | rfl | (simp only [List.length_drop, List.length_take]; rfl)) ?_; (with_reducible refine (leap_ToLabel.calls kj11 _ _ l0 (wrap64 (a1 + 1)) t266 t267 t268 t269 t270 t271 t272 _ (hM.below (by repeat (first | (with_reducible first | exact HB.out | apply below_alloc | apply pw_below_drewN | apply below_drew1 | refine below_set ?_ GE256.out | refine below_set ?_ GE264.out) | exact HB.out))) ?side1 ?side2 A24.out).mono ?_); (case side1 => repeat (first | exact (Kd.C_below HR0.out HB.out) | (with_reducible refine Kd.C_alloc ?_ _) | (with_reducible refine Kd.C_drewN ?_ _) | (with_reducible refine Kd.C_drew ?_))); (case side2 => exact HC0.out); rintro e w43 ⟨rfl, hb⟩; refine ⟨_, rfl, ?_⟩; have n0_ := Aside0.mk (blk_below (g := gb256) (o := .cells #[.int .i64 t249, .int .i64 t250, .int .i64 t251, .int .i64 t252, .int .i64 t253, .int .i64 t254] 26 (0, 0)) (by (with_reducible repeat (first | refine blk_drewN ?_ _ | refine blk_drew ?_ | refine blk_alloc ?_ _)); exact BK256.out) hb); have n1_ := Aside0.mk (blk_below (g := gb264) (o := .cells #[.int .i64 t257, .int .i64 t258, .int .i64 t259, .int .i64 t260, .int .i64 t261, .int .i64 t262] 26 (0, 0)) (by (with_reducible repeat (first | refine blk_drewN ?_ _ | refine blk_drew ?_ | refine blk_alloc ?_ _)); exact BK264.out) hb); have n2_ := Aside0.mk (below_step (by repeat (first | (with_reducible first | exact HB.out | apply below_alloc | apply pw_below_drewN | apply below_drew1 | refine below_set ?_ GE256.out | refine below_set ?_ GE264.out) | exact HB.out)) hb); clear BK256; clear BK264; clear HB; have BK256 := n0_; have BK264 := n1_; have HB := n2_; clear n0_ n1_ n2_; (try clear hb); (try clear hb2); (try clear hk); (try clear hi)) | ((with_reducible refine gate_dst (N := 11) rfl ?_); refine box_event ?hg (N := 11) ?hd (cs := #[.int .i64 0, .int .i64 0, .int .i64 0, .int .i64 0, .int .i64 0, .int .i64 0]) (t := 26) ?hr ?_; (case hd => rfl); (case hg => rfl); (case hr => first | (go_simp; done) | (go_simp; rfl)); intro gb273 hg w44 hbox hb; have n0_ := Aside0.mk (blk_below (g := gb256) (o := .cells #[.int .i64 t249, .int .i64 t250, .int .i64 t251, .int .i64 t252, .int .i64 t253, .int .i64 t254] 26 (0, 0)) (by (with_reducible repeat (first | refine blk_drewN ?_ _ | refine blk_drew ?_ | refine blk_alloc ?_ _)); exact BK256.out) hb); have n1_ := Aside0.mk (blk_below (g := gb264) (o := .cells #[.int .i64 t257, .int .i64 t258, .int .i64 t259, .int .i64 t260, .int .i64 t261, .int .i64 t262] 26 (0, 0)) (by (with_reducible repeat (first | refine blk_drewN ?_ _ | refine blk_drew ?_ | refine blk_alloc ?_ _)); exact BK264.out) hb); have n2_ := Aside0.mk (below_step (by repeat (first | (with_reducible first | exact HB.out | apply below_alloc | apply pw_below_drewN | apply below_drew1 | refine below_set ?_ GE256.out | refine below_set ?_ GE264.out) | exact HB.out)) hb); have n3_ := Aside0.mk (hbox); have n4_ := Aside0.mk ((by rw [hg]; exact (below_size (by repeat (first | (with_reducible first | exact HB.out | apply below_alloc | apply pw_below_drewN | apply below_drew1 | refine below_set ?_ GE256.out | refine below_set ?_ GE264.out) | exact HB.out))) : w.heap.size ≤ gb273)); have n5_ := Aside0.mk ((by rw [hg]; exact (below_size (by repeat (first | (with_reducible first | exact HB.out | apply below_alloc | apply pw_below_drewN | apply below_drew1 | refine below_set ?_ GE256.out | refine below_set ?_ GE264.out) | exact HB.out))) : w.heap.size ≤ gb273)); have n6_ := Aside0.mk ((by rw [hg]; exact Nat.ne_of_lt (blk_lt (g := gb256) (o := .cells #[.int .i64 t249, .int .i64 t250, .int .i64 t251, .int .i64 t252, .int .i64 t253, .int .i64 t254] 26 (0, 0)) (by (with_reducible repeat (first | refine blk_drewN ?_ _ | refine blk_drew ?_ | refine blk_alloc ?_ _)); exact BK256.out)) : gb256 ≠ gb273)); have n7_ := Aside0.mk ((by rw [hg]; exact Nat.ne_of_gt (blk_lt (g := gb256) (o := .cells #[.int .i64 t249, .int .i64 t250, .int .i64 t251, .int .i64 t252, .int .i64 t253, .int .i64 t254] 26 (0, 0)) (by (with_reducible repeat (first | refine blk_drewN ?_ _ | refine blk_drew ?_ | refine blk_alloc ?_ _)); exact BK256.out)) : gb273 ≠ gb256)); have n8_ := Aside0.mk ((by rw [hg]; exact Nat.ne_of_lt (blk_lt (g := gb264) (o := .cells #[.int .i64 t257, .int .i64 t258, .int .i64 t259, .int .i64 t260, .int .i64 t261, .int .i64 t262] 26 (0, 0)) (by (with_reducible repeat (first | refine blk_drewN ?_ _ | refine blk_drew ?_ | refine blk_alloc ?_ _)); exact BK264.out)) : gb264 ≠ gb273)); have n9_ := Aside0.mk ((by rw [hg]; exact Nat.ne_of_gt (blk_lt (g := gb264) (o := .cells #[.int .i64 t257, .int .i64 t258, .int .i64 t259, .int .i64 t260, .int .i64 t261, .int .i64 t262] 26 (0, 0)) (by (with_reducible repeat (first | refine blk_drewN ?_ _ | refine blk_drew ?_ | refine blk_alloc ?_ _)); exact BK264.out)) : gb273 ≠ gb264)); clear BK256; clear BK264; clear HB; have BK256 := n0_; have BK264 := n1_; have HB := n2_; have BK273 := n3_; have GW273 := n4_; have GE273 := n5_; have NB256_273 := n6_; have NB273_256 := n7_; have NB264_273 := n8_; have NB273_264 := n9_; clear n0_ n1_ n2_ n3_ n4_ n5_ n6_ n7_ n8_ n9_; clear hb hbox hg; have hnb45 := NB273_256.out; have hnc45 := NB256_273.out; have hnb46 := NB273_264.out; have hnc46 := NB264_273.out; have hcz47_0 : w44.cell? ⟨gb273, 0, none⟩ = some (.int .i64 0) := (blk_cell BK273.out 0).trans rfl; have hcz47_1 : w44.cell? ⟨gb273, 1, none⟩ = some (.int .i64 0) := (blk_cell BK273.out 1).trans rfl; have hcz47_2 : w44.cell? ⟨gb273, 2, none⟩ = some (.int .i64 0) := (blk_cell BK273.out 2).trans rfl; have hcz47_3 : w44.cell? ⟨gb273, 3, none⟩ = some (.int .i64 0) := (blk_cell BK273.out 3).trans rfl; have hcz47_4 : w44.cell? ⟨gb273, 4, none⟩ = some (.int .i64 0) := (blk_cell BK273.out 4).trans rfl; have hcz47_5 : w44.cell? ⟨gb273, 5, none⟩ = some (.int .i64 0) := (blk_cell BK273.out 5).trans rfl; have hfz47_0 := blk_frozen BK273.out 0; have hfz47_1 := blk_frozen BK273.out 1; have hfz47_2 := blk_frozen BK273.out 2; have hfz47_3 := blk_frozen BK273.out 3; have hfz47_4 := blk_frozen BK273.out 4; have hfz47_5 := blk_frozen BK273.out 5; have hcz48_0 : w44.cell? ⟨gb256, 0, none⟩ = some (.int .i64 t249) := (blk_cell BK256.out 0).trans rfl; have hcz48_1 : w44.cell? ⟨gb256, 1, none⟩ = some (.int .i64 t250) := (blk_cell BK256.out 1).trans rfl; have hcz48_2 : w44.cell? ⟨gb256, 2, none⟩ = some (.int .i64 t251) := (blk_cell BK256.out 2).trans rfl; have hcz48_3 : w44.cell? ⟨gb256, 3, none⟩ = some (.int .i64 t252) := (blk_cell BK256.out 3).trans rfl; have hcz48_4 : w44.cell? ⟨gb256, 4, none⟩ = some (.int .i64 t253) := (blk_cell BK256.out 4).trans rfl; have hcz48_5 : w44.cell? ⟨gb256, 5, none⟩ = some (.int .i64 t254) := (blk_cell BK256.out 5).trans rfl; have hfz48_0 := blk_frozen BK256.out 0; have hfz48_1 := blk_frozen BK256.out 1; have hfz48_2 := blk_frozen BK256.out 2; have hfz48_3 := blk_frozen BK256.out 3; have hfz48_4 := blk_frozen BK256.out 4; have hfz48_5 := blk_frozen BK256.out 5))
             go_ret
             exact ⟨by first | rfl | (simp [errW_none, errW_some] <;> rfl) | (simp [*, errW_none, errW_some] <;> rfl), by repeat (first | (with_reducible first | exact HB.out | apply below_alloc | apply pw_below_drewN | apply below_drew1 | refine below_set ?_ GE256.out | refine below_set ?_ GE264.out | refine below_set ?_ GE273.out) | exact HB.out)⟩
            ·rw [if_neg c38] at H
             have c38b0 : (t270 == t253) = false := beq_eq_false_iff_ne.mpr c38
             have c38b1 : (t270 != t253) = true := bne_iff_ne.mpr c38
             exact absurd ((Option.some.inj H).trans hT.out) (by decide)
           ·rw [if_neg c37] at H
            have c37b0 : (t271 == (wrap64 (t254 + 1))) = false := beq_eq_false_iff_ne.mpr c37
            have c37b1 : (t271 != (wrap64 (t254 + 1))) = true := bne_iff_ne.mpr c37
            exact absurd ((Option.some.inj H).trans hT.out) (by decide)
         ·rw [if_neg c25] at H
          have c25b0 : (t272 == 0) = false := beq_eq_false_iff_ne.mpr c25
          have c25b1 : (t272 != 0) = true := bne_iff_ne.mpr c25
          obtain rfl := Option.some.inj H
          have hnb49 := NB256_264.out
          have hnc49 := NB264_256.out
          have hcz50_0 : wc.cell? ⟨gb256, 0, none⟩ = some (.int .i64 t249) := (blk_cell BK256.out 0).trans rfl
          have hcz50_1 : wc.cell? ⟨gb256, 1, none⟩ = some (.int .i64 t250) := (blk_cell BK256.out 1).trans rfl
          have hcz50_2 : wc.cell? ⟨gb256, 2, none⟩ = some (.int .i64 t251) := (blk_cell BK256.out 2).trans rfl
          have hcz50_3 : wc.cell? ⟨gb256, 3, none⟩ = some (.int .i64 t252) := (blk_cell BK256.out 3).trans rfl
          have hcz50_4 : wc.cell? ⟨gb256, 4, none⟩ = some (.int .i64 t253) := (blk_cell BK256.out 4).trans rfl
          have hcz50_5 : wc.cell? ⟨gb256, 5, none⟩ = some (.int .i64 t254) := (blk_cell BK256.out 5).trans rfl
          have hfz50_0 := blk_frozen BK256.out 0
          have hfz50_1 := blk_frozen BK256.out 1
          have hfz50_2 := blk_frozen BK256.out 2
          have hfz50_3 := blk_frozen BK256.out 3
          have hfz50_4 := blk_frozen BK256.out 4
          have hfz50_5 := blk_frozen BK256.out 5
          have hcz51_0 : wc.cell? ⟨gb264, 0, none⟩ = some (.int .i64 t257) := (blk_cell BK264.out 0).trans rfl
          have hcz51_1 : wc.cell? ⟨gb264, 1, none⟩ = some (.int .i64 t258) := (blk_cell BK264.out 1).trans rfl
          have hcz51_2 : wc.cell? ⟨gb264, 2, none⟩ = some (.int .i64 t259) := (blk_cell BK264.out 2).trans rfl
          have hcz51_3 : wc.cell? ⟨gb264, 3, none⟩ = some (.int .i64 t260) := (blk_cell BK264.out 3).trans rfl
          have hcz51_4 : wc.cell? ⟨gb264, 4, none⟩ = some (.int .i64 t261) := (blk_cell BK264.out 4).trans rfl
          have hcz51_5 : wc.cell? ⟨gb264, 5, none⟩ = some (.int .i64 t262) := (blk_cell BK264.out 5).trans rfl
          have hfz51_0 := blk_frozen BK264.out 0
          have hfz51_1 := blk_frozen BK264.out 1
          have hfz51_2 := blk_frozen BK264.out 2
          have hfz51_3 := blk_frozen BK264.out 3
          have hfz51_4 := blk_frozen BK264.out 4
          have hfz51_5 := blk_frozen BK264.out 5
          go_wp2_with (first | ((with_reducible refine gate_callee (f := 17) rfl ?_); refine goesL_ (some 43) rfl rfl Tryd.func17 (by kernel_rfl) rfl #[.agg #[.int .i64 t249, .int .i64 t250, .int .i64 t251, .int .i64 t252, .int .i64 t253, .int .i64 t254], .agg #[.int .i64 t257, .int .i64 t258, .int .i64 t259, .int .i64 t260, .int .i64 t261, .int .i64 t262]] rfl (by (try simp only [List.map_toArray, List.map_cons, List.map_nil]); first | done | rfl | (simp only [List.length_drop, List.length_take]; rfl)) ?_; (with_reducible refine (clepsydraref18_Before.calls t249 t250 t251 t252 t253 t254 t257 t258 t259 t260 t261 t262 true _ A22.out).mono ?_); rintro e w52 ⟨rfl, hb⟩; refine ⟨_, rfl, ?_⟩; have n0_ := Aside0.mk (blk_below (g := gb256) (o := .cells #[.int .i64 t249, .int .i64 t250, .int .i64 t251, .int .i64 t252, .int .i64 t253, .int .i64 t254] 26 (0, 0)) (by (with_reducible repeat (first | refine blk_drewN ?_ _ | refine blk_drew ?_ | refine blk_alloc ?_ _)); exact BK256.out) hb); have n1_ := Aside0.mk (blk_below (g := gb264) (o := .cells #[.int .i64 t257, .int .i64 t258, .int .i64 t259, .int .i64 t260, .int .i64 t261, .int .i64 t262] 26 (0, 0)) (by (with_reducible repeat (first | refine blk_drewN ?_ _ | refine blk_drew ?_ | refine blk_alloc ?_ _)); exact BK264.out) hb); have n2_ := Aside0.mk (below_step (by repeat (first | (with_reducible first | exact HB.out | apply below_alloc | apply pw_below_drewN | apply below_drew1 | refine below_set ?_ GE256.out | refine below_set ?_ GE264.out) | exact HB.out)) hb); clear BK256; clear BK264; clear HB; have BK256 := n0_; have BK264 := n1_; have HB := n2_; clear n0_ n1_ n2_; (try clear hb); (try clear hb2); (try clear hk); (try clear hi)) | ((with_reducible refine gate_callee (f := 12) rfl ?_); refine goesL_ (some 49) rfl rfl Tryd.func12 (by kernel_rfl) rfl #[.slice A0 l0.length c0, .int .i64 (wrap64 (a1 + 1))] rfl (by (try simp only [List.map_toArray, List.map_cons, List.map_nil]); first | done | rfl | (simp only [List.length_drop, List.length_take]; rfl)) ?_; (with_reducible refine (leap_ToLabel.calls kj11 _ _ l0 (wrap64 (a1 + 1)) t266 t267 t268 t269 t270 t271 t272 _ (hM.below (by repeat (first | (with_reducible first | exact HB.out | apply below_alloc | apply pw_below_drewN | apply below_drew1 | refine below_set ?_ GE256.out | refine below_set ?_ GE264.out) | exact HB.out))) ?side1 ?side2 A24.out).mono ?_); (case side1 => repeat (first | exact (Kd.C_below HR0.out HB.out) | (with_reducible refine Kd.C_alloc ?_ _) | (with_reducible refine Kd.C_drewN ?_ _) | (with_reducible refine Kd.C_drew ?_))); (case side2 => exact HC0.out); rintro e w53 ⟨rfl, hb⟩; refine ⟨_, rfl, ?_⟩; have n0_ := Aside0.mk (blk_below (g := gb256) (o := .cells #[.int .i64 t249, .int .i64 t250, .int .i64 t251, .int .i64 t252, .int .i64 t253, .int .i64 t254] 26 (0, 0)) (by (with_reducible repeat (first | refine blk_drewN ?_ _ | refine blk_drew ?_ | refine blk_alloc ?_ _)); exact BK256.out) hb); have n1_ := Aside0.mk (blk_below (g := gb264) (o := .cells #[.int .i64 t257, .int .i64 t258, .int .i64 t259, .int .i64 t260, .int .i64 t261, .int .i64 t262] 26 (0, 0)) (by (with_reducible repeat (first | refine blk_drewN ?_ _ | refine blk_drew ?_ | refine blk_alloc ?_ _)); exact BK264.out) hb); have n2_ := Aside0.mk (below_step (by repeat (first | (with_reducible first | exact HB.out | apply below_alloc | apply pw_below_drewN | apply below_drew1 | refine below_set ?_ GE256.out | refine below_set ?_ GE264.out) | exact HB.out)) hb); clear BK256; clear BK264; clear HB; have BK256 := n0_; have BK264 := n1_; have HB := n2_; clear n0_ n1_ n2_; (try clear hb); (try clear hb2); (try clear hk); (try clear hi)) | ((with_reducible refine gate_dst (N := 11) rfl ?_); refine box_event ?hg (N := 11) ?hd (cs := #[.int .i64 0, .int .i64 0, .int .i64 0, .int .i64 0, .int .i64 0, .int .i64 0]) (t := 26) ?hr ?_; (case hd => rfl); (case hg => rfl); (case hr => first | (go_simp; done) | (go_simp; rfl)); intro gb273 hg w54 hbox hb; have n0_ := Aside0.mk (blk_below (g := gb256) (o := .cells #[.int .i64 t249, .int .i64 t250, .int .i64 t251, .int .i64 t252, .int .i64 t253, .int .i64 t254] 26 (0, 0)) (by (with_reducible repeat (first | refine blk_drewN ?_ _ | refine blk_drew ?_ | refine blk_alloc ?_ _)); exact BK256.out) hb); have n1_ := Aside0.mk (blk_below (g := gb264) (o := .cells #[.int .i64 t257, .int .i64 t258, .int .i64 t259, .int .i64 t260, .int .i64 t261, .int .i64 t262] 26 (0, 0)) (by (with_reducible repeat (first | refine blk_drewN ?_ _ | refine blk_drew ?_ | refine blk_alloc ?_ _)); exact BK264.out) hb); have n2_ := Aside0.mk (below_step (by repeat (first | (with_reducible first | exact HB.out | apply below_alloc | apply pw_below_drewN | apply below_drew1 | refine below_set ?_ GE256.out | refine below_set ?_ GE264.out) | exact HB.out)) hb); have n3_ := Aside0.mk (hbox); have n4_ := Aside0.mk ((by rw [hg]; exact (below_size (by repeat (first | (with_reducible first | exact HB.out | apply below_alloc | apply pw_below_drewN | apply below_drew1 | refine below_set ?_ GE256.out | refine below_set ?_ GE264.out) | exact HB.out))) : w.heap.size ≤ gb273)); have n5_ := Aside0.mk ((by rw [hg]; exact (below_size (by repeat (first | (with_reducible first | exact HB.out | apply below_alloc | apply pw_below_drewN | apply below_drew1 | refine below_set ?_ GE256.out | refine below_set ?_ GE264.out) | exact HB.out))) : w.heap.size ≤ gb273)); have n6_ := Aside0.mk ((by rw [hg]; exact Nat.ne_of_lt (blk_lt (g := gb256) (o := .cells #[.int .i64 t249, .int .i64 t250, .int .i64 t251, .int .i64 t252, .int .i64 t253, .int .i64 t254] 26 (0, 0)) (by (with_reducible repeat (first | refine blk_drewN ?_ _ | refine blk_drew ?_ | refine blk_alloc ?_ _)); exact BK256.out)) : gb256 ≠ gb273)); have n7_ := Aside0.mk ((by rw [hg]; exact Nat.ne_of_gt (blk_lt (g := gb256) (o := .cells #[.int .i64 t249, .int .i64 t250, .int .i64 t251, .int .i64 t252, .int .i64 t253, .int .i64 t254] 26 (0, 0)) (by (with_reducible repeat (first | refine blk_drewN ?_ _ | refine blk_drew ?_ | refine blk_alloc ?_ _)); exact BK256.out)) : gb273 ≠ gb256)); have n8_ := Aside0.mk ((by rw [hg]; exact Nat.ne_of_lt (blk_lt (g := gb264) (o := .cells #[.int .i64 t257, .int .i64 t258, .int .i64 t259, .int .i64 t260, .int .i64 t261, .int .i64 t262] 26 (0, 0)) (by (with_reducible repeat (first | refine blk_drewN ?_ _ | refine blk_drew ?_ | refine blk_alloc ?_ _)); exact BK264.out)) : gb264 ≠ gb273)); have n9_ := Aside0.mk ((by rw [hg]; exact Nat.ne_of_gt (blk_lt (g := gb264) (o := .cells #[.int .i64 t257, .int .i64 t258, .int .i64 t259, .int .i64 t260, .int .i64 t261, .int .i64 t262] 26 (0, 0)) (by (with_reducible repeat (first | refine blk_drewN ?_ _ | refine blk_drew ?_ | refine blk_alloc ?_ _)); exact BK264.out)) : gb273 ≠ gb264)); clear BK256; clear BK264; clear HB; have BK256 := n0_; have BK264 := n1_; have HB := n2_; have BK273 := n3_; have GW273 := n4_; have GE273 := n5_; have NB256_273 := n6_; have NB273_256 := n7_; have NB264_273 := n8_; have NB273_264 := n9_; clear n0_ n1_ n2_ n3_ n4_ n5_ n6_ n7_ n8_ n9_; clear hb hbox hg; have hnb55 := NB273_256.out; have hnc55 := NB256_273.out; have hnb56 := NB273_264.out; have hnc56 := NB264_273.out; have hcz57_0 : w54.cell? ⟨gb273, 0, none⟩ = some (.int .i64 0) := (blk_cell BK273.out 0).trans rfl; have hcz57_1 : w54.cell? ⟨gb273, 1, none⟩ = some (.int .i64 0) := (blk_cell BK273.out 1).trans rfl; have hcz57_2 : w54.cell? ⟨gb273, 2, none⟩ = some (.int .i64 0) := (blk_cell BK273.out 2).trans rfl; have hcz57_3 : w54.cell? ⟨gb273, 3, none⟩ = some (.int .i64 0) := (blk_cell BK273.out 3).trans rfl; have hcz57_4 : w54.cell? ⟨gb273, 4, none⟩ = some (.int .i64 0) := (blk_cell BK273.out 4).trans rfl; have hcz57_5 : w54.cell? ⟨gb273, 5, none⟩ = some (.int .i64 0) := (blk_cell BK273.out 5).trans rfl; have hfz57_0 := blk_frozen BK273.out 0; have hfz57_1 := blk_frozen BK273.out 1; have hfz57_2 := blk_frozen BK273.out 2; have hfz57_3 := blk_frozen BK273.out 3; have hfz57_4 := blk_frozen BK273.out 4; have hfz57_5 := blk_frozen BK273.out 5))
          go_ret
          exact ⟨by first | rfl | (simp [errW_none, errW_some] <;> rfl) | (simp [*, errW_none, errW_some] <;> rfl), by repeat (first | (with_reducible first | exact HB.out | apply below_alloc | apply pw_below_drewN | apply below_drew1 | refine below_set ?_ GE256.out | refine below_set ?_ GE264.out | refine below_set ?_ GE273.out) | exact HB.out)⟩
        ·replace c23 := Bool.eq_false_iff.mpr c23
         subst c23
         have H1 : (some false) = some r := by rw [if_neg (show ¬ (false = true) by decide)] at H; exact H
         clear H
         have H := H1
         clear H1
         exact absurd ((Option.some.inj H).trans hT.out) (by decide)
 ·replace c5 := Bool.eq_false_iff.mpr c5
  subst c5
  have H1 : (some false) = some r := by rw [if_neg (show ¬ (false = true) by decide)] at H; exact H
  clear H
  have H := H1
  clear H1
  exact absurd ((Option.some.inj H).trans hT.out) (by decide)

end Go.Proofs.YtaibmobjpheaiaaDoor.Q
