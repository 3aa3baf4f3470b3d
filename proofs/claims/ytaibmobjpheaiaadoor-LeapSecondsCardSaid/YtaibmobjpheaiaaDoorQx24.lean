/- The calls of these Go functions answer what the Lean functions beside them answer; written by a program (wip/pr2.py, out of the print of the loaded program); under no condition but those that stand in the theorems. -/
import Derived.Test.YtaibmobjpheaiaaDoorQx0
import Derived.Test.YtaibmobjpheaiaaDoorQx8
import Derived.Test.YtaibmobjpheaiaaDoorQx10
import Derived.Test.YtaibmobjpheaiaaDoorQx11
import Derived.Test.YtaibmobjpheaiaaDoorQx13
namespace Go.Proofs.YtaibmobjpheaiaaDoor.Q
open Go.RowKit Go.Proofs.YtaibmobjpheaiaaDoorW.PrintWords Go.Proofs.YtaibmobjpheaiaaDoorW.PrintLast Go.Proofs.YtaibmobjpheaiaaDoorW.PrintMore
attribute [local go_sem] max2_int min2_int max_two min_two max_three min_three max_four min_four   -- for this text's walks alone
set_option linter.unusedVariables false
set_option linter.unusedSimpArgs false

/-! ### clepsydralaw18_LeapSeconds: function 7 -/
mutual
def clepsydralaw18_LeapSeconds.j0 : Nat → List (S40) → Int → Bool → Option (Bool)
 | 0, _, _, _ => none
 | k + 1, x0, x1, x43 => if x43 = true then (some true) else (if 0 ≤ x1 then (if x1 < (x0.length : Int) then ((clepsydraref18_Offset.f k x0 (wrap64 (((rd_T40 x0 x1).f0) - 1))).bind fun t279 => ((leap_ToLabel.f k x0 (wrap64 (((rd_T40 x0 x1).f0) - 2))).bind fun bt280 => ((leap_ToLabel.f k x0 (wrap64 (((rd_T40 x0 x1).f0) - 1))).bind fun bt288 => ((leap_ToLabel.f k x0 ((rd_T40 x0 x1).f0)).bind fun bt296 => (if bt280.2.2.2.2.2.2 = 0 then (if bt288.2.2.2.2.2.2 = 0 then (if bt296.2.2.2.2.2.2 = 0 then (if bt296.2.2.2.1 = 0 then (if bt296.2.2.2.2.1 = 0 then (if bt296.2.2.2.2.2.1 = 0 then (if bt288.2.2.2.1 = 23 then (if bt288.2.2.2.2.1 = 59 then (if bt280.2.2.2.2.1 = 59 then (clepsydralaw18_LeapSeconds.j1 k x0 t279 (bt280.2.2.1 != bt288.2.2.1) ((rd_T40 x0 x1).f0) ((rd_T40 x0 x1).f1) bt280.1 bt280.2.1 bt280.2.2.1 bt280.2.2.2.1 bt280.2.2.2.2.1 bt280.2.2.2.2.2.1 bt288.1 bt288.2.1 bt288.2.2.1 bt288.2.2.2.1 bt288.2.2.2.2.1 bt288.2.2.2.2.2.1) else (clepsydralaw18_LeapSeconds.j1 k x0 t279 true ((rd_T40 x0 x1).f0) ((rd_T40 x0 x1).f1) bt280.1 bt280.2.1 bt280.2.2.1 bt280.2.2.2.1 bt280.2.2.2.2.1 bt280.2.2.2.2.2.1 bt288.1 bt288.2.1 bt288.2.2.1 bt288.2.2.2.1 bt288.2.2.2.2.1 bt288.2.2.2.2.2.1)) else (clepsydralaw18_LeapSeconds.j1 k x0 t279 true ((rd_T40 x0 x1).f0) ((rd_T40 x0 x1).f1) bt280.1 bt280.2.1 bt280.2.2.1 bt280.2.2.2.1 bt280.2.2.2.2.1 bt280.2.2.2.2.2.1 bt288.1 bt288.2.1 bt288.2.2.1 bt288.2.2.2.1 bt288.2.2.2.2.1 bt288.2.2.2.2.2.1)) else (clepsydralaw18_LeapSeconds.j1 k x0 t279 true ((rd_T40 x0 x1).f0) ((rd_T40 x0 x1).f1) bt280.1 bt280.2.1 bt280.2.2.1 bt280.2.2.2.1 bt280.2.2.2.2.1 bt280.2.2.2.2.2.1 bt288.1 bt288.2.1 bt288.2.2.1 bt288.2.2.2.1 bt288.2.2.2.2.1 bt288.2.2.2.2.2.1)) else (clepsydralaw18_LeapSeconds.j1 k x0 t279 true ((rd_T40 x0 x1).f0) ((rd_T40 x0 x1).f1) bt280.1 bt280.2.1 bt280.2.2.1 bt280.2.2.2.1 bt280.2.2.2.2.1 bt280.2.2.2.2.2.1 bt288.1 bt288.2.1 bt288.2.2.1 bt288.2.2.2.1 bt288.2.2.2.2.1 bt288.2.2.2.2.2.1)) else (clepsydralaw18_LeapSeconds.j1 k x0 t279 true ((rd_T40 x0 x1).f0) ((rd_T40 x0 x1).f1) bt280.1 bt280.2.1 bt280.2.2.1 bt280.2.2.2.1 bt280.2.2.2.2.1 bt280.2.2.2.2.2.1 bt288.1 bt288.2.1 bt288.2.2.1 bt288.2.2.2.1 bt288.2.2.2.2.1 bt288.2.2.2.2.2.1)) else (clepsydralaw18_LeapSeconds.j1 k x0 t279 true ((rd_T40 x0 x1).f0) ((rd_T40 x0 x1).f1) bt280.1 bt280.2.1 bt280.2.2.1 bt280.2.2.2.1 bt280.2.2.2.2.1 bt280.2.2.2.2.2.1 bt288.1 bt288.2.1 bt288.2.2.1 bt288.2.2.2.1 bt288.2.2.2.2.1 bt288.2.2.2.2.2.1)) else (clepsydralaw18_LeapSeconds.j1 k x0 t279 true ((rd_T40 x0 x1).f0) ((rd_T40 x0 x1).f1) bt280.1 bt280.2.1 bt280.2.2.1 bt280.2.2.2.1 bt280.2.2.2.2.1 bt280.2.2.2.2.2.1 bt288.1 bt288.2.1 bt288.2.2.1 bt288.2.2.2.1 bt288.2.2.2.2.1 bt288.2.2.2.2.2.1)) else (clepsydralaw18_LeapSeconds.j1 k x0 t279 true ((rd_T40 x0 x1).f0) ((rd_T40 x0 x1).f1) bt280.1 bt280.2.1 bt280.2.2.1 bt280.2.2.2.1 bt280.2.2.2.2.1 bt280.2.2.2.2.2.1 bt288.1 bt288.2.1 bt288.2.2.1 bt288.2.2.2.1 bt288.2.2.2.2.1 bt288.2.2.2.2.2.1)) else (clepsydralaw18_LeapSeconds.j1 k x0 t279 true ((rd_T40 x0 x1).f0) ((rd_T40 x0 x1).f1) bt280.1 bt280.2.1 bt280.2.2.1 bt280.2.2.2.1 bt280.2.2.2.2.1 bt280.2.2.2.2.2.1 bt288.1 bt288.2.1 bt288.2.2.1 bt288.2.2.2.1 bt288.2.2.2.2.1 bt288.2.2.2.2.2.1)))))) else (none)) else (none))
def clepsydralaw18_LeapSeconds.j1 : Nat → List (S40) → Int → Bool → Int → Int → Int → Int → Int → Int → Int → Int → Int → Int → Int → Int → Int → Int → Option (Bool)
 | 0, _, _, _, _, _, _, _, _, _, _, _, _, _, _, _, _, _ => none
 | k + 1, x0, x6, x122, x279000, x279001, x288000, x288001, x288002, x288003, x288004, x288005, x296000, x296001, x296002, x296003, x296004, x296005 => if x122 = true then (some false) else (if x279001 > x6 then (if x288005 = 59 then (some (x296005 == 60)) else (some false)) else ((leap_ToCount.f k x0 x296000 x296001 x296002 x296003 x296004 59).bind fun bt305 => (if x288005 = 57 then (if x296005 = 58 then (some (bt305.2 == 30)) else (some false)) else (some false))))
end
def clepsydralaw18_LeapSeconds.f (k : Nat) (l0 : List (S40)) (a1 : Int) : Option (Bool) := (clepsydralaw18_alive.f k).bind fun t274 => (if t274 = true then (if (l0.length : Int) > 256 then (clepsydralaw18_LeapSeconds.j0 k l0 a1 true) else ((clepsydraref18_Good.f k l0).bind fun t275 => (if t275 = true then (if a1 < 0 then (clepsydralaw18_LeapSeconds.j0 k l0 a1 true) else (if a1 ≥ (l0.length : Int) then (clepsydralaw18_LeapSeconds.j0 k l0 a1 true) else (if 0 ≤ a1 then (if a1 < (l0.length : Int) then (clepsydralaw18_LeapSeconds.j0 k l0 a1 (decide (((rd_T40 l0 a1).f0) < 5))) else (none)) else (none)))) else (clepsydralaw18_LeapSeconds.j0 k l0 a1 true)))) else (some false))
theorem clepsydralaw18_LeapSeconds.mono_l : ∀ k, (∀ y0 y1 y2, LeO (clepsydralaw18_LeapSeconds.j0 k y0 y1 y2) (clepsydralaw18_LeapSeconds.j0 (k + 1) y0 y1 y2)) ∧ (∀ y0 y1 y2 y3 y4 y5 y6 y7 y8 y9 y10 y11 y12 y13 y14 y15 y16, LeO (clepsydralaw18_LeapSeconds.j1 k y0 y1 y2 y3 y4 y5 y6 y7 y8 y9 y10 y11 y12 y13 y14 y15 y16) (clepsydralaw18_LeapSeconds.j1 (k + 1) y0 y1 y2 y3 y4 y5 y6 y7 y8 y9 y10 y11 y12 y13 y14 y15 y16))
 | 0 => ⟨fun _ _ _ r h => by simp [clepsydralaw18_LeapSeconds.j0] at h, fun _ _ _ _ _ _ _ _ _ _ _ _ _ _ _ _ _ r h => by simp [clepsydralaw18_LeapSeconds.j1] at h⟩
 | k + 1 => by
  obtain ⟨ih0, ih1⟩ := clepsydralaw18_LeapSeconds.mono_l k
  refine ⟨?_, ?_⟩
  ·intro y0 y1 y2
   unfold clepsydralaw18_LeapSeconds.j0
   repeat' first
   | (with_reducible exact ih0 _ _ _)
   | (with_reducible exact ih1 _ _ _ _ _ _ _ _ _ _ _ _ _ _ _ _ _)
   | (with_reducible exact clepsydralaw18_alive.mono _)
   | (with_reducible exact clepsydraref18_Good.mono _ _)
   | (with_reducible exact clepsydraref18_Offset.mono _ _ _)
   | (with_reducible exact leap_ToCount.mono _ _ _ _ _ _ _ _)
   | (with_reducible exact leap_ToLabel.mono _ _ _)
   | (with_reducible exact LeO.refl _)
   | (with_reducible exact LeO.none _)
   | (with_reducible refine LeO.ite ?_ ?_)
   | (with_reducible refine LeO.bind ?_ (fun _ => ?_))
   | exact ih0 _ _ _
   | exact ih1 _ _ _ _ _ _ _ _ _ _ _ _ _ _ _ _ _
   | exact clepsydralaw18_alive.mono _
   | exact clepsydraref18_Good.mono _ _
   | exact clepsydraref18_Offset.mono _ _ _
   | exact leap_ToCount.mono _ _ _ _ _ _ _ _
   | exact leap_ToLabel.mono _ _ _
   | exact LeO.none _
   | refine LeO.ite ?_ ?_
   | refine LeO.bind ?_ (fun _ => ?_)
  ·intro y0 y1 y2 y3 y4 y5 y6 y7 y8 y9 y10 y11 y12 y13 y14 y15 y16
   unfold clepsydralaw18_LeapSeconds.j1
   repeat' first
   | (with_reducible exact ih0 _ _ _)
   | (with_reducible exact ih1 _ _ _ _ _ _ _ _ _ _ _ _ _ _ _ _ _)
   | (with_reducible exact clepsydralaw18_alive.mono _)
   | (with_reducible exact clepsydraref18_Good.mono _ _)
   | (with_reducible exact clepsydraref18_Offset.mono _ _ _)
   | (with_reducible exact leap_ToCount.mono _ _ _ _ _ _ _ _)
   | (with_reducible exact leap_ToLabel.mono _ _ _)
   | (with_reducible exact LeO.refl _)
   | (with_reducible exact LeO.none _)
   | (with_reducible refine LeO.ite ?_ ?_)
   | (with_reducible refine LeO.bind ?_ (fun _ => ?_))
   | exact ih0 _ _ _
   | exact ih1 _ _ _ _ _ _ _ _ _ _ _ _ _ _ _ _ _
   | exact clepsydralaw18_alive.mono _
   | exact clepsydraref18_Good.mono _ _
   | exact clepsydraref18_Offset.mono _ _ _
   | exact leap_ToCount.mono _ _ _ _ _ _ _ _
   | exact leap_ToLabel.mono _ _ _
   | exact LeO.none _
   | refine LeO.ite ?_ ?_
   | refine LeO.bind ?_ (fun _ => ?_)
theorem clepsydralaw18_LeapSeconds.mono : ∀ a0 a1 k, LeO (clepsydralaw18_LeapSeconds.f k a0 a1) (clepsydralaw18_LeapSeconds.f (k + 1) a0 a1) := by
 intro a0 a1 k
 obtain ⟨ih0, ih1⟩ := clepsydralaw18_LeapSeconds.mono_l k
 unfold clepsydralaw18_LeapSeconds.f
 repeat' first
   | (with_reducible exact ih0 _ _ _)
   | (with_reducible exact ih1 _ _ _ _ _ _ _ _ _ _ _ _ _ _ _ _ _)
   | (with_reducible exact clepsydralaw18_alive.mono _)
   | (with_reducible exact clepsydraref18_Good.mono _ _)
   | (with_reducible exact clepsydraref18_Offset.mono _ _ _)
   | (with_reducible exact leap_ToCount.mono _ _ _ _ _ _ _ _)
   | (with_reducible exact leap_ToLabel.mono _ _ _)
   | (with_reducible exact LeO.refl _)
   | (with_reducible exact LeO.none _)
   | (with_reducible refine LeO.ite ?_ ?_)
   | (with_reducible refine LeO.bind ?_ (fun _ => ?_))
   | exact ih0 _ _ _
   | exact ih1 _ _ _ _ _ _ _ _ _ _ _ _ _ _ _ _ _
   | exact clepsydralaw18_alive.mono _
   | exact clepsydraref18_Good.mono _ _
   | exact clepsydraref18_Offset.mono _ _ _
   | exact leap_ToCount.mono _ _ _ _ _ _ _ _
   | exact leap_ToLabel.mono _ _ _
   | exact LeO.none _
   | refine LeO.ite ?_ ?_
   | refine LeO.bind ?_ (fun _ => ?_)
set_option maxHeartbeats 40000000 in
set_option maxRecDepth 100000 in
theorem clepsydralaw18_LeapSeconds.calls (k : Nat) (A0 : Option Addr) (c0 : Nat) (l0 : List (S40)) (a1 : Int) (r : Bool) (w : World) (hM : GM w) (hr0 : Kd.C k40 w A0 l0.length l0) (hc0 : l0.length ≤ c0) (hT : Aside0 (r = true)) (h : clepsydralaw18_LeapSeconds.f k l0 a1 = some r) :
  Calls Tryd.prog 7 #[.slice A0 l0.length c0, .int .i64 a1] w fun e w' => e = .returned (.bool r) ∧ Below w.heap.size w w' := by
 have hu40 := Tryd.underlying40
 have hu26 := Tryd.underlying26
 have HR0 := Aside0.mk hr0
 have HC0 := Aside0.mk hc0
 clear hr0 hc0
 have HB := Aside0.mk (Below.refl w.heap.size w)
 have H : ((clepsydralaw18_alive.f k).bind fun t274 => (if t274 = true then (if (l0.length : Int) > 256 then (clepsydralaw18_LeapSeconds.j0 k l0 a1 true) else ((clepsydraref18_Good.f k l0).bind fun t275 => (if t275 = true then (if a1 < 0 then (clepsydralaw18_LeapSeconds.j0 k l0 a1 true) else (if a1 ≥ (l0.length : Int) then (clepsydralaw18_LeapSeconds.j0 k l0 a1 true) else (if 0 ≤ a1 then (if a1 < (l0.length : Int) then (clepsydralaw18_LeapSeconds.j0 k l0 a1 (decide (((rd_T40 l0 a1).f0) < 5))) else (none)) else (none)))) else (clepsydralaw18_LeapSeconds.j0 k l0 a1 true)))) else (some false))) = some r := h
 clear h
 replace H := Option.bind_eq_some_iff.mp H
 obtain ⟨t274, A30, H⟩ := H
 replace H : (if t274 = true then (if (l0.length : Int) > 256 then (clepsydralaw18_LeapSeconds.j0 k l0 a1 true) else ((clepsydraref18_Good.f k l0).bind fun t275 => (if t275 = true then (if a1 < 0 then (clepsydralaw18_LeapSeconds.j0 k l0 a1 true) else (if a1 ≥ (l0.length : Int) then (clepsydralaw18_LeapSeconds.j0 k l0 a1 true) else (if 0 ≤ a1 then (if a1 < (l0.length : Int) then (clepsydralaw18_LeapSeconds.j0 k l0 a1 (decide (((rd_T40 l0 a1).f0) < 5))) else (none)) else (none)))) else (clepsydralaw18_LeapSeconds.j0 k l0 a1 true)))) else (some false)) = some r := H
 have A3 := Aside0.mk A30
 clear A30
 by_cases c4 : t274 = true
 ·subst c4
  have H1 : (if (l0.length : Int) > 256 then (clepsydralaw18_LeapSeconds.j0 k l0 a1 true) else ((clepsydraref18_Good.f k l0).bind fun t275 => (if t275 = true then (if a1 < 0 then (clepsydralaw18_LeapSeconds.j0 k l0 a1 true) else (if a1 ≥ (l0.length : Int) then (clepsydralaw18_LeapSeconds.j0 k l0 a1 true) else (if 0 ≤ a1 then (if a1 < (l0.length : Int) then (clepsydralaw18_LeapSeconds.j0 k l0 a1 (decide (((rd_T40 l0 a1).f0) < 5))) else (none)) else (none)))) else (clepsydralaw18_LeapSeconds.j0 k l0 a1 true)))) = some r := by rw [if_pos rfl] at H; exact H
  clear H
  have H := H1
  clear H1
  have HC5 := Aside0.mk H
  clear H
  go_enter Tryd.func7, Tryd.ntmps7
  go_upto_region 3 with (first | ((with_reducible refine gate_callee (f := 10) rfl ?_); refine goesL_ (some 16) rfl rfl Tryd.func10 (by kernel_rfl) rfl #[] rfl (by (try simp only [List.map_toArray, List.map_cons, List.map_nil]); first | done | rfl | (simp only [List.length_drop, List.length_take]; rfl)) ?_; (with_reducible refine (clepsydralaw18_alive.calls k  true _ (by first | exact hM | exact hM.below HB.out | repeat (first | exact hM | exact hM.below HB.out | apply GM.drewN | apply GM.drew)) A3.out).mono ?_); rintro e w6 ⟨rfl, hb⟩; refine ⟨_, rfl, ?_⟩; have n0_ := Aside0.mk (below_step (by repeat (first | (with_reducible first | exact HB.out | apply below_alloc | apply pw_below_drewN | apply below_drew1) | exact HB.out)) hb); clear HB; have HB := n0_; clear n0_; (try clear hb); (try clear hb2); (try clear hk); (try clear hi)))
  (try simp only [Act.put, List.setIfInBounds_toArray, List.set_cons_zero, List.set_cons_succ])
  go_cut [43] (fun v43 wc => ∃ (kq : Nat) (x43_4 : Bool), v43 = .bool x43_4 ∧ Aside0 (clepsydralaw18_LeapSeconds.j0 kq l0 a1 x43_4 = some r) ∧ Aside0 (kq ≤ k) ∧ Aside0 (Below w.heap.size w wc))
  case first =>
   have H := HC5.out
   clear HC5
   by_cases c7 : (l0.length : Int) > 256
   ·rw [if_pos c7] at H
    have c7b0 : decide (256 < (l0.length : Int)) = true := decide_eq_true c7
    have c7b1 : decide (256 < l0.length) = true := decide_eq_true (by omega)
    clear c7
    (first | rw [c7b0] | (simp only [i64_w, i32_w]; rw [c7b0]) | skip)
    have H' := Aside0.mk H
    clear H
    go_wp2
    go_meet
    case rel => exact ⟨_, (true), (by first | rfl | (simp; done) | (simp [*]; done) | (simp [Int.tdiv_eq_ediv_of_nonneg]; done) | (simp [Go.RowKit.wrap64]; done) | (simp [*, Go.RowKit.wrap64]; done)), H', ⟨by first | omega | exact Nat.le_refl _⟩, ⟨by repeat (first | (with_reducible first | exact HB.out | apply below_alloc | apply pw_below_drewN | apply below_drew1) | exact HB.out)⟩⟩
   ·rw [if_neg c7] at H
    have c7b0 : decide (256 < (l0.length : Int)) = false := decide_eq_false c7
    have c7b1 : decide (256 < l0.length) = false := decide_eq_false (by omega)
    clear c7
    (first | rw [c7b0] | (simp only [i64_w, i32_w]; rw [c7b0]) | skip)
    replace H := Option.bind_eq_some_iff.mp H
    obtain ⟨t275, A80, H⟩ := H
    replace H : (if t275 = true then (if a1 < 0 then (clepsydralaw18_LeapSeconds.j0 k l0 a1 true) else (if a1 ≥ (l0.length : Int) then (clepsydralaw18_LeapSeconds.j0 k l0 a1 true) else (if 0 ≤ a1 then (if a1 < (l0.length : Int) then (clepsydralaw18_LeapSeconds.j0 k l0 a1 (decide (((rd_T40 l0 a1).f0) < 5))) else (none)) else (none)))) else (clepsydralaw18_LeapSeconds.j0 k l0 a1 true)) = some r := H
    have A8 := Aside0.mk A80
    clear A80
    by_cases c9 : t275 = true
    ·subst c9
     have H1 : (if a1 < 0 then (clepsydralaw18_LeapSeconds.j0 k l0 a1 true) else (if a1 ≥ (l0.length : Int) then (clepsydralaw18_LeapSeconds.j0 k l0 a1 true) else (if 0 ≤ a1 then (if a1 < (l0.length : Int) then (clepsydralaw18_LeapSeconds.j0 k l0 a1 (decide (((rd_T40 l0 a1).f0) < 5))) else (none)) else (none)))) = some r := by rw [if_pos rfl] at H; exact H
     clear H
     have H := H1
     clear H1
     by_cases c10 : a1 < 0
     ·rw [if_pos c10] at H
      have c10b0 : decide (a1 < 0) = true := decide_eq_true c10
      clear c10
      have H' := Aside0.mk H
      clear H
      go_wp2_with (first | (go_at_call 11; (with_reducible refine (clepsydraref18_Good.calls k _ _ l0 true _ ?side1 ?side2 A8.out).mono ?_); (case side1 => repeat (first | exact (Kd.C_below HR0.out HB.out) | (with_reducible refine Kd.C_alloc ?_ _) | (with_reducible refine Kd.C_drewN ?_ _) | (with_reducible refine Kd.C_drew ?_))); (case side2 => exact HC0.out); rintro e w11 ⟨rfl, hb⟩; have n0_ := Aside0.mk (below_step (by repeat (first | (with_reducible first | exact HB.out | apply below_alloc | apply pw_below_drewN | apply below_drew1) | exact HB.out)) hb); clear HB; have HB := n0_; clear n0_; (try clear hb); (try clear hb2); (try clear hk); (try clear hi)))
      go_meet
      case rel => exact ⟨_, (true), (by first | rfl | (simp; done) | (simp [*]; done) | (simp [Int.tdiv_eq_ediv_of_nonneg]; done) | (simp [Go.RowKit.wrap64]; done) | (simp [*, Go.RowKit.wrap64]; done)), H', ⟨by first | omega | exact Nat.le_refl _⟩, ⟨by repeat (first | (with_reducible first | exact HB.out | apply below_alloc | apply pw_below_drewN | apply below_drew1) | exact HB.out)⟩⟩
     ·rw [if_neg c10] at H
      have c10b0 : decide (a1 < 0) = false := decide_eq_false c10
      clear c10
      by_cases c12 : a1 ≥ (l0.length : Int)
      ·rw [if_pos c12] at H
       have c12b0 : decide ((l0.length : Int) ≤ a1) = true := decide_eq_true c12
       clear c12
       have H' := Aside0.mk H
       clear H
       go_wp2_with (first | (go_at_call 11; (with_reducible refine (clepsydraref18_Good.calls k _ _ l0 true _ ?side1 ?side2 A8.out).mono ?_); (case side1 => repeat (first | exact (Kd.C_below HR0.out HB.out) | (with_reducible refine Kd.C_alloc ?_ _) | (with_reducible refine Kd.C_drewN ?_ _) | (with_reducible refine Kd.C_drew ?_))); (case side2 => exact HC0.out); rintro e w13 ⟨rfl, hb⟩; have n0_ := Aside0.mk (below_step (by repeat (first | (with_reducible first | exact HB.out | apply below_alloc | apply pw_below_drewN | apply below_drew1) | exact HB.out)) hb); clear HB; have HB := n0_; clear n0_; (try clear hb); (try clear hb2); (try clear hk); (try clear hi)))
       go_meet
       case rel => exact ⟨_, (true), (by first | rfl | (simp; done) | (simp [*]; done) | (simp [Int.tdiv_eq_ediv_of_nonneg]; done) | (simp [Go.RowKit.wrap64]; done) | (simp [*, Go.RowKit.wrap64]; done)), H', ⟨by first | omega | exact Nat.le_refl _⟩, ⟨by repeat (first | (with_reducible first | exact HB.out | apply below_alloc | apply pw_below_drewN | apply below_drew1) | exact HB.out)⟩⟩
      ·rw [if_neg c12] at H
       have c12b0 : decide ((l0.length : Int) ≤ a1) = false := decide_eq_false c12
       clear c12
       by_cases c14 : 0 ≤ a1
       ·rw [if_pos c14] at H
        have c14b0 : decide (0 ≤ a1) = true := decide_eq_true c14
        clear c14
        by_cases c15 : a1 < (l0.length : Int)
        ·rw [if_pos c15] at H
         have c15b0 : decide (a1 < (l0.length : Int)) = true := decide_eq_true c15
         clear c15
         have H' := Aside0.mk H
         clear H
         go_wp2_with (first | (go_at_call 11; (with_reducible refine (clepsydraref18_Good.calls k _ _ l0 true _ ?side1 ?side2 A8.out).mono ?_); (case side1 => repeat (first | exact (Kd.C_below HR0.out HB.out) | (with_reducible refine Kd.C_alloc ?_ _) | (with_reducible refine Kd.C_drewN ?_ _) | (with_reducible refine Kd.C_drew ?_))); (case side2 => exact HC0.out); rintro e w16 ⟨rfl, hb⟩; have n0_ := Aside0.mk (below_step (by repeat (first | (with_reducible first | exact HB.out | apply below_alloc | apply pw_below_drewN | apply below_drew1) | exact HB.out)) hb); clear HB; have HB := n0_; clear n0_; (try clear hb); (try clear hb2); (try clear hk); (try clear hi); have p276 : 0 ≤ (a1 : Int) := of_decide_eq_true (by first | (with_reducible assumption) | assumption); have q276 : a1 < (l0.length : Int) := of_decide_eq_true (by first | (with_reducible assumption) | assumption); obtain ⟨ad276, e276, hx276_0, hx276_1⟩ := at_T40 HR0.out a1 p276 q276; cases e276; replace hx276_0 := (HB.out.cell (World.block_lt_of_cell? w _ hx276_0)).trans hx276_0; replace hx276_1 := (HB.out.cell (World.block_lt_of_cell? w _ hx276_1)).trans hx276_1; replace p276 := eq_true p276; replace q276 := eq_true q276))
         go_meet
         case rel => exact ⟨_, (decide (((rd_T40 l0 a1).f0) < 5)), (by first | rfl | (simp; done) | (simp [*]; done) | (simp [Int.tdiv_eq_ediv_of_nonneg]; done) | (simp [Go.RowKit.wrap64]; done) | (simp [*, Go.RowKit.wrap64]; done)), H', ⟨by first | omega | exact Nat.le_refl _⟩, ⟨by repeat (first | (with_reducible first | exact HB.out | apply below_alloc | apply pw_below_drewN | apply below_drew1) | exact HB.out)⟩⟩
        ·rw [if_neg c15] at H
         exact absurd H (by simp)
       ·rw [if_neg c14] at H
        exact absurd H (by simp)
    ·replace c9 := Bool.eq_false_iff.mpr c9
     subst c9
     have H1 : (clepsydralaw18_LeapSeconds.j0 k l0 a1 true) = some r := by rw [if_neg (show ¬ (false = true) by decide)] at H; exact H
     clear H
     have H := H1
     clear H1
     have H' := Aside0.mk H
     clear H
     go_wp2_with (first | (go_at_call 11; (with_reducible refine (clepsydraref18_Good.calls k _ _ l0 false _ ?side1 ?side2 A8.out).mono ?_); (case side1 => repeat (first | exact (Kd.C_below HR0.out HB.out) | (with_reducible refine Kd.C_alloc ?_ _) | (with_reducible refine Kd.C_drewN ?_ _) | (with_reducible refine Kd.C_drew ?_))); (case side2 => exact HC0.out); rintro e w17 ⟨rfl, hb⟩; have n0_ := Aside0.mk (below_step (by repeat (first | (with_reducible first | exact HB.out | apply below_alloc | apply pw_below_drewN | apply below_drew1) | exact HB.out)) hb); clear HB; have HB := n0_; clear n0_; (try clear hb); (try clear hb2); (try clear hk); (try clear hi)))
     go_meet
     case rel => exact ⟨_, (true), (by first | rfl | (simp; done) | (simp [*]; done) | (simp [Int.tdiv_eq_ediv_of_nonneg]; done) | (simp [Go.RowKit.wrap64]; done) | (simp [*, Go.RowKit.wrap64]; done)), H', ⟨by first | omega | exact Nat.le_refl _⟩, ⟨by repeat (first | (with_reducible first | exact HB.out | apply below_alloc | apply pw_below_drewN | apply below_drew1) | exact HB.out)⟩⟩
  case rest =>
   clear HC5
   try clear c1
   try clear p2
   try clear q2
   try clear hx2
   try clear c4
   try clear c7
   try clear c7b0
   try clear c7b1
   try clear c9
   try clear c10
   try clear c10b0
   try clear c12
   try clear c12b0
   try clear c14
   try clear c14b0
   try clear c15
   try clear c15b0
   try clear hx276_0
   try clear hx276_1
   try clear p276
   try clear q276
   obtain ⟨kq, x43_4, rfl, HA, HJ4, HB⟩ := hcut
   cases kq with
   | zero => exact absurd HA.out (by simp [clepsydralaw18_LeapSeconds.j0])
   | succ kj4 =>
    have H := HA.out
    clear HA
    simp only [clepsydralaw18_LeapSeconds.j0] at H
    by_cases c18 : x43_4 = true
    ·subst c18
     have H1 : (some true) = some r := by rw [if_pos rfl] at H; exact H
     clear H
     have H := H1
     clear H1
     obtain rfl := Option.some.inj H
     go_wp2
     go_ret
     exact ⟨by first | rfl | (simp [errW_none, errW_some] <;> rfl) | (simp [*, errW_none, errW_some] <;> rfl), by repeat (first | (with_reducible first | exact HB.out | apply below_alloc | apply pw_below_drewN | apply below_drew1) | exact HB.out)⟩
    ·replace c18 := Bool.eq_false_iff.mpr c18
     subst c18
     have H1 : (if 0 ≤ a1 then (if a1 < (l0.length : Int) then ((clepsydraref18_Offset.f kj4 l0 (wrap64 (((rd_T40 l0 a1).f0) - 1))).bind fun t279 => ((leap_ToLabel.f kj4 l0 (wrap64 (((rd_T40 l0 a1).f0) - 2))).bind fun bt280 => ((leap_ToLabel.f kj4 l0 (wrap64 (((rd_T40 l0 a1).f0) - 1))).bind fun bt288 => ((leap_ToLabel.f kj4 l0 ((rd_T40 l0 a1).f0)).bind fun bt296 => (if bt280.2.2.2.2.2.2 = 0 then (if bt288.2.2.2.2.2.2 = 0 then (if bt296.2.2.2.2.2.2 = 0 then (if bt296.2.2.2.1 = 0 then (if bt296.2.2.2.2.1 = 0 then (if bt296.2.2.2.2.2.1 = 0 then (if bt288.2.2.2.1 = 23 then (if bt288.2.2.2.2.1 = 59 then (if bt280.2.2.2.2.1 = 59 then (clepsydralaw18_LeapSeconds.j1 kj4 l0 t279 (bt280.2.2.1 != bt288.2.2.1) ((rd_T40 l0 a1).f0) ((rd_T40 l0 a1).f1) bt280.1 bt280.2.1 bt280.2.2.1 bt280.2.2.2.1 bt280.2.2.2.2.1 bt280.2.2.2.2.2.1 bt288.1 bt288.2.1 bt288.2.2.1 bt288.2.2.2.1 bt288.2.2.2.2.1 bt288.2.2.2.2.2.1) else (clepsydralaw18_LeapSeconds.j1 kj4 l0 t279 true ((rd_T40 l0 a1).f0) ((rd_T40 l0 a1).f1) bt280.1 bt280.2.1 bt280.2.2.1 bt280.2.2.2.1 bt280.2.2.2.2.1 bt280.2.2.2.2.2.1 bt288.1 bt288.2.1 bt288.2.2.1 bt288.2.2.2.1 bt288.2.2.2.2.1 bt288.2.2.2.2.2.1)) else (clepsydralaw18_LeapSeconds.j1 kj4 l0 t279 true ((rd_T40 l0 a1).f0) ((rd_T40 l0 a1).f1) bt280.1 bt280.2.1 bt280.2.2.1 bt280.2.2.2.1 bt280.2.2.2.2.1 bt280.2.2.2.2.2.1 bt288.1 bt288.2.1 bt288.2.2.1 bt288.2.2.2.1 bt288.2.2.2.2.1 bt288.2.2.2.2.2.1)) else (clepsydralaw18_LeapSeconds.j1 kj4 l0 t279 true ((rd_T40 l0 a1).f0) ((rd_T40 l0 a1).f1) bt280.1 bt280.2.1 bt280.2.2.1 bt280.2.2.2.1 bt280.2.2.2.2.1 bt280.2.2.2.2.2.1 bt288.1 bt288.2.1 bt288.2.2.1 bt288.2.2.2.1 bt288.2.2.2.2.1 bt288.2.2.2.2.2.1)) else (clepsydralaw18_LeapSeconds.j1 kj4 l0 t279 true ((rd_T40 l0 a1).f0) ((rd_T40 l0 a1).f1) bt280.1 bt280.2.1 bt280.2.2.1 bt280.2.2.2.1 bt280.2.2.2.2.1 bt280.2.2.2.2.2.1 bt288.1 bt288.2.1 bt288.2.2.1 bt288.2.2.2.1 bt288.2.2.2.2.1 bt288.2.2.2.2.2.1)) else (clepsydralaw18_LeapSeconds.j1 kj4 l0 t279 true ((rd_T40 l0 a1).f0) ((rd_T40 l0 a1).f1) bt280.1 bt280.2.1 bt280.2.2.1 bt280.2.2.2.1 bt280.2.2.2.2.1 bt280.2.2.2.2.2.1 bt288.1 bt288.2.1 bt288.2.2.1 bt288.2.2.2.1 bt288.2.2.2.2.1 bt288.2.2.2.2.2.1)) else (clepsydralaw18_LeapSeconds.j1 kj4 l0 t279 true ((rd_T40 l0 a1).f0) ((rd_T40 l0 a1).f1) bt280.1 bt280.2.1 bt280.2.2.1 bt280.2.2.2.1 bt280.2.2.2.2.1 bt280.2.2.2.2.2.1 bt288.1 bt288.2.1 bt288.2.2.1 bt288.2.2.2.1 bt288.2.2.2.2.1 bt288.2.2.2.2.2.1)) else (clepsydralaw18_LeapSeconds.j1 kj4 l0 t279 true ((rd_T40 l0 a1).f0) ((rd_T40 l0 a1).f1) bt280.1 bt280.2.1 bt280.2.2.1 bt280.2.2.2.1 bt280.2.2.2.2.1 bt280.2.2.2.2.2.1 bt288.1 bt288.2.1 bt288.2.2.1 bt288.2.2.2.1 bt288.2.2.2.2.1 bt288.2.2.2.2.2.1)) else (clepsydralaw18_LeapSeconds.j1 kj4 l0 t279 true ((rd_T40 l0 a1).f0) ((rd_T40 l0 a1).f1) bt280.1 bt280.2.1 bt280.2.2.1 bt280.2.2.2.1 bt280.2.2.2.2.1 bt280.2.2.2.2.2.1 bt288.1 bt288.2.1 bt288.2.2.1 bt288.2.2.2.1 bt288.2.2.2.2.1 bt288.2.2.2.2.2.1)) else (clepsydralaw18_LeapSeconds.j1 kj4 l0 t279 true ((rd_T40 l0 a1).f0) ((rd_T40 l0 a1).f1) bt280.1 bt280.2.1 bt280.2.2.1 bt280.2.2.2.1 bt280.2.2.2.2.1 bt280.2.2.2.2.2.1 bt288.1 bt288.2.1 bt288.2.2.1 bt288.2.2.2.1 bt288.2.2.2.2.1 bt288.2.2.2.2.2.1)))))) else (none)) else (none)) = some r := by rw [if_neg (show ¬ (false = true) by decide)] at H; exact H
     clear H
     have H := H1
     clear H1
     by_cases c19 : 0 ≤ a1
     ·rw [if_pos c19] at H
      have c19b0 : decide (0 ≤ a1) = true := decide_eq_true c19
      clear c19
      by_cases c20 : a1 < (l0.length : Int)
      ·rw [if_pos c20] at H
       have c20b0 : decide (a1 < (l0.length : Int)) = true := decide_eq_true c20
       clear c20
       replace H := Option.bind_eq_some_iff.mp H
       obtain ⟨t279, A210, H⟩ := H
       replace H : ((leap_ToLabel.f kj4 l0 (wrap64 (((rd_T40 l0 a1).f0) - 2))).bind fun bt280 => ((leap_ToLabel.f kj4 l0 (wrap64 (((rd_T40 l0 a1).f0) - 1))).bind fun bt288 => ((leap_ToLabel.f kj4 l0 ((rd_T40 l0 a1).f0)).bind fun bt296 => (if bt280.2.2.2.2.2.2 = 0 then (if bt288.2.2.2.2.2.2 = 0 then (if bt296.2.2.2.2.2.2 = 0 then (if bt296.2.2.2.1 = 0 then (if bt296.2.2.2.2.1 = 0 then (if bt296.2.2.2.2.2.1 = 0 then (if bt288.2.2.2.1 = 23 then (if bt288.2.2.2.2.1 = 59 then (if bt280.2.2.2.2.1 = 59 then (clepsydralaw18_LeapSeconds.j1 kj4 l0 t279 (bt280.2.2.1 != bt288.2.2.1) ((rd_T40 l0 a1).f0) ((rd_T40 l0 a1).f1) bt280.1 bt280.2.1 bt280.2.2.1 bt280.2.2.2.1 bt280.2.2.2.2.1 bt280.2.2.2.2.2.1 bt288.1 bt288.2.1 bt288.2.2.1 bt288.2.2.2.1 bt288.2.2.2.2.1 bt288.2.2.2.2.2.1) else (clepsydralaw18_LeapSeconds.j1 kj4 l0 t279 true ((rd_T40 l0 a1).f0) ((rd_T40 l0 a1).f1) bt280.1 bt280.2.1 bt280.2.2.1 bt280.2.2.2.1 bt280.2.2.2.2.1 bt280.2.2.2.2.2.1 bt288.1 bt288.2.1 bt288.2.2.1 bt288.2.2.2.1 bt288.2.2.2.2.1 bt288.2.2.2.2.2.1)) else (clepsydralaw18_LeapSeconds.j1 kj4 l0 t279 true ((rd_T40 l0 a1).f0) ((rd_T40 l0 a1).f1) bt280.1 bt280.2.1 bt280.2.2.1 bt280.2.2.2.1 bt280.2.2.2.2.1 bt280.2.2.2.2.2.1 bt288.1 bt288.2.1 bt288.2.2.1 bt288.2.2.2.1 bt288.2.2.2.2.1 bt288.2.2.2.2.2.1)) else (clepsydralaw18_LeapSeconds.j1 kj4 l0 t279 true ((rd_T40 l0 a1).f0) ((rd_T40 l0 a1).f1) bt280.1 bt280.2.1 bt280.2.2.1 bt280.2.2.2.1 bt280.2.2.2.2.1 bt280.2.2.2.2.2.1 bt288.1 bt288.2.1 bt288.2.2.1 bt288.2.2.2.1 bt288.2.2.2.2.1 bt288.2.2.2.2.2.1)) else (clepsydralaw18_LeapSeconds.j1 kj4 l0 t279 true ((rd_T40 l0 a1).f0) ((rd_T40 l0 a1).f1) bt280.1 bt280.2.1 bt280.2.2.1 bt280.2.2.2.1 bt280.2.2.2.2.1 bt280.2.2.2.2.2.1 bt288.1 bt288.2.1 bt288.2.2.1 bt288.2.2.2.1 bt288.2.2.2.2.1 bt288.2.2.2.2.2.1)) else (clepsydralaw18_LeapSeconds.j1 kj4 l0 t279 true ((rd_T40 l0 a1).f0) ((rd_T40 l0 a1).f1) bt280.1 bt280.2.1 bt280.2.2.1 bt280.2.2.2.1 bt280.2.2.2.2.1 bt280.2.2.2.2.2.1 bt288.1 bt288.2.1 bt288.2.2.1 bt288.2.2.2.1 bt288.2.2.2.2.1 bt288.2.2.2.2.2.1)) else (clepsydralaw18_LeapSeconds.j1 kj4 l0 t279 true ((rd_T40 l0 a1).f0) ((rd_T40 l0 a1).f1) bt280.1 bt280.2.1 bt280.2.2.1 bt280.2.2.2.1 bt280.2.2.2.2.1 bt280.2.2.2.2.2.1 bt288.1 bt288.2.1 bt288.2.2.1 bt288.2.2.2.1 bt288.2.2.2.2.1 bt288.2.2.2.2.2.1)) else (clepsydralaw18_LeapSeconds.j1 kj4 l0 t279 true ((rd_T40 l0 a1).f0) ((rd_T40 l0 a1).f1) bt280.1 bt280.2.1 bt280.2.2.1 bt280.2.2.2.1 bt280.2.2.2.2.1 bt280.2.2.2.2.2.1 bt288.1 bt288.2.1 bt288.2.2.1 bt288.2.2.2.1 bt288.2.2.2.2.1 bt288.2.2.2.2.2.1)) else (clepsydralaw18_LeapSeconds.j1 kj4 l0 t279 true ((rd_T40 l0 a1).f0) ((rd_T40 l0 a1).f1) bt280.1 bt280.2.1 bt280.2.2.1 bt280.2.2.2.1 bt280.2.2.2.2.1 bt280.2.2.2.2.2.1 bt288.1 bt288.2.1 bt288.2.2.1 bt288.2.2.2.1 bt288.2.2.2.2.1 bt288.2.2.2.2.2.1)) else (clepsydralaw18_LeapSeconds.j1 kj4 l0 t279 true ((rd_T40 l0 a1).f0) ((rd_T40 l0 a1).f1) bt280.1 bt280.2.1 bt280.2.2.1 bt280.2.2.2.1 bt280.2.2.2.2.1 bt280.2.2.2.2.2.1 bt288.1 bt288.2.1 bt288.2.2.1 bt288.2.2.2.1 bt288.2.2.2.2.1 bt288.2.2.2.2.2.1))))) = some r := H
       have A21 := Aside0.mk A210
       clear A210
       replace H := Option.bind_eq_some_iff.mp H
       obtain ⟨⟨t280, t281, t282, t283, t284, t285, t286⟩, A220, H⟩ := H
       replace H : ((leap_ToLabel.f kj4 l0 (wrap64 (((rd_T40 l0 a1).f0) - 1))).bind fun bt288 => ((leap_ToLabel.f kj4 l0 ((rd_T40 l0 a1).f0)).bind fun bt296 => (if t286 = 0 then (if bt288.2.2.2.2.2.2 = 0 then (if bt296.2.2.2.2.2.2 = 0 then (if bt296.2.2.2.1 = 0 then (if bt296.2.2.2.2.1 = 0 then (if bt296.2.2.2.2.2.1 = 0 then (if bt288.2.2.2.1 = 23 then (if bt288.2.2.2.2.1 = 59 then (if t284 = 59 then (clepsydralaw18_LeapSeconds.j1 kj4 l0 t279 (t282 != bt288.2.2.1) ((rd_T40 l0 a1).f0) ((rd_T40 l0 a1).f1) t280 t281 t282 t283 t284 t285 bt288.1 bt288.2.1 bt288.2.2.1 bt288.2.2.2.1 bt288.2.2.2.2.1 bt288.2.2.2.2.2.1) else (clepsydralaw18_LeapSeconds.j1 kj4 l0 t279 true ((rd_T40 l0 a1).f0) ((rd_T40 l0 a1).f1) t280 t281 t282 t283 t284 t285 bt288.1 bt288.2.1 bt288.2.2.1 bt288.2.2.2.1 bt288.2.2.2.2.1 bt288.2.2.2.2.2.1)) else (clepsydralaw18_LeapSeconds.j1 kj4 l0 t279 true ((rd_T40 l0 a1).f0) ((rd_T40 l0 a1).f1) t280 t281 t282 t283 t284 t285 bt288.1 bt288.2.1 bt288.2.2.1 bt288.2.2.2.1 bt288.2.2.2.2.1 bt288.2.2.2.2.2.1)) else (clepsydralaw18_LeapSeconds.j1 kj4 l0 t279 true ((rd_T40 l0 a1).f0) ((rd_T40 l0 a1).f1) t280 t281 t282 t283 t284 t285 bt288.1 bt288.2.1 bt288.2.2.1 bt288.2.2.2.1 bt288.2.2.2.2.1 bt288.2.2.2.2.2.1)) else (clepsydralaw18_LeapSeconds.j1 kj4 l0 t279 true ((rd_T40 l0 a1).f0) ((rd_T40 l0 a1).f1) t280 t281 t282 t283 t284 t285 bt288.1 bt288.2.1 bt288.2.2.1 bt288.2.2.2.1 bt288.2.2.2.2.1 bt288.2.2.2.2.2.1)) else (clepsydralaw18_LeapSeconds.j1 kj4 l0 t279 true ((rd_T40 l0 a1).f0) ((rd_T40 l0 a1).f1) t280 t281 t282 t283 t284 t285 bt288.1 bt288.2.1 bt288.2.2.1 bt288.2.2.2.1 bt288.2.2.2.2.1 bt288.2.2.2.2.2.1)) else (clepsydralaw18_LeapSeconds.j1 kj4 l0 t279 true ((rd_T40 l0 a1).f0) ((rd_T40 l0 a1).f1) t280 t281 t282 t283 t284 t285 bt288.1 bt288.2.1 bt288.2.2.1 bt288.2.2.2.1 bt288.2.2.2.2.1 bt288.2.2.2.2.2.1)) else (clepsydralaw18_LeapSeconds.j1 kj4 l0 t279 true ((rd_T40 l0 a1).f0) ((rd_T40 l0 a1).f1) t280 t281 t282 t283 t284 t285 bt288.1 bt288.2.1 bt288.2.2.1 bt288.2.2.2.1 bt288.2.2.2.2.1 bt288.2.2.2.2.2.1)) else (clepsydralaw18_LeapSeconds.j1 kj4 l0 t279 true ((rd_T40 l0 a1).f0) ((rd_T40 l0 a1).f1) t280 t281 t282 t283 t284 t285 bt288.1 bt288.2.1 bt288.2.2.1 bt288.2.2.2.1 bt288.2.2.2.2.1 bt288.2.2.2.2.2.1)) else (clepsydralaw18_LeapSeconds.j1 kj4 l0 t279 true ((rd_T40 l0 a1).f0) ((rd_T40 l0 a1).f1) t280 t281 t282 t283 t284 t285 bt288.1 bt288.2.1 bt288.2.2.1 bt288.2.2.2.1 bt288.2.2.2.2.1 bt288.2.2.2.2.2.1)))) = some r := H
       have A22 := Aside0.mk A220
       clear A220
       replace H := Option.bind_eq_some_iff.mp H
       obtain ⟨⟨t288, t289, t290, t291, t292, t293, t294⟩, A230, H⟩ := H
       replace H : ((leap_ToLabel.f kj4 l0 ((rd_T40 l0 a1).f0)).bind fun bt296 => (if t286 = 0 then (if t294 = 0 then (if bt296.2.2.2.2.2.2 = 0 then (if bt296.2.2.2.1 = 0 then (if bt296.2.2.2.2.1 = 0 then (if bt296.2.2.2.2.2.1 = 0 then (if t291 = 23 then (if t292 = 59 then (if t284 = 59 then (clepsydralaw18_LeapSeconds.j1 kj4 l0 t279 (t282 != t290) ((rd_T40 l0 a1).f0) ((rd_T40 l0 a1).f1) t280 t281 t282 t283 t284 t285 t288 t289 t290 t291 t292 t293) else (clepsydralaw18_LeapSeconds.j1 kj4 l0 t279 true ((rd_T40 l0 a1).f0) ((rd_T40 l0 a1).f1) t280 t281 t282 t283 t284 t285 t288 t289 t290 t291 t292 t293)) else (clepsydralaw18_LeapSeconds.j1 kj4 l0 t279 true ((rd_T40 l0 a1).f0) ((rd_T40 l0 a1).f1) t280 t281 t282 t283 t284 t285 t288 t289 t290 t291 t292 t293)) else (clepsydralaw18_LeapSeconds.j1 kj4 l0 t279 true ((rd_T40 l0 a1).f0) ((rd_T40 l0 a1).f1) t280 t281 t282 t283 t284 t285 t288 t289 t290 t291 t292 t293)) else (clepsydralaw18_LeapSeconds.j1 kj4 l0 t279 true ((rd_T40 l0 a1).f0) ((rd_T40 l0 a1).f1) t280 t281 t282 t283 t284 t285 t288 t289 t290 t291 t292 t293)) else (clepsydralaw18_LeapSeconds.j1 kj4 l0 t279 true ((rd_T40 l0 a1).f0) ((rd_T40 l0 a1).f1) t280 t281 t282 t283 t284 t285 t288 t289 t290 t291 t292 t293)) else (clepsydralaw18_LeapSeconds.j1 kj4 l0 t279 true ((rd_T40 l0 a1).f0) ((rd_T40 l0 a1).f1) t280 t281 t282 t283 t284 t285 t288 t289 t290 t291 t292 t293)) else (clepsydralaw18_LeapSeconds.j1 kj4 l0 t279 true ((rd_T40 l0 a1).f0) ((rd_T40 l0 a1).f1) t280 t281 t282 t283 t284 t285 t288 t289 t290 t291 t292 t293)) else (clepsydralaw18_LeapSeconds.j1 kj4 l0 t279 true ((rd_T40 l0 a1).f0) ((rd_T40 l0 a1).f1) t280 t281 t282 t283 t284 t285 t288 t289 t290 t291 t292 t293)) else (clepsydralaw18_LeapSeconds.j1 kj4 l0 t279 true ((rd_T40 l0 a1).f0) ((rd_T40 l0 a1).f1) t280 t281 t282 t283 t284 t285 t288 t289 t290 t291 t292 t293))) = some r := H
       have A23 := Aside0.mk A230
       clear A230
       replace H := Option.bind_eq_some_iff.mp H
       obtain ⟨⟨t296, t297, t298, t299, t300, t301, t302⟩, A240, H⟩ := H
       replace H : (if t286 = 0 then (if t294 = 0 then (if t302 = 0 then (if t299 = 0 then (if t300 = 0 then (if t301 = 0 then (if t291 = 23 then (if t292 = 59 then (if t284 = 59 then (clepsydralaw18_LeapSeconds.j1 kj4 l0 t279 (t282 != t290) ((rd_T40 l0 a1).f0) ((rd_T40 l0 a1).f1) t280 t281 t282 t283 t284 t285 t288 t289 t290 t291 t292 t293) else (clepsydralaw18_LeapSeconds.j1 kj4 l0 t279 true ((rd_T40 l0 a1).f0) ((rd_T40 l0 a1).f1) t280 t281 t282 t283 t284 t285 t288 t289 t290 t291 t292 t293)) else (clepsydralaw18_LeapSeconds.j1 kj4 l0 t279 true ((rd_T40 l0 a1).f0) ((rd_T40 l0 a1).f1) t280 t281 t282 t283 t284 t285 t288 t289 t290 t291 t292 t293)) else (clepsydralaw18_LeapSeconds.j1 kj4 l0 t279 true ((rd_T40 l0 a1).f0) ((rd_T40 l0 a1).f1) t280 t281 t282 t283 t284 t285 t288 t289 t290 t291 t292 t293)) else (clepsydralaw18_LeapSeconds.j1 kj4 l0 t279 true ((rd_T40 l0 a1).f0) ((rd_T40 l0 a1).f1) t280 t281 t282 t283 t284 t285 t288 t289 t290 t291 t292 t293)) else (clepsydralaw18_LeapSeconds.j1 kj4 l0 t279 true ((rd_T40 l0 a1).f0) ((rd_T40 l0 a1).f1) t280 t281 t282 t283 t284 t285 t288 t289 t290 t291 t292 t293)) else (clepsydralaw18_LeapSeconds.j1 kj4 l0 t279 true ((rd_T40 l0 a1).f0) ((rd_T40 l0 a1).f1) t280 t281 t282 t283 t284 t285 t288 t289 t290 t291 t292 t293)) else (clepsydralaw18_LeapSeconds.j1 kj4 l0 t279 true ((rd_T40 l0 a1).f0) ((rd_T40 l0 a1).f1) t280 t281 t282 t283 t284 t285 t288 t289 t290 t291 t292 t293)) else (clepsydralaw18_LeapSeconds.j1 kj4 l0 t279 true ((rd_T40 l0 a1).f0) ((rd_T40 l0 a1).f1) t280 t281 t282 t283 t284 t285 t288 t289 t290 t291 t292 t293)) else (clepsydralaw18_LeapSeconds.j1 kj4 l0 t279 true ((rd_T40 l0 a1).f0) ((rd_T40 l0 a1).f1) t280 t281 t282 t283 t284 t285 t288 t289 t290 t291 t292 t293)) = some r := H
       have A24 := Aside0.mk A240
       clear A240
       have HC25 := Aside0.mk H
       clear H
       have p277 : 0 ≤ (a1 : Int) := of_decide_eq_true (by first | (with_reducible assumption) | assumption)
       have q277 : a1 < (l0.length : Int) := of_decide_eq_true (by first | (with_reducible assumption) | assumption)
       obtain ⟨ad277, e277, hx277_0, hx277_1⟩ := at_T40 HR0.out a1 p277 q277
       cases e277
       replace hx277_0 := (HB.out.cell (World.block_lt_of_cell? w _ hx277_0)).trans hx277_0
       replace hx277_1 := (HB.out.cell (World.block_lt_of_cell? w _ hx277_1)).trans hx277_1
       replace p277 := eq_true p277
       replace q277 := eq_true q277
       go_upto_region 10 with (first | ((with_reducible refine gate_dst (N := 5) rfl ?_); (try (refine gate_guard (by rfl) ?_; dsimp only)); refine box_event ?hg (N := 5) ?hd (cs := #[.int .i64 0, .int .i64 0]) (t := 40) ?hr ?_; (case hd => rfl); (case hg => rfl); (case hr => first | (go_simp; done) | (go_simp; rfl)); intro gb278 hg w26 hbox hb; have n0_ := Aside0.mk (below_step (by repeat (first | (with_reducible first | exact HB.out | apply below_alloc | apply pw_below_drewN | apply below_drew1) | exact HB.out)) hb); have n1_ := Aside0.mk (hbox); have n2_ := Aside0.mk ((by rw [hg]; exact (below_size (by repeat (first | (with_reducible first | exact HB.out | apply below_alloc | apply pw_below_drewN | apply below_drew1) | exact HB.out))) : w.heap.size ≤ gb278)); have n3_ := Aside0.mk ((by rw [hg]; exact (below_size (by repeat (first | (with_reducible first | exact HB.out | apply below_alloc | apply pw_below_drewN | apply below_drew1) | exact HB.out))) : w.heap.size ≤ gb278)); clear HB; have HB := n0_; have BK278 := n1_; have GW278 := n2_; have GE278 := n3_; clear n0_ n1_ n2_ n3_; clear hb hbox hg; have hcz27_0 : w26.cell? ⟨gb278, 0, none⟩ = some (.int .i64 0) := (blk_cell BK278.out 0).trans rfl; have hcz27_1 : w26.cell? ⟨gb278, 1, none⟩ = some (.int .i64 0) := (blk_cell BK278.out 1).trans rfl; have hfz27_0 := blk_frozen BK278.out 0; have hfz27_1 := blk_frozen BK278.out 1) | ((with_reducible refine gate_callee (f := 18) rfl ?_); refine goesL_ (some 52) rfl rfl Tryd.func18 (by kernel_rfl) rfl #[.slice (some ad277) l0.length c0, .int .i64 (wrap64 (((rd_T40 l0 a1).f0) - 1))] rfl (by (try simp only [List.map_toArray, List.map_cons, List.map_nil]); first | done | rfl | (simp only [List.length_drop, List.length_take]; rfl)) ?_; (with_reducible refine (clepsydraref18_Offset.calls kj4 _ _ l0 (wrap64 (((rd_T40 l0 a1).f0) - 1)) t279 _ ?side1 ?side2 A21.out).mono ?_); (case side1 => exact Kd.C_below HR0.out (by repeat (first | (with_reducible first | exact HB.out | apply below_alloc | apply pw_below_drewN | apply below_drew1 | refine below_set ?_ GE278.out) | exact HB.out))); (case side2 => exact HC0.out); rintro e w28 ⟨rfl, hb⟩; refine ⟨_, rfl, ?_⟩; have n0_ := Aside0.mk (blk_below (g := gb278) (o := .cells #[.int .i64 ((rd_T40 l0 a1).f0), .int .i64 ((rd_T40 l0 a1).f1)] 40 (0, 0)) (by (with_reducible repeat (first | refine blk_drewN ?_ _ | refine blk_drew ?_ | refine blk_alloc ?_ _)); refine blk_put (cs := #[.int .i64 ((rd_T40 l0 a1).f0), .int .i64 0]) ?_ 1 _ rfl; (with_reducible repeat (first | refine blk_drewN ?_ _ | refine blk_drew ?_ | refine blk_alloc ?_ _)); refine blk_put (cs := #[.int .i64 0, .int .i64 0]) ?_ 0 _ rfl; (with_reducible repeat (first | refine blk_drewN ?_ _ | refine blk_drew ?_ | refine blk_alloc ?_ _)); exact BK278.out) hb); have n1_ := Aside0.mk (below_step (by repeat (first | (with_reducible first | exact HB.out | apply below_alloc | apply pw_below_drewN | apply below_drew1 | refine below_set ?_ GE278.out) | exact HB.out)) hb); clear BK278; clear HB; have BK278 := n0_; have HB := n1_; clear n0_ n1_; (try clear hb); (try clear hb2); (try clear hk); (try clear hi); have hcz29_0 : w28.cell? ⟨gb278, 0, none⟩ = some (.int .i64 ((rd_T40 l0 a1).f0)) := (blk_cell BK278.out 0).trans rfl; have hcz29_1 : w28.cell? ⟨gb278, 1, none⟩ = some (.int .i64 ((rd_T40 l0 a1).f1)) := (blk_cell BK278.out 1).trans rfl; have hfz29_0 := blk_frozen BK278.out 0; have hfz29_1 := blk_frozen BK278.out 1) | ((with_reducible refine gate_callee (f := 12) rfl ?_); refine goesL_ (some 58) rfl rfl Tryd.func12 (by kernel_rfl) rfl #[.slice (some ad277) l0.length c0, .int .i64 (wrap64 (((rd_T40 l0 a1).f0) - 2))] rfl (by (try simp only [List.map_toArray, List.map_cons, List.map_nil]); first | done | rfl | (simp only [List.length_drop, List.length_take]; rfl)) ?_; (with_reducible refine (leap_ToLabel.calls kj4 _ _ l0 (wrap64 (((rd_T40 l0 a1).f0) - 2)) t280 t281 t282 t283 t284 t285 t286 _ (hM.below (by repeat (first | (with_reducible first | exact HB.out | apply below_alloc | apply pw_below_drewN | apply below_drew1 | refine below_set ?_ GE278.out) | exact HB.out))) ?side1 ?side2 A22.out).mono ?_); (case side1 => repeat (first | exact (Kd.C_below HR0.out HB.out) | (with_reducible refine Kd.C_alloc ?_ _) | (with_reducible refine Kd.C_drewN ?_ _) | (with_reducible refine Kd.C_drew ?_))); (case side2 => exact HC0.out); rintro e w30 ⟨rfl, hb⟩; refine ⟨_, rfl, ?_⟩; have n0_ := Aside0.mk (blk_below (g := gb278) (o := .cells #[.int .i64 ((rd_T40 l0 a1).f0), .int .i64 ((rd_T40 l0 a1).f1)] 40 (0, 0)) (by (with_reducible repeat (first | refine blk_drewN ?_ _ | refine blk_drew ?_ | refine blk_alloc ?_ _)); exact BK278.out) hb); have n1_ := Aside0.mk (below_step (by repeat (first | (with_reducible first | exact HB.out | apply below_alloc | apply pw_below_drewN | apply below_drew1 | refine below_set ?_ GE278.out) | exact HB.out)) hb); clear BK278; clear HB; have BK278 := n0_; have HB := n1_; clear n0_ n1_; (try clear hb); (try clear hb2); (try clear hk); (try clear hi)) | ((with_reducible refine gate_dst (N := 7) rfl ?_); (try (refine gate_guard (by rfl) ?_; dsimp only)); refine box_event ?hg (N := 7) ?hd (cs := #[.int .i64 0, .int .i64 0, .int .i64 0, .int .i64 0, .int .i64 0, .int .i64 0]) (t := 26) ?hr ?_; (case hd => rfl); (case hg => rfl); (case hr => first | (go_simp; done) | (go_simp; rfl)); intro gb287 hg w31 hbox hb; have n0_ := Aside0.mk (blk_below (g := gb278) (o := .cells #[.int .i64 ((rd_T40 l0 a1).f0), .int .i64 ((rd_T40 l0 a1).f1)] 40 (0, 0)) (by (with_reducible repeat (first | refine blk_drewN ?_ _ | refine blk_drew ?_ | refine blk_alloc ?_ _)); exact BK278.out) hb); have n1_ := Aside0.mk (below_step (by repeat (first | (with_reducible first | exact HB.out | apply below_alloc | apply pw_below_drewN | apply below_drew1 | refine below_set ?_ GE278.out) | exact HB.out)) hb); have n2_ := Aside0.mk (hbox); have n3_ := Aside0.mk ((by rw [hg]; exact (below_size (by repeat (first | (with_reducible first | exact HB.out | apply below_alloc | apply pw_below_drewN | apply below_drew1 | refine below_set ?_ GE278.out) | exact HB.out))) : w.heap.size ≤ gb287)); have n4_ := Aside0.mk ((by rw [hg]; exact (below_size (by repeat (first | (with_reducible first | exact HB.out | apply below_alloc | apply pw_below_drewN | apply below_drew1 | refine below_set ?_ GE278.out) | exact HB.out))) : w.heap.size ≤ gb287)); have n5_ := Aside0.mk ((by rw [hg]; exact Nat.ne_of_lt (blk_lt (g := gb278) (o := .cells #[.int .i64 ((rd_T40 l0 a1).f0), .int .i64 ((rd_T40 l0 a1).f1)] 40 (0, 0)) (by (with_reducible repeat (first | refine blk_drewN ?_ _ | refine blk_drew ?_ | refine blk_alloc ?_ _)); exact BK278.out)) : gb278 ≠ gb287)); have n6_ := Aside0.mk ((by rw [hg]; exact Nat.ne_of_gt (blk_lt (g := gb278) (o := .cells #[.int .i64 ((rd_T40 l0 a1).f0), .int .i64 ((rd_T40 l0 a1).f1)] 40 (0, 0)) (by (with_reducible repeat (first | refine blk_drewN ?_ _ | refine blk_drew ?_ | refine blk_alloc ?_ _)); exact BK278.out)) : gb287 ≠ gb278)); clear BK278; clear HB; have BK278 := n0_; have HB := n1_; have BK287 := n2_; have GW287 := n3_; have GE287 := n4_; have NB278_287 := n5_; have NB287_278 := n6_; clear n0_ n1_ n2_ n3_ n4_ n5_ n6_; clear hb hbox hg; have hnb32 := NB287_278.out; have hnc32 := NB278_287.out; have hcz33_0 : w31.cell? ⟨gb287, 0, none⟩ = some (.int .i64 0) := (blk_cell BK287.out 0).trans rfl; have hcz33_1 : w31.cell? ⟨gb287, 1, none⟩ = some (.int .i64 0) := (blk_cell BK287.out 1).trans rfl; have hcz33_2 : w31.cell? ⟨gb287, 2, none⟩ = some (.int .i64 0) := (blk_cell BK287.out 2).trans rfl; have hcz33_3 : w31.cell? ⟨gb287, 3, none⟩ = some (.int .i64 0) := (blk_cell BK287.out 3).trans rfl; have hcz33_4 : w31.cell? ⟨gb287, 4, none⟩ = some (.int .i64 0) := (blk_cell BK287.out 4).trans rfl; have hcz33_5 : w31.cell? ⟨gb287, 5, none⟩ = some (.int .i64 0) := (blk_cell BK287.out 5).trans rfl; have hfz33_0 := blk_frozen BK287.out 0; have hfz33_1 := blk_frozen BK287.out 1; have hfz33_2 := blk_frozen BK287.out 2; have hfz33_3 := blk_frozen BK287.out 3; have hfz33_4 := blk_frozen BK287.out 4; have hfz33_5 := blk_frozen BK287.out 5; have hcz34_0 : w31.cell? ⟨gb278, 0, none⟩ = some (.int .i64 ((rd_T40 l0 a1).f0)) := (blk_cell BK278.out 0).trans rfl; have hcz34_1 : w31.cell? ⟨gb278, 1, none⟩ = some (.int .i64 ((rd_T40 l0 a1).f1)) := (blk_cell BK278.out 1).trans rfl; have hfz34_0 := blk_frozen BK278.out 0; have hfz34_1 := blk_frozen BK278.out 1) | ((with_reducible refine gate_callee (f := 12) rfl ?_); refine goesL_ (some 66) rfl rfl Tryd.func12 (by kernel_rfl) rfl #[.slice (some ad277) l0.length c0, .int .i64 (wrap64 (((rd_T40 l0 a1).f0) - 1))] rfl (by (try simp only [List.map_toArray, List.map_cons, List.map_nil]); first | done | rfl | (simp only [List.length_drop, List.length_take]; rfl)) ?_; (with_reducible refine (leap_ToLabel.calls kj4 _ _ l0 (wrap64 (((rd_T40 l0 a1).f0) - 1)) t288 t289 t290 t291 t292 t293 t294 _ (hM.below (by repeat (first | (with_reducible first | exact HB.out | apply below_alloc | apply pw_below_drewN | apply below_drew1 | refine below_set ?_ GE278.out | refine below_set ?_ GE287.out) | exact HB.out))) ?side1 ?side2 A23.out).mono ?_); (case side1 => exact Kd.C_below HR0.out (by repeat (first | (with_reducible first | exact HB.out | apply below_alloc | apply pw_below_drewN | apply below_drew1 | refine below_set ?_ GE278.out | refine below_set ?_ GE287.out) | exact HB.out))); (case side2 => exact HC0.out); rintro e w35 ⟨rfl, hb⟩; refine ⟨_, rfl, ?_⟩; have n0_ := Aside0.mk (blk_below (g := gb278) (o := .cells #[.int .i64 ((rd_T40 l0 a1).f0), .int .i64 ((rd_T40 l0 a1).f1)] 40 (0, 0)) (by (with_reducible repeat (first | refine blk_drewN ?_ _ | refine blk_drew ?_ | refine blk_alloc ?_ _)); refine blk_far ?_ NB278_287.out _; (with_reducible repeat (first | refine blk_drewN ?_ _ | refine blk_drew ?_ | refine blk_alloc ?_ _)); refine blk_far ?_ NB278_287.out _; (with_reducible repeat (first | refine blk_drewN ?_ _ | refine blk_drew ?_ | refine blk_alloc ?_ _)); refine blk_far ?_ NB278_287.out _; (with_reducible repeat (first | refine blk_drewN ?_ _ | refine blk_drew ?_ | refine blk_alloc ?_ _)); refine blk_far ?_ NB278_287.out _; (with_reducible repeat (first | refine blk_drewN ?_ _ | refine blk_drew ?_ | refine blk_alloc ?_ _)); refine blk_far ?_ NB278_287.out _; (with_reducible repeat (first | refine blk_drewN ?_ _ | refine blk_drew ?_ | refine blk_alloc ?_ _)); refine blk_far ?_ NB278_287.out _; (with_reducible repeat (first | refine blk_drewN ?_ _ | refine blk_drew ?_ | refine blk_alloc ?_ _)); exact BK278.out) hb); have n1_ := Aside0.mk (blk_below (g := gb287) (o := .cells #[.int .i64 t280, .int .i64 t281, .int .i64 t282, .int .i64 t283, .int .i64 t284, .int .i64 t285] 26 (0, 0)) (by (with_reducible repeat (first | refine blk_drewN ?_ _ | refine blk_drew ?_ | refine blk_alloc ?_ _)); refine blk_put (cs := #[.int .i64 t280, .int .i64 t281, .int .i64 t282, .int .i64 t283, .int .i64 t284, .int .i64 0]) ?_ 5 _ rfl; (with_reducible repeat (first | refine blk_drewN ?_ _ | refine blk_drew ?_ | refine blk_alloc ?_ _)); refine blk_put (cs := #[.int .i64 t280, .int .i64 t281, .int .i64 t282, .int .i64 t283, .int .i64 0, .int .i64 0]) ?_ 4 _ rfl; (with_reducible repeat (first | refine blk_drewN ?_ _ | refine blk_drew ?_ | refine blk_alloc ?_ _)); refine blk_put (cs := #[.int .i64 t280, .int .i64 t281, .int .i64 t282, .int .i64 0, .int .i64 0, .int .i64 0]) ?_ 3 _ rfl; (with_reducible repeat (first | refine blk_drewN ?_ _ | refine blk_drew ?_ | refine blk_alloc ?_ _)); refine blk_put (cs := #[.int .i64 t280, .int .i64 t281, .int .i64 0, .int .i64 0, .int .i64 0, .int .i64 0]) ?_ 2 _ rfl; (with_reducible repeat (first | refine blk_drewN ?_ _ | refine blk_drew ?_ | refine blk_alloc ?_ _)); refine blk_put (cs := #[.int .i64 t280, .int .i64 0, .int .i64 0, .int .i64 0, .int .i64 0, .int .i64 0]) ?_ 1 _ rfl; (with_reducible repeat (first | refine blk_drewN ?_ _ | refine blk_drew ?_ | refine blk_alloc ?_ _)); refine blk_put (cs := #[.int .i64 0, .int .i64 0, .int .i64 0, .int .i64 0, .int .i64 0, .int .i64 0]) ?_ 0 _ rfl; (with_reducible repeat (first | refine blk_drewN ?_ _ | refine blk_drew ?_ | refine blk_alloc ?_ _)); exact BK287.out) hb); have n2_ := Aside0.mk (below_step (by repeat (first | (with_reducible first | exact HB.out | apply below_alloc | apply pw_below_drewN | apply below_drew1 | refine below_set ?_ GE278.out | refine below_set ?_ GE287.out) | exact HB.out)) hb); clear BK278; clear BK287; clear HB; have BK278 := n0_; have BK287 := n1_; have HB := n2_; clear n0_ n1_ n2_; (try clear hb); (try clear hb2); (try clear hk); (try clear hi)) | ((with_reducible refine gate_dst (N := 9) rfl ?_); (try (refine gate_guard (by rfl) ?_; dsimp only)); refine box_event ?hg (N := 9) ?hd (cs := #[.int .i64 0, .int .i64 0, .int .i64 0, .int .i64 0, .int .i64 0, .int .i64 0]) (t := 26) ?hr ?_; (case hd => rfl); (case hg => rfl); (case hr => first | (go_simp; done) | (go_simp; rfl)); intro gb295 hg w36 hbox hb; have n0_ := Aside0.mk (blk_below (g := gb278) (o := .cells #[.int .i64 ((rd_T40 l0 a1).f0), .int .i64 ((rd_T40 l0 a1).f1)] 40 (0, 0)) (by (with_reducible repeat (first | refine blk_drewN ?_ _ | refine blk_drew ?_ | refine blk_alloc ?_ _)); exact BK278.out) hb); have n1_ := Aside0.mk (blk_below (g := gb287) (o := .cells #[.int .i64 t280, .int .i64 t281, .int .i64 t282, .int .i64 t283, .int .i64 t284, .int .i64 t285] 26 (0, 0)) (by (with_reducible repeat (first | refine blk_drewN ?_ _ | refine blk_drew ?_ | refine blk_alloc ?_ _)); exact BK287.out) hb); have n2_ := Aside0.mk (below_step (by repeat (first | (with_reducible first | exact HB.out | apply below_alloc | apply pw_below_drewN | apply below_drew1 | refine below_set ?_ GE278.out | refine below_set ?_ GE287.out) | exact HB.out)) hb); have n3_ := Aside0.mk (hbox); have n4_ := Aside0.mk ((by rw [hg]; exact (below_size (by repeat (first | (with_reducible first | exact HB.out | apply below_alloc | apply pw_below_drewN | apply below_drew1 | refine below_set ?_ GE278.out | refine below_set ?_ GE287.out) | exact HB.out))) : w.heap.size ≤ gb295)); have n5_ := Aside0.mk ((by rw [hg]; exact (below_size (by repeat (first | (with_reducible first | exact HB.out | apply below_alloc | apply pw_below_drewN | apply below_drew1 | refine below_set ?_ GE278.out | refine below_set ?_ GE287.out) | exact HB.out))) : w.heap.size ≤ gb295)); have n6_ := Aside0.mk ((by rw [hg]; exact Nat.ne_of_lt (blk_lt (g := gb278) (o := .cells #[.int .i64 ((rd_T40 l0 a1).f0), .int .i64 ((rd_T40 l0 a1).f1)] 40 (0, 0)) (by (with_reducible repeat (first | refine blk_drewN ?_ _ | refine blk_drew ?_ | refine blk_alloc ?_ _)); exact BK278.out)) : gb278 ≠ gb295)); have n7_ := Aside0.mk ((by rw [hg]; exact Nat.ne_of_gt (blk_lt (g := gb278) (o := .cells #[.int .i64 ((rd_T40 l0 a1).f0), .int .i64 ((rd_T40 l0 a1).f1)] 40 (0, 0)) (by (with_reducible repeat (first | refine blk_drewN ?_ _ | refine blk_drew ?_ | refine blk_alloc ?_ _)); exact BK278.out)) : gb295 ≠ gb278)); have n8_ := Aside0.mk ((by rw [hg]; exact Nat.ne_of_lt (blk_lt (g := gb287) (o := .cells #[.int .i64 t280, .int .i64 t281, .int .i64 t282, .int .i64 t283, .int .i64 t284, .int .i64 t285] 26 (0, 0)) (by (with_reducible repeat (first | refine blk_drewN ?_ _ | refine blk_drew ?_ | refine blk_alloc ?_ _)); exact BK287.out)) : gb287 ≠ gb295)); have n9_ := Aside0.mk ((by rw [hg]; exact Nat.ne_of_gt (blk_lt (g := gb287) (o := .cells #[.int .i64 t280, .int .i64 t281, .int .i64 t282, .int .i64 t283, .int .i64 t284, .int .i64 t285] 26 (0, 0)) (by (with_reducible repeat (first | refine blk_drewN ?_ _ | refine blk_drew ?_ | refine blk_alloc ?_ _)); exact BK287.out)) : gb295 ≠ gb287)); clear BK278; clear BK287; clear HB; have BK278 := n0_; have BK287 := n1_; have HB := n2_; have BK295 := n3_; have GW295 := n4_; have GE295 := n5_; have NB278_295 := n6_; have NB295_278 := n7_; have NB287_295 := n8_; have NB295_287 := n9_; clear n0_ n1_ n2_ n3_ n4_ n5_ n6_ n7_ n8_ n9_; clear hb hbox hg; have hnb37 := NB295_278.out; have hnc37 := NB278_295.out; have hnb38 := NB295_287.out; have hnc38 := NB287_295.out; have hcz39_0 : w36.cell? ⟨gb295, 0, none⟩ = some (.int .i64 0) := (blk_cell BK295.out 0).trans rfl; have hcz39_1 : w36.cell? ⟨gb295, 1, none⟩ = some (.int .i64 0) := (blk_cell BK295.out 1).trans rfl; have hcz39_2 : w36.cell? ⟨gb295, 2, none⟩ = some (.int .i64 0) := (blk_cell BK295.out 2).trans rfl; have hcz39_3 : w36.cell? ⟨gb295, 3, none⟩ = some (.int .i64 0) := (blk_cell BK295.out 3).trans rfl; have hcz39_4 : w36.cell? ⟨gb295, 4, none⟩ = some (.int .i64 0) := (blk_cell BK295.out 4).trans rfl; have hcz39_5 : w36.cell? ⟨gb295, 5, none⟩ = some (.int .i64 0) := (blk_cell BK295.out 5).trans rfl; have hfz39_0 := blk_frozen BK295.out 0; have hfz39_1 := blk_frozen BK295.out 1; have hfz39_2 := blk_frozen BK295.out 2; have hfz39_3 := blk_frozen BK295.out 3; have hfz39_4 := blk_frozen BK295.out 4; have hfz39_5 := blk_frozen BK295.out 5; have hcz40_0 : w36.cell? ⟨gb278, 0, none⟩ = some (.int .i64 ((rd_T40 l0 a1).f0)) := (blk_cell BK278.out 0).trans rfl; have hcz40_1 : w36.cell? ⟨gb278, 1, none⟩ = some (.int .i64 ((rd_T40 l0 a1).f1)) := (blk_cell BK278.out 1).trans rfl; have hfz40_0 := blk_frozen BK278.out 0; have hfz40_1 := blk_frozen BK278.out 1) | ((with_reducible refine gate_callee (f := 12) rfl ?_); refine goesL_ (some 73) rfl rfl Tryd.func12 (by kernel_rfl) rfl #[.slice (some ad277) l0.length c0, .int .i64 ((rd_T40 l0 a1).f0)] rfl (by (try simp only [List.map_toArray, List.map_cons, List.map_nil]); first | done | rfl | (simp only [List.length_drop, List.length_take]; rfl)) ?_; (with_reducible refine (leap_ToLabel.calls kj4 _ _ l0 ((rd_T40 l0 a1).f0) t296 t297 t298 t299 t300 t301 t302 _ (hM.below (by repeat (first | (with_reducible first | exact HB.out | apply below_alloc | apply pw_below_drewN | apply below_drew1 | refine below_set ?_ GE278.out | refine below_set ?_ GE287.out | refine below_set ?_ GE295.out) | exact HB.out))) ?side1 ?side2 A24.out).mono ?_); (case side1 => exact Kd.C_below HR0.out (by repeat (first | (with_reducible first | exact HB.out | apply below_alloc | apply pw_below_drewN | apply below_drew1 | refine below_set ?_ GE278.out | refine below_set ?_ GE287.out | refine below_set ?_ GE295.out) | exact HB.out))); (case side2 => exact HC0.out); rintro e w41 ⟨rfl, hb⟩; refine ⟨_, rfl, ?_⟩; have n0_ := Aside0.mk (blk_below (g := gb278) (o := .cells #[.int .i64 ((rd_T40 l0 a1).f0), .int .i64 ((rd_T40 l0 a1).f1)] 40 (0, 0)) (by (with_reducible repeat (first | refine blk_drewN ?_ _ | refine blk_drew ?_ | refine blk_alloc ?_ _)); refine blk_far ?_ NB278_295.out _; (with_reducible repeat (first | refine blk_drewN ?_ _ | refine blk_drew ?_ | refine blk_alloc ?_ _)); refine blk_far ?_ NB278_295.out _; (with_reducible repeat (first | refine blk_drewN ?_ _ | refine blk_drew ?_ | refine blk_alloc ?_ _)); refine blk_far ?_ NB278_295.out _; (with_reducible repeat (first | refine blk_drewN ?_ _ | refine blk_drew ?_ | refine blk_alloc ?_ _)); refine blk_far ?_ NB278_295.out _; (with_reducible repeat (first | refine blk_drewN ?_ _ | refine blk_drew ?_ | refine blk_alloc ?_ _)); refine blk_far ?_ NB278_295.out _; (with_reducible repeat (first | refine blk_drewN ?_ _ | refine blk_drew ?_ | refine blk_alloc ?_ _)); refine blk_far ?_ NB278_295.out _; (with_reducible repeat (first | refine blk_drewN ?_ _ | refine blk_drew ?_ | refine blk_alloc ?_ _)); exact BK278.out) hb); have n1_ := Aside0.mk (blk_below (g := gb287) (o := .cells #[.int .i64 t280, .int .i64 t281, .int .i64 t282, .int .i64 t283, .int .i64 t284, .int .i64 t285] 26 (0, 0)) (by (with_reducible repeat (first | refine blk_drewN ?_ _ | refine blk_drew ?_ | refine blk_alloc ?_ _)); refine blk_far ?_ NB287_295.out _; (with_reducible repeat (first | refine blk_drewN ?_ _ | refine blk_drew ?_ | refine blk_alloc ?_ _)); refine blk_far ?_ NB287_295.out _; (with_reducible repeat (first | refine blk_drewN ?_ _ | refine blk_drew ?_ | refine blk_alloc ?_ _)); refine blk_far ?_ NB287_295.out _; (with_reducible repeat (first | refine blk_drewN ?_ _ | refine blk_drew ?_ | refine blk_alloc ?_ _)); refine blk_far ?_ NB287_295.out _; (with_reducible repeat (first | refine blk_drewN ?_ _ | refine blk_drew ?_ | refine blk_alloc ?_ _)); refine blk_far ?_ NB287_295.out _; (with_reducible repeat (first | refine blk_drewN ?_ _ | refine blk_drew ?_ | refine blk_alloc ?_ _)); refine blk_far ?_ NB287_295.out _; (with_reducible repeat (first | refine blk_drewN ?_ _ | refine blk_drew ?_ | refine blk_alloc ?_ _)); exact BK287.out) hb); have n2_ := Aside0.mk (blk_below (g := gb295) (o := .cells #[.int .i64 t288, .int .i64 t289, .int .i64 t290, .int .i64 t291, .int .i64 t292, .int .i64 t293] 26 (0, 0)) (by (with_reducible repeat (first | refine blk_drewN ?_ _ | refine blk_drew ?_ | refine blk_alloc ?_ _)); refine blk_put (cs := #[.int .i64 t288, .int .i64 t289, .int .i64 t290, .int .i64 t291, .int .i64 t292, .int .i64 0]) ?_ 5 _ rfl; (with_reducible repeat (first | refine blk_drewN ?_ _ | refine blk_drew ?_ | refine blk_alloc ?_ _)); refine blk_put (cs := #[.int .i64 t288, .int .i64 t289, .int .i64 t290, .int .i64 t291, .int .i64 0, .int .i64 0]) ?_ 4 _ rfl; (with_reducible repeat (first | refine blk_drewN ?_ _ | refine blk_drew ?_ | refine blk_alloc ?_ _)); refine blk_put (cs := #[.int .i64 t288, .int .i64 t289, .int .i64 t290, .int .i64 0, .int .i64 0, .int .i64 0]) ?_ 3 _ rfl; (with_reducible repeat (first | refine blk_drewN ?_ _ | refine blk_drew ?_ | refine blk_alloc ?_ _)); refine blk_put (cs := #[.int .i64 t288, .int .i64 t289, .int .i64 0, .int .i64 0, .int .i64 0, .int .i64 0]) ?_ 2 _ rfl; (with_reducible repeat (first | refine blk_drewN ?_ _ | refine blk_drew ?_ | refine blk_alloc ?_ _)); refine blk_put (cs := #[.int .i64 t288, .int .i64 0, .int .i64 0, .int .i64 0, .int .i64 0, .int .i64 0]) ?_ 1 _ rfl; (with_reducible repeat (first | refine blk_drewN ?_ _ | refine blk_drew ?_ | refine blk_alloc ?_ _)); refine blk_put (cs := #[.int .i64 0, .int .i64 0, .int .i64 0, .int .i64 0, .int .i64 0, .int .i64 0]) ?_ 0 _ rfl; (with_reducible repeat (first | refine blk_drewN ?_ _ | refine blk_drew ?_ | refine blk_alloc ?_ _)); exact BK295.out) hb); have n3_ := Aside0.mk (below_step (by repeat (first | (with_reducible first | exact HB.out | apply below_alloc | apply pw_below_drewN | apply below_drew1 | refine below_set ?_ GE278.out | refine below_set ?_ GE287.out | refine below_set ?_ GE295.out) | exact HB.out)) hb); clear BK278; clear BK287; clear BK295; clear HB; have BK278 := n0_; have BK287 := n1_; have BK295 := n2_; have HB := n3_; clear n0_ n1_ n2_ n3_; (try clear hb); (try clear hb2); (try clear hk); (try clear hi)) | ((with_reducible refine gate_dst (N := 11) rfl ?_); (try (refine gate_guard (by rfl) ?_; dsimp only)); refine box_event ?hg (N := 11) ?hd (cs := #[.int .i64 0, .int .i64 0, .int .i64 0, .int .i64 0, .int .i64 0, .int .i64 0]) (t := 26) ?hr ?_; (case hd => rfl); (case hg => rfl); (case hr => first | (go_simp; done) | (go_simp; rfl)); intro gb303 hg w42 hbox hb; have n0_ := Aside0.mk (blk_below (g := gb278) (o := .cells #[.int .i64 ((rd_T40 l0 a1).f0), .int .i64 ((rd_T40 l0 a1).f1)] 40 (0, 0)) (by (with_reducible repeat (first | refine blk_drewN ?_ _ | refine blk_drew ?_ | refine blk_alloc ?_ _)); exact BK278.out) hb); have n1_ := Aside0.mk (blk_below (g := gb287) (o := .cells #[.int .i64 t280, .int .i64 t281, .int .i64 t282, .int .i64 t283, .int .i64 t284, .int .i64 t285] 26 (0, 0)) (by (with_reducible repeat (first | refine blk_drewN ?_ _ | refine blk_drew ?_ | refine blk_alloc ?_ _)); exact BK287.out) hb); have n2_ := Aside0.mk (blk_below (g := gb295) (o := .cells #[.int .i64 t288, .int .i64 t289, .int .i64 t290, .int .i64 t291, .int .i64 t292, .int .i64 t293] 26 (0, 0)) (by (with_reducible repeat (first | refine blk_drewN ?_ _ | refine blk_drew ?_ | refine blk_alloc ?_ _)); exact BK295.out) hb); have n3_ := Aside0.mk (below_step (by repeat (first | (with_reducible first | exact HB.out | apply below_alloc | apply pw_below_drewN | apply below_drew1 | refine below_set ?_ GE278.out | refine below_set ?_ GE287.out | refine below_set ?_ GE295.out) | exact HB.out)) hb); have n4_ := Aside0.mk (hbox); have n5_ := Aside0.mk ((by rw [hg]; exact (below_size (by repeat (first | (with_reducible first | exact HB.out | apply below_alloc | apply pw_below_drewN | apply below_drew1 | refine below_set ?_ GE278.out | refine below_set ?_ GE287.out | refine below_set ?_ GE295.out) | exact HB.out))) : w.heap.size ≤ gb303)); have n6_ := Aside0.mk ((by rw [hg]; exact (below_size (by repeat (first | (with_reducible first | exact HB.out | apply below_alloc | apply pw_below_drewN | apply below_drew1 | refine below_set ?_ GE278.out | refine below_set ?_ GE287.out | refine below_set ?_ GE295.out) | exact HB.out))) : w.heap.size ≤ gb303)); have n7_ := Aside0.mk ((by rw [hg]; exact Nat.ne_of_lt (blk_lt (g := gb278) (o := .cells #[.int .i64 ((rd_T40 l0 a1).f0), .int .i64 ((rd_T40 l0 a1).f1)] 40 (0, 0)) (by (with_reducible repeat (first | refine blk_drewN ?_ _ | refine blk_drew ?_ | refine blk_alloc ?_ _)); exact BK278.out)) : gb278 ≠ gb303)); have n8_ := Aside0.mk ((by rw [hg]; exact Nat.ne_of_gt (blk_lt (g := gb278) (o := .cells #[.int .i64 ((rd_T40 l0 a1).f0), .int .i64 ((rd_T40 l0 a1).f1)] 40 (0, 0)) (by (with_reducible repeat (first | refine blk_drewN ?_ _ | refine blk_drew ?_ | refine blk_alloc ?_ _)); exact BK278.out)) : gb303 ≠ gb278)); have n9_ := Aside0.mk ((by rw [hg]; exact Nat.ne_of_lt (blk_lt (g := gb287) (o := .cells #[.int .i64 t280, .int .i64 t281, .int .i64 t282, .int .i64 t283, .int .i64 t284, .int .i64 t285] 26 (0, 0)) (by (with_reducible repeat (first | refine blk_drewN ?_ _ | refine blk_drew ?_ | refine blk_alloc ?_ _)); exact BK287.out)) : gb287 ≠ gb303)); have n10_ := Aside0.mk ((by rw [hg]; exact Nat.ne_of_gt (blk_lt (g := gb287) (o := .cells #[.int .i64 t280, .int .i64 t281, .int .i64 t282, .int .i64 t283, .int .i64 t284, .int .i64 t285] 26 (0, 0)) (by (with_reducible repeat (first | refine blk_drewN ?_ _ | refine blk_drew ?_ | refine blk_alloc ?_ _)); exact BK287.out)) : gb303 ≠ gb287)); have n11_ := Aside0.mk ((by rw [hg]; exact Nat.ne_of_lt (blk_lt (g := gb295) (o := .cells #[.int .i64 t288, .int .i64 t289, .int .i64 t290, .int .i64 t291, .int .i64 t292, .int .i64 t293] 26 (0, 0)) (by (with_reducible repeat (first | refine blk_drewN ?_ _ | refine blk_drew ?_ | refine blk_alloc ?_ _)); exact BK295.out)) : gb295 ≠ gb303)); have n12_ := Aside0.mk ((by rw [hg]; exact Nat.ne_of_gt (blk_lt (g := gb295) (o := .cells #[.int .i64 t288, .int .i64 t289, .int .i64 t290, .int .i64 t291, .int .i64 t292, .int .i64 t293] 26 (0, 0)) (by (with_reducible repeat (first | refine blk_drewN ?_ _ | refine blk_drew ?_ | refine blk_alloc ?_ _)); exact BK295.out)) : gb303 ≠ gb295)); clear BK278; clear BK287; clear BK295; clear HB; have BK278 := n0_; have BK287 := n1_; have BK295 := n2_; have HB := n3_; have BK303 := n4_; have GW303 := n5_; have GE303 := n6_; have NB278_303 := n7_; have NB303_278 := n8_; have NB287_303 := n9_; have NB303_287 := n10_; have NB295_303 := n11_; have NB303_295 := n12_; clear n0_ n1_ n2_ n3_ n4_ n5_ n6_ n7_ n8_ n9_ n10_ n11_ n12_; clear hb hbox hg; have hnb43 := NB303_278.out; have hnc43 := NB278_303.out; have hnb44 := NB303_287.out; have hnc44 := NB287_303.out; have hnb45 := NB303_295.out; have hnc45 := NB295_303.out; have hcz46_0 : w42.cell? ⟨gb303, 0, none⟩ = some (.int .i64 0) := (blk_cell BK303.out 0).trans rfl; have hcz46_1 : w42.cell? ⟨gb303, 1, none⟩ = some (.int .i64 0) := (blk_cell BK303.out 1).trans rfl; have hcz46_2 : w42.cell? ⟨gb303, 2, none⟩ = some (.int .i64 0) := (blk_cell BK303.out 2).trans rfl; have hcz46_3 : w42.cell? ⟨gb303, 3, none⟩ = some (.int .i64 0) := (blk_cell BK303.out 3).trans rfl; have hcz46_4 : w42.cell? ⟨gb303, 4, none⟩ = some (.int .i64 0) := (blk_cell BK303.out 4).trans rfl; have hcz46_5 : w42.cell? ⟨gb303, 5, none⟩ = some (.int .i64 0) := (blk_cell BK303.out 5).trans rfl; have hfz46_0 := blk_frozen BK303.out 0; have hfz46_1 := blk_frozen BK303.out 1; have hfz46_2 := blk_frozen BK303.out 2; have hfz46_3 := blk_frozen BK303.out 3; have hfz46_4 := blk_frozen BK303.out 4; have hfz46_5 := blk_frozen BK303.out 5))
       (try simp only [Act.put, List.setIfInBounds_toArray, List.set_cons_zero, List.set_cons_succ])
       go_cut [122] (fun v122 wc => ∃ (kq : Nat) (x122_24 : Bool), v122 = .bool x122_24 ∧ Aside0 (clepsydralaw18_LeapSeconds.j1 kq l0 t279 x122_24 ((rd_T40 l0 a1).f0) ((rd_T40 l0 a1).f1) t280 t281 t282 t283 t284 t285 t288 t289 t290 t291 t292 t293 = some r) ∧ Aside0 (kq ≤ kj4) ∧ Aside0 (wc.heap[gb278]? = some (.cells #[.int .i64 ((rd_T40 l0 a1).f0), .int .i64 ((rd_T40 l0 a1).f1)] 40 (0, 0))) ∧ Aside0 (wc.heap[gb287]? = some (.cells #[.int .i64 t280, .int .i64 t281, .int .i64 t282, .int .i64 t283, .int .i64 t284, .int .i64 t285] 26 (0, 0))) ∧ Aside0 (wc.heap[gb295]? = some (.cells #[.int .i64 t288, .int .i64 t289, .int .i64 t290, .int .i64 t291, .int .i64 t292, .int .i64 t293] 26 (0, 0))) ∧ Aside0 (wc.heap[gb303]? = some (.cells #[.int .i64 t296, .int .i64 t297, .int .i64 t298, .int .i64 t299, .int .i64 t300, .int .i64 t301] 26 (0, 0))) ∧ Aside0 (Below w.heap.size w wc))
       case first =>
        have H := HC25.out
        clear HC25
        by_cases c47 : t286 = 0
        ·rw [if_pos c47] at H
         have c47b0 : (t286 == 0) = true := beq_iff_eq.mpr c47
         have c47b1 : (t286 != 0) = false := bne_eq_false_iff_eq.mpr c47
         clear c47
         (first | rw [c47b0] | (simp only [i64_w, i32_w]; rw [c47b0]) | skip)
         by_cases c48 : t294 = 0
         ·rw [if_pos c48] at H
          have c48b0 : (t294 == 0) = true := beq_iff_eq.mpr c48
          have c48b1 : (t294 != 0) = false := bne_eq_false_iff_eq.mpr c48
          clear c48
          by_cases c49 : t302 = 0
          ·rw [if_pos c49] at H
           have c49b0 : (t302 == 0) = true := beq_iff_eq.mpr c49
           have c49b1 : (t302 != 0) = false := bne_eq_false_iff_eq.mpr c49
           clear c49
           by_cases c50 : t299 = 0
           ·rw [if_pos c50] at H
            have c50b0 : (t299 == 0) = true := beq_iff_eq.mpr c50
            have c50b1 : (t299 != 0) = false := bne_eq_false_iff_eq.mpr c50
            clear c50
            by_cases c51 : t300 = 0
            ·rw [if_pos c51] at H
             have c51b0 : (t300 == 0) = true := beq_iff_eq.mpr c51
             have c51b1 : (t300 != 0) = false := bne_eq_false_iff_eq.mpr c51
             clear c51
             by_cases c52 : t301 = 0
             ·rw [if_pos c52] at H
              have c52b0 : (t301 == 0) = true := beq_iff_eq.mpr c52
              have c52b1 : (t301 != 0) = false := bne_eq_false_iff_eq.mpr c52
              clear c52
              by_cases c53 : t291 = 23
              ·rw [if_pos c53] at H
               have c53b0 : (t291 == 23) = true := beq_iff_eq.mpr c53
               have c53b1 : (t291 != 23) = false := bne_eq_false_iff_eq.mpr c53
               clear c53
               by_cases c54 : t292 = 59
               ·rw [if_pos c54] at H
                have c54b0 : (t292 == 59) = true := beq_iff_eq.mpr c54
                have c54b1 : (t292 != 59) = false := bne_eq_false_iff_eq.mpr c54
                clear c54
                by_cases c55 : t284 = 59
                ·rw [if_pos c55] at H
                 have c55b0 : (t284 == 59) = true := beq_iff_eq.mpr c55
                 have c55b1 : (t284 != 59) = false := bne_eq_false_iff_eq.mpr c55
                 clear c55
                 have H' := Aside0.mk H
                 clear H
                 have hnb56 := NB303_278.out
                 have hnc56 := NB278_303.out
                 have hnb57 := NB303_287.out
                 have hnc57 := NB287_303.out
                 have hnb58 := NB303_295.out
                 have hnc58 := NB295_303.out
                 have hcz59_3 : w42.cell? ⟨gb303, 3, none⟩ = some (.int .i64 0) := (blk_cell BK303.out 3).trans rfl
                 have hcz59_4 : w42.cell? ⟨gb303, 4, none⟩ = some (.int .i64 0) := (blk_cell BK303.out 4).trans rfl
                 have hcz59_5 : w42.cell? ⟨gb303, 5, none⟩ = some (.int .i64 0) := (blk_cell BK303.out 5).trans rfl
                 have hfz59_3 := blk_frozen BK303.out 3
                 have hfz59_4 := blk_frozen BK303.out 4
                 have hfz59_5 := blk_frozen BK303.out 5
                 have hnb60 := NB295_278.out
                 have hnc60 := NB278_295.out
                 have hnb61 := NB295_287.out
                 have hnc61 := NB287_295.out
                 have hcz62_2 : w42.cell? ⟨gb295, 2, none⟩ = some (.int .i64 t290) := (blk_cell BK295.out 2).trans rfl
                 have hcz62_3 : w42.cell? ⟨gb295, 3, none⟩ = some (.int .i64 t291) := (blk_cell BK295.out 3).trans rfl
                 have hcz62_4 : w42.cell? ⟨gb295, 4, none⟩ = some (.int .i64 t292) := (blk_cell BK295.out 4).trans rfl
                 have hfz62_2 := blk_frozen BK295.out 2
                 have hfz62_3 := blk_frozen BK295.out 3
                 have hfz62_4 := blk_frozen BK295.out 4
                 have hnb63 := NB287_278.out
                 have hnc63 := NB278_287.out
                 have hcz64_2 : w42.cell? ⟨gb287, 2, none⟩ = some (.int .i64 t282) := (blk_cell BK287.out 2).trans rfl
                 have hcz64_4 : w42.cell? ⟨gb287, 4, none⟩ = some (.int .i64 t284) := (blk_cell BK287.out 4).trans rfl
                 have hfz64_2 := blk_frozen BK287.out 2
                 have hfz64_4 := blk_frozen BK287.out 4
                 go_wp2
                 go_meet
                 case rel => exact ⟨_, ((t282 != t290)), (by first | rfl | (simp; done) | (simp [*]; done) | (simp [Int.tdiv_eq_ediv_of_nonneg]; done) | (simp [Go.RowKit.wrap64]; done) | (simp [*, Go.RowKit.wrap64]; done)), H', ⟨by have := HJ4.out; first | omega | exact Nat.le_refl _⟩, ⟨by (with_reducible repeat (first | refine blk_drewN ?_ _ | refine blk_drew ?_ | refine blk_alloc ?_ _)); refine blk_far ?_ NB278_303.out _; (with_reducible repeat (first | refine blk_drewN ?_ _ | refine blk_drew ?_ | refine blk_alloc ?_ _)); refine blk_far ?_ NB278_303.out _; (with_reducible repeat (first | refine blk_drewN ?_ _ | refine blk_drew ?_ | refine blk_alloc ?_ _)); refine blk_far ?_ NB278_303.out _; (with_reducible repeat (first | refine blk_drewN ?_ _ | refine blk_drew ?_ | refine blk_alloc ?_ _)); refine blk_far ?_ NB278_303.out _; (with_reducible repeat (first | refine blk_drewN ?_ _ | refine blk_drew ?_ | refine blk_alloc ?_ _)); refine blk_far ?_ NB278_303.out _; (with_reducible repeat (first | refine blk_drewN ?_ _ | refine blk_drew ?_ | refine blk_alloc ?_ _)); refine blk_far ?_ NB278_303.out _; (with_reducible repeat (first | refine blk_drewN ?_ _ | refine blk_drew ?_ | refine blk_alloc ?_ _)); exact BK278.out⟩, ⟨by (with_reducible repeat (first | refine blk_drewN ?_ _ | refine blk_drew ?_ | refine blk_alloc ?_ _)); refine blk_far ?_ NB287_303.out _; (with_reducible repeat (first | refine blk_drewN ?_ _ | refine blk_drew ?_ | refine blk_alloc ?_ _)); refine blk_far ?_ NB287_303.out _; (with_reducible repeat (first | refine blk_drewN ?_ _ | refine blk_drew ?_ | refine blk_alloc ?_ _)); refine blk_far ?_ NB287_303.out _; (with_reducible repeat (first | refine blk_drewN ?_ _ | refine blk_drew ?_ | refine blk_alloc ?_ _)); refine blk_far ?_ NB287_303.out _; (with_reducible repeat (first | refine blk_drewN ?_ _ | refine blk_drew ?_ | refine blk_alloc ?_ _)); refine blk_far ?_ NB287_303.out _; (with_reducible repeat (first | refine blk_drewN ?_ _ | refine blk_drew ?_ | refine blk_alloc ?_ _)); refine blk_far ?_ NB287_303.out _; (with_reducible repeat (first | refine blk_drewN ?_ _ | refine blk_drew ?_ | refine blk_alloc ?_ _)); exact BK287.out⟩, ⟨by (with_reducible repeat (first | refine blk_drewN ?_ _ | refine blk_drew ?_ | refine blk_alloc ?_ _)); refine blk_far ?_ NB295_303.out _; (with_reducible repeat (first | refine blk_drewN ?_ _ | refine blk_drew ?_ | refine blk_alloc ?_ _)); refine blk_far ?_ NB295_303.out _; (with_reducible repeat (first | refine blk_drewN ?_ _ | refine blk_drew ?_ | refine blk_alloc ?_ _)); refine blk_far ?_ NB295_303.out _; (with_reducible repeat (first | refine blk_drewN ?_ _ | refine blk_drew ?_ | refine blk_alloc ?_ _)); refine blk_far ?_ NB295_303.out _; (with_reducible repeat (first | refine blk_drewN ?_ _ | refine blk_drew ?_ | refine blk_alloc ?_ _)); refine blk_far ?_ NB295_303.out _; (with_reducible repeat (first | refine blk_drewN ?_ _ | refine blk_drew ?_ | refine blk_alloc ?_ _)); refine blk_far ?_ NB295_303.out _; (with_reducible repeat (first | refine blk_drewN ?_ _ | refine blk_drew ?_ | refine blk_alloc ?_ _)); exact BK295.out⟩, ⟨by (with_reducible repeat (first | refine blk_drewN ?_ _ | refine blk_drew ?_ | refine blk_alloc ?_ _)); refine blk_put (cs := #[.int .i64 t296, .int .i64 t297, .int .i64 t298, .int .i64 t299, .int .i64 t300, .int .i64 0]) ?_ 5 _ rfl; (with_reducible repeat (first | refine blk_drewN ?_ _ | refine blk_drew ?_ | refine blk_alloc ?_ _)); refine blk_put (cs := #[.int .i64 t296, .int .i64 t297, .int .i64 t298, .int .i64 t299, .int .i64 0, .int .i64 0]) ?_ 4 _ rfl; (with_reducible repeat (first | refine blk_drewN ?_ _ | refine blk_drew ?_ | refine blk_alloc ?_ _)); refine blk_put (cs := #[.int .i64 t296, .int .i64 t297, .int .i64 t298, .int .i64 0, .int .i64 0, .int .i64 0]) ?_ 3 _ rfl; (with_reducible repeat (first | refine blk_drewN ?_ _ | refine blk_drew ?_ | refine blk_alloc ?_ _)); refine blk_put (cs := #[.int .i64 t296, .int .i64 t297, .int .i64 0, .int .i64 0, .int .i64 0, .int .i64 0]) ?_ 2 _ rfl; (with_reducible repeat (first | refine blk_drewN ?_ _ | refine blk_drew ?_ | refine blk_alloc ?_ _)); refine blk_put (cs := #[.int .i64 t296, .int .i64 0, .int .i64 0, .int .i64 0, .int .i64 0, .int .i64 0]) ?_ 1 _ rfl; (with_reducible repeat (first | refine blk_drewN ?_ _ | refine blk_drew ?_ | refine blk_alloc ?_ _)); refine blk_put (cs := #[.int .i64 0, .int .i64 0, .int .i64 0, .int .i64 0, .int .i64 0, .int .i64 0]) ?_ 0 _ rfl; (with_reducible repeat (first | refine blk_drewN ?_ _ | refine blk_drew ?_ | refine blk_alloc ?_ _)); exact BK303.out⟩, ⟨by repeat (first | (with_reducible first | exact HB.out | apply below_alloc | apply pw_below_drewN | apply below_drew1 | refine below_set ?_ GE278.out | refine below_set ?_ GE287.out | refine below_set ?_ GE295.out | refine below_set ?_ GE303.out) | exact HB.out)⟩⟩
                ·rw [if_neg c55] at H
                 have c55b0 : (t284 == 59) = false := beq_eq_false_iff_ne.mpr c55
                 have c55b1 : (t284 != 59) = true := bne_iff_ne.mpr c55
                 have H' := Aside0.mk H
                 clear H
                 have hnb65 := NB303_278.out
                 have hnc65 := NB278_303.out
                 have hnb66 := NB303_287.out
                 have hnc66 := NB287_303.out
                 have hnb67 := NB303_295.out
                 have hnc67 := NB295_303.out
                 have hcz68_3 : w42.cell? ⟨gb303, 3, none⟩ = some (.int .i64 0) := (blk_cell BK303.out 3).trans rfl
                 have hcz68_4 : w42.cell? ⟨gb303, 4, none⟩ = some (.int .i64 0) := (blk_cell BK303.out 4).trans rfl
                 have hcz68_5 : w42.cell? ⟨gb303, 5, none⟩ = some (.int .i64 0) := (blk_cell BK303.out 5).trans rfl
                 have hfz68_3 := blk_frozen BK303.out 3
                 have hfz68_4 := blk_frozen BK303.out 4
                 have hfz68_5 := blk_frozen BK303.out 5
                 have hnb69 := NB295_278.out
                 have hnc69 := NB278_295.out
                 have hnb70 := NB295_287.out
                 have hnc70 := NB287_295.out
                 have hcz71_3 : w42.cell? ⟨gb295, 3, none⟩ = some (.int .i64 t291) := (blk_cell BK295.out 3).trans rfl
                 have hcz71_4 : w42.cell? ⟨gb295, 4, none⟩ = some (.int .i64 t292) := (blk_cell BK295.out 4).trans rfl
                 have hfz71_3 := blk_frozen BK295.out 3
                 have hfz71_4 := blk_frozen BK295.out 4
                 have hnb72 := NB287_278.out
                 have hnc72 := NB278_287.out
                 have hcz73_4 : w42.cell? ⟨gb287, 4, none⟩ = some (.int .i64 t284) := (blk_cell BK287.out 4).trans rfl
                 have hfz73_4 := blk_frozen BK287.out 4
                 go_wp2
                 go_meet
                 case rel => exact ⟨_, (true), (by first | rfl | (simp; done) | (simp [*]; done) | (simp [Int.tdiv_eq_ediv_of_nonneg]; done) | (simp [Go.RowKit.wrap64]; done) | (simp [*, Go.RowKit.wrap64]; done)), H', ⟨by have := HJ4.out; first | omega | exact Nat.le_refl _⟩, ⟨by (with_reducible repeat (first | refine blk_drewN ?_ _ | refine blk_drew ?_ | refine blk_alloc ?_ _)); refine blk_far ?_ NB278_303.out _; (with_reducible repeat (first | refine blk_drewN ?_ _ | refine blk_drew ?_ | refine blk_alloc ?_ _)); refine blk_far ?_ NB278_303.out _; (with_reducible repeat (first | refine blk_drewN ?_ _ | refine blk_drew ?_ | refine blk_alloc ?_ _)); refine blk_far ?_ NB278_303.out _; (with_reducible repeat (first | refine blk_drewN ?_ _ | refine blk_drew ?_ | refine blk_alloc ?_ _)); refine blk_far ?_ NB278_303.out _; (with_reducible repeat (first | refine blk_drewN ?_ _ | refine blk_drew ?_ | refine blk_alloc ?_ _)); refine blk_far ?_ NB278_303.out _; (with_reducible repeat (first | refine blk_drewN ?_ _ | refine blk_drew ?_ | refine blk_alloc ?_ _)); refine blk_far ?_ NB278_303.out _; (with_reducible repeat (first | refine blk_drewN ?_ _ | refine blk_drew ?_ | refine blk_alloc ?_ _)); exact BK278.out⟩, ⟨by (with_reducible repeat (first | refine blk_drewN ?_ _ | refine blk_drew ?_ | refine blk_alloc ?_ _)); refine blk_far ?_ NB287_303.out _; (with_reducible repeat (first | refine blk_drewN ?_ _ | refine blk_drew ?_ | refine blk_alloc ?_ _)); refine blk_far ?_ NB287_303.out _; (with_reducible repeat (first | refine blk_drewN ?_ _ | refine blk_drew ?_ | refine blk_alloc ?_ _)); refine blk_far ?_ NB287_303.out _; (with_reducible repeat (first | refine blk_drewN ?_ _ | refine blk_drew ?_ | refine blk_alloc ?_ _)); refine blk_far ?_ NB287_303.out _; (with_reducible repeat (first | refine blk_drewN ?_ _ | refine blk_drew ?_ | refine blk_alloc ?_ _)); refine blk_far ?_ NB287_303.out _; (with_reducible repeat (first | refine blk_drewN ?_ _ | refine blk_drew ?_ | refine blk_alloc ?_ _)); refine blk_far ?_ NB287_303.out _; (with_reducible repeat (first | refine blk_drewN ?_ _ | refine blk_drew ?_ | refine blk_alloc ?_ _)); exact BK287.out⟩, ⟨by (with_reducible repeat (first | refine blk_drewN ?_ _ | refine blk_drew ?_ | refine blk_alloc ?_ _)); refine blk_far ?_ NB295_303.out _; (with_reducible repeat (first | refine blk_drewN ?_ _ | refine blk_drew ?_ | refine blk_alloc ?_ _)); refine blk_far ?_ NB295_303.out _; (with_reducible repeat (first | refine blk_drewN ?_ _ | refine blk_drew ?_ | refine blk_alloc ?_ _)); refine blk_far ?_ NB295_303.out _; (with_reducible repeat (first | refine blk_drewN ?_ _ | refine blk_drew ?_ | refine blk_alloc ?_ _)); refine blk_far ?_ NB295_303.out _; (with_reducible repeat (first | refine blk_drewN ?_ _ | refine blk_drew ?_ | refine blk_alloc ?_ _)); refine blk_far ?_ NB295_303.out _; (with_reducible repeat (first | refine blk_drewN ?_ _ | refine blk_drew ?_ | refine blk_alloc ?_ _)); refine blk_far ?_ NB295_303.out _; (with_reducible repeat (first | refine blk_drewN ?_ _ | refine blk_drew ?_ | refine blk_alloc ?_ _)); exact BK295.out⟩, ⟨by (with_reducible repeat (first | refine blk_drewN ?_ _ | refine blk_drew ?_ | refine blk_alloc ?_ _)); refine blk_put (cs := #[.int .i64 t296, .int .i64 t297, .int .i64 t298, .int .i64 t299, .int .i64 t300, .int .i64 0]) ?_ 5 _ rfl; (with_reducible repeat (first | refine blk_drewN ?_ _ | refine blk_drew ?_ | refine blk_alloc ?_ _)); refine blk_put (cs := #[.int .i64 t296, .int .i64 t297, .int .i64 t298, .int .i64 t299, .int .i64 0, .int .i64 0]) ?_ 4 _ rfl; (with_reducible repeat (first | refine blk_drewN ?_ _ | refine blk_drew ?_ | refine blk_alloc ?_ _)); refine blk_put (cs := #[.int .i64 t296, .int .i64 t297, .int .i64 t298, .int .i64 0, .int .i64 0, .int .i64 0]) ?_ 3 _ rfl; (with_reducible repeat (first | refine blk_drewN ?_ _ | refine blk_drew ?_ | refine blk_alloc ?_ _)); refine blk_put (cs := #[.int .i64 t296, .int .i64 t297, .int .i64 0, .int .i64 0, .int .i64 0, .int .i64 0]) ?_ 2 _ rfl; (with_reducible repeat (first | refine blk_drewN ?_ _ | refine blk_drew ?_ | refine blk_alloc ?_ _)); refine blk_put (cs := #[.int .i64 t296, .int .i64 0, .int .i64 0, .int .i64 0, .int .i64 0, .int .i64 0]) ?_ 1 _ rfl; (with_reducible repeat (first | refine blk_drewN ?_ _ | refine blk_drew ?_ | refine blk_alloc ?_ _)); refine blk_put (cs := #[.int .i64 0, .int .i64 0, .int .i64 0, .int .i64 0, .int .i64 0, .int .i64 0]) ?_ 0 _ rfl; (with_reducible repeat (first | refine blk_drewN ?_ _ | refine blk_drew ?_ | refine blk_alloc ?_ _)); exact BK303.out⟩, ⟨by repeat (first | (with_reducible first | exact HB.out | apply below_alloc | apply pw_below_drewN | apply below_drew1 | refine below_set ?_ GE278.out | refine below_set ?_ GE287.out | refine below_set ?_ GE295.out | refine below_set ?_ GE303.out) | exact HB.out)⟩⟩
               ·rw [if_neg c54] at H
                have c54b0 : (t292 == 59) = false := beq_eq_false_iff_ne.mpr c54
                have c54b1 : (t292 != 59) = true := bne_iff_ne.mpr c54
                have H' := Aside0.mk H
                clear H
                have hnb74 := NB303_278.out
                have hnc74 := NB278_303.out
                have hnb75 := NB303_287.out
                have hnc75 := NB287_303.out
                have hnb76 := NB303_295.out
                have hnc76 := NB295_303.out
                have hcz77_3 : w42.cell? ⟨gb303, 3, none⟩ = some (.int .i64 0) := (blk_cell BK303.out 3).trans rfl
                have hcz77_4 : w42.cell? ⟨gb303, 4, none⟩ = some (.int .i64 0) := (blk_cell BK303.out 4).trans rfl
                have hcz77_5 : w42.cell? ⟨gb303, 5, none⟩ = some (.int .i64 0) := (blk_cell BK303.out 5).trans rfl
                have hfz77_3 := blk_frozen BK303.out 3
                have hfz77_4 := blk_frozen BK303.out 4
                have hfz77_5 := blk_frozen BK303.out 5
                have hnb78 := NB295_278.out
                have hnc78 := NB278_295.out
                have hnb79 := NB295_287.out
                have hnc79 := NB287_295.out
                have hcz80_3 : w42.cell? ⟨gb295, 3, none⟩ = some (.int .i64 t291) := (blk_cell BK295.out 3).trans rfl
                have hcz80_4 : w42.cell? ⟨gb295, 4, none⟩ = some (.int .i64 t292) := (blk_cell BK295.out 4).trans rfl
                have hfz80_3 := blk_frozen BK295.out 3
                have hfz80_4 := blk_frozen BK295.out 4
                go_wp2
                go_meet
                case rel => exact ⟨_, (true), (by first | rfl | (simp; done) | (simp [*]; done) | (simp [Int.tdiv_eq_ediv_of_nonneg]; done) | (simp [Go.RowKit.wrap64]; done) | (simp [*, Go.RowKit.wrap64]; done)), H', ⟨by have := HJ4.out; first | omega | exact Nat.le_refl _⟩, ⟨by (with_reducible repeat (first | refine blk_drewN ?_ _ | refine blk_drew ?_ | refine blk_alloc ?_ _)); refine blk_far ?_ NB278_303.out _; (with_reducible repeat (first | refine blk_drewN ?_ _ | refine blk_drew ?_ | refine blk_alloc ?_ _)); refine blk_far ?_ NB278_303.out _; (with_reducible repeat (first | refine blk_drewN ?_ _ | refine blk_drew ?_ | refine blk_alloc ?_ _)); refine blk_far ?_ NB278_303.out _; (with_reducible repeat (first | refine blk_drewN ?_ _ | refine blk_drew ?_ | refine blk_alloc ?_ _)); refine blk_far ?_ NB278_303.out _; (with_reducible repeat (first | refine blk_drewN ?_ _ | refine blk_drew ?_ | refine blk_alloc ?_ _)); refine blk_far ?_ NB278_303.out _; (with_reducible repeat (first | refine blk_drewN ?_ _ | refine blk_drew ?_ | refine blk_alloc ?_ _)); refine blk_far ?_ NB278_303.out _; (with_reducible repeat (first | refine blk_drewN ?_ _ | refine blk_drew ?_ | refine blk_alloc ?_ _)); exact BK278.out⟩, ⟨by (with_reducible repeat (first | refine blk_drewN ?_ _ | refine blk_drew ?_ | refine blk_alloc ?_ _)); refine blk_far ?_ NB287_303.out _; (with_reducible repeat (first | refine blk_drewN ?_ _ | refine blk_drew ?_ | refine blk_alloc ?_ _)); refine blk_far ?_ NB287_303.out _; (with_reducible repeat (first | refine blk_drewN ?_ _ | refine blk_drew ?_ | refine blk_alloc ?_ _)); refine blk_far ?_ NB287_303.out _; (with_reducible repeat (first | refine blk_drewN ?_ _ | refine blk_drew ?_ | refine blk_alloc ?_ _)); refine blk_far ?_ NB287_303.out _; (with_reducible repeat (first | refine blk_drewN ?_ _ | refine blk_drew ?_ | refine blk_alloc ?_ _)); refine blk_far ?_ NB287_303.out _; (with_reducible repeat (first | refine blk_drewN ?_ _ | refine blk_drew ?_ | refine blk_alloc ?_ _)); refine blk_far ?_ NB287_303.out _; (with_reducible repeat (first | refine blk_drewN ?_ _ | refine blk_drew ?_ | refine blk_alloc ?_ _)); exact BK287.out⟩, ⟨by (with_reducible repeat (first | refine blk_drewN ?_ _ | refine blk_drew ?_ | refine blk_alloc ?_ _)); refine blk_far ?_ NB295_303.out _; (with_reducible repeat (first | refine blk_drewN ?_ _ | refine blk_drew ?_ | refine blk_alloc ?_ _)); refine blk_far ?_ NB295_303.out _; (with_reducible repeat (first | refine blk_drewN ?_ _ | refine blk_drew ?_ | refine blk_alloc ?_ _)); refine blk_far ?_ NB295_303.out _; (with_reducible repeat (first | refine blk_drewN ?_ _ | refine blk_drew ?_ | refine blk_alloc ?_ _)); refine blk_far ?_ NB295_303.out _; (with_reducible repeat (first | refine blk_drewN ?_ _ | refine blk_drew ?_ | refine blk_alloc ?_ _)); refine blk_far ?_ NB295_303.out _; (with_reducible repeat (first | refine blk_drewN ?_ _ | refine blk_drew ?_ | refine blk_alloc ?_ _)); refine blk_far ?_ NB295_303.out _; (with_reducible repeat (first | refine blk_drewN ?_ _ | refine blk_drew ?_ | refine blk_alloc ?_ _)); exact BK295.out⟩, ⟨by (with_reducible repeat (first | refine blk_drewN ?_ _ | refine blk_drew ?_ | refine blk_alloc ?_ _)); refine blk_put (cs := #[.int .i64 t296, .int .i64 t297, .int .i64 t298, .int .i64 t299, .int .i64 t300, .int .i64 0]) ?_ 5 _ rfl; (with_reducible repeat (first | refine blk_drewN ?_ _ | refine blk_drew ?_ | refine blk_alloc ?_ _)); refine blk_put (cs := #[.int .i64 t296, .int .i64 t297, .int .i64 t298, .int .i64 t299, .int .i64 0, .int .i64 0]) ?_ 4 _ rfl; (with_reducible repeat (first | refine blk_drewN ?_ _ | refine blk_drew ?_ | refine blk_alloc ?_ _)); refine blk_put (cs := #[.int .i64 t296, .int .i64 t297, .int .i64 t298, .int .i64 0, .int .i64 0, .int .i64 0]) ?_ 3 _ rfl; (with_reducible repeat (first | refine blk_drewN ?_ _ | refine blk_drew ?_ | refine blk_alloc ?_ _)); refine blk_put (cs := #[.int .i64 t296, .int .i64 t297, .int .i64 0, .int .i64 0, .int .i64 0, .int .i64 0]) ?_ 2 _ rfl; (with_reducible repeat (first | refine blk_drewN ?_ _ | refine blk_drew ?_ | refine blk_alloc ?_ _)); refine blk_put (cs := #[.int .i64 t296, .int .i64 0, .int .i64 0, .int .i64 0, .int .i64 0, .int .i64 0]) ?_ 1 _ rfl; (with_reducible repeat (first | refine blk_drewN ?_ _ | refine blk_drew ?_ | refine blk_alloc ?_ _)); refine blk_put (cs := #[.int .i64 0, .int .i64 0, .int .i64 0, .int .i64 0, .int .i64 0, .int .i64 0]) ?_ 0 _ rfl; (with_reducible repeat (first | refine blk_drewN ?_ _ | refine blk_drew ?_ | refine blk_alloc ?_ _)); exact BK303.out⟩, ⟨by repeat (first | (with_reducible first | exact HB.out | apply below_alloc | apply pw_below_drewN | apply below_drew1 | refine below_set ?_ GE278.out | refine below_set ?_ GE287.out | refine below_set ?_ GE295.out | refine below_set ?_ GE303.out) | exact HB.out)⟩⟩
              ·rw [if_neg c53] at H
               have c53b0 : (t291 == 23) = false := beq_eq_false_iff_ne.mpr c53
               have c53b1 : (t291 != 23) = true := bne_iff_ne.mpr c53
               have H' := Aside0.mk H
               clear H
               have hnb81 := NB303_278.out
               have hnc81 := NB278_303.out
               have hnb82 := NB303_287.out
               have hnc82 := NB287_303.out
               have hnb83 := NB303_295.out
               have hnc83 := NB295_303.out
               have hcz84_3 : w42.cell? ⟨gb303, 3, none⟩ = some (.int .i64 0) := (blk_cell BK303.out 3).trans rfl
               have hcz84_4 : w42.cell? ⟨gb303, 4, none⟩ = some (.int .i64 0) := (blk_cell BK303.out 4).trans rfl
               have hcz84_5 : w42.cell? ⟨gb303, 5, none⟩ = some (.int .i64 0) := (blk_cell BK303.out 5).trans rfl
               have hfz84_3 := blk_frozen BK303.out 3
               have hfz84_4 := blk_frozen BK303.out 4
               have hfz84_5 := blk_frozen BK303.out 5
               have hnb85 := NB295_278.out
               have hnc85 := NB278_295.out
               have hnb86 := NB295_287.out
               have hnc86 := NB287_295.out
               have hcz87_3 : w42.cell? ⟨gb295, 3, none⟩ = some (.int .i64 t291) := (blk_cell BK295.out 3).trans rfl
               have hfz87_3 := blk_frozen BK295.out 3
               go_wp2
               go_meet
               case rel => exact ⟨_, (true), (by first | rfl | (simp; done) | (simp [*]; done) | (simp [Int.tdiv_eq_ediv_of_nonneg]; done) | (simp [Go.RowKit.wrap64]; done) | (simp [*, Go.RowKit.wrap64]; done)), H', ⟨by have := HJ4.out; first | omega | exact Nat.le_refl _⟩, ⟨by (with_reducible repeat (first | refine blk_drewN ?_ _ | refine blk_drew ?_ | refine blk_alloc ?_ _)); refine blk_far ?_ NB278_303.out _; (with_reducible repeat (first | refine blk_drewN ?_ _ | refine blk_drew ?_ | refine blk_alloc ?_ _)); refine blk_far ?_ NB278_303.out _; (with_reducible repeat (first | refine blk_drewN ?_ _ | refine blk_drew ?_ | refine blk_alloc ?_ _)); refine blk_far ?_ NB278_303.out _; (with_reducible repeat (first | refine blk_drewN ?_ _ | refine blk_drew ?_ | refine blk_alloc ?_ _)); refine blk_far ?_ NB278_303.out _; (with_reducible repeat (first | refine blk_drewN ?_ _ | refine blk_drew ?_ | refine blk_alloc ?_ _)); refine blk_far ?_ NB278_303.out _; (with_reducible repeat (first | refine blk_drewN ?_ _ | refine blk_drew ?_ | refine blk_alloc ?_ _)); refine blk_far ?_ NB278_303.out _; (with_reducible repeat (first | refine blk_drewN ?_ _ | refine blk_drew ?_ | refine blk_alloc ?_ _)); exact BK278.out⟩, ⟨by (with_reducible repeat (first | refine blk_drewN ?_ _ | refine blk_drew ?_ | refine blk_alloc ?_ _)); refine blk_far ?_ NB287_303.out _; (with_reducible repeat (first | refine blk_drewN ?_ _ | refine blk_drew ?_ | refine blk_alloc ?_ _)); refine blk_far ?_ NB287_303.out _; (with_reducible repeat (first | refine blk_drewN ?_ _ | refine blk_drew ?_ | refine blk_alloc ?_ _)); refine blk_far ?_ NB287_303.out _; (with_reducible repeat (first | refine blk_drewN ?_ _ | refine blk_drew ?_ | refine blk_alloc ?_ _)); refine blk_far ?_ NB287_303.out _; (with_reducible repeat (first | refine blk_drewN ?_ _ | refine blk_drew ?_ | refine blk_alloc ?_ _)); refine blk_far ?_ NB287_303.out _; (with_reducible repeat (first | refine blk_drewN ?_ _ | refine blk_drew ?_ | refine blk_alloc ?_ _)); refine blk_far ?_ NB287_303.out _; (with_reducible repeat (first | refine blk_drewN ?_ _ | refine blk_drew ?_ | refine blk_alloc ?_ _)); exact BK287.out⟩, ⟨by (with_reducible repeat (first | refine blk_drewN ?_ _ | refine blk_drew ?_ | refine blk_alloc ?_ _)); refine blk_far ?_ NB295_303.out _; (with_reducible repeat (first | refine blk_drewN ?_ _ | refine blk_drew ?_ | refine blk_alloc ?_ _)); refine blk_far ?_ NB295_303.out _; (with_reducible repeat (first | refine blk_drewN ?_ _ | refine blk_drew ?_ | refine blk_alloc ?_ _)); refine blk_far ?_ NB295_303.out _; (with_reducible repeat (first | refine blk_drewN ?_ _ | refine blk_drew ?_ | refine blk_alloc ?_ _)); refine blk_far ?_ NB295_303.out _; (with_reducible repeat (first | refine blk_drewN ?_ _ | refine blk_drew ?_ | refine blk_alloc ?_ _)); refine blk_far ?_ NB295_303.out _; (with_reducible repeat (first | refine blk_drewN ?_ _ | refine blk_drew ?_ | refine blk_alloc ?_ _)); refine blk_far ?_ NB295_303.out _; (with_reducible repeat (first | refine blk_drewN ?_ _ | refine blk_drew ?_ | refine blk_alloc ?_ _)); exact BK295.out⟩, ⟨by (with_reducible repeat (first | refine blk_drewN ?_ _ | refine blk_drew ?_ | refine blk_alloc ?_ _)); refine blk_put (cs := #[.int .i64 t296, .int .i64 t297, .int .i64 t298, .int .i64 t299, .int .i64 t300, .int .i64 0]) ?_ 5 _ rfl; (with_reducible repeat (first | refine blk_drewN ?_ _ | refine blk_drew ?_ | refine blk_alloc ?_ _)); refine blk_put (cs := #[.int .i64 t296, .int .i64 t297, .int .i64 t298, .int .i64 t299, .int .i64 0, .int .i64 0]) ?_ 4 _ rfl; (with_reducible repeat (first | refine blk_drewN ?_ _ | refine blk_drew ?_ | refine blk_alloc ?_ _)); refine blk_put (cs := #[.int .i64 t296, .int .i64 t297, .int .i64 t298, .int .i64 0, .int .i64 0, .int .i64 0]) ?_ 3 _ rfl; (with_reducible repeat (first | refine blk_drewN ?_ _ | refine blk_drew ?_ | refine blk_alloc ?_ _)); refine blk_put (cs := #[.int .i64 t296, .int .i64 t297, .int .i64 0, .int .i64 0, .int .i64 0, .int .i64 0]) ?_ 2 _ rfl; (with_reducible repeat (first | refine blk_drewN ?_ _ | refine blk_drew ?_ | refine blk_alloc ?_ _)); refine blk_put (cs := #[.int .i64 t296, .int .i64 0, .int .i64 0, .int .i64 0, .int .i64 0, .int .i64 0]) ?_ 1 _ rfl; (with_reducible repeat (first | refine blk_drewN ?_ _ | refine blk_drew ?_ | refine blk_alloc ?_ _)); refine blk_put (cs := #[.int .i64 0, .int .i64 0, .int .i64 0, .int .i64 0, .int .i64 0, .int .i64 0]) ?_ 0 _ rfl; (with_reducible repeat (first | refine blk_drewN ?_ _ | refine blk_drew ?_ | refine blk_alloc ?_ _)); exact BK303.out⟩, ⟨by repeat (first | (with_reducible first | exact HB.out | apply below_alloc | apply pw_below_drewN | apply below_drew1 | refine below_set ?_ GE278.out | refine below_set ?_ GE287.out | refine below_set ?_ GE295.out | refine below_set ?_ GE303.out) | exact HB.out)⟩⟩
             ·rw [if_neg c52] at H
              have c52b0 : (t301 == 0) = false := beq_eq_false_iff_ne.mpr c52
              have c52b1 : (t301 != 0) = true := bne_iff_ne.mpr c52
              have H' := Aside0.mk H
              clear H
              have hnb88 := NB303_278.out
              have hnc88 := NB278_303.out
              have hnb89 := NB303_287.out
              have hnc89 := NB287_303.out
              have hnb90 := NB303_295.out
              have hnc90 := NB295_303.out
              have hcz91_3 : w42.cell? ⟨gb303, 3, none⟩ = some (.int .i64 0) := (blk_cell BK303.out 3).trans rfl
              have hcz91_4 : w42.cell? ⟨gb303, 4, none⟩ = some (.int .i64 0) := (blk_cell BK303.out 4).trans rfl
              have hcz91_5 : w42.cell? ⟨gb303, 5, none⟩ = some (.int .i64 0) := (blk_cell BK303.out 5).trans rfl
              have hfz91_3 := blk_frozen BK303.out 3
              have hfz91_4 := blk_frozen BK303.out 4
              have hfz91_5 := blk_frozen BK303.out 5
              go_wp2
              go_meet
              case rel => exact ⟨_, (true), (by first | rfl | (simp; done) | (simp [*]; done) | (simp [Int.tdiv_eq_ediv_of_nonneg]; done) | (simp [Go.RowKit.wrap64]; done) | (simp [*, Go.RowKit.wrap64]; done)), H', ⟨by have := HJ4.out; first | omega | exact Nat.le_refl _⟩, ⟨by (with_reducible repeat (first | refine blk_drewN ?_ _ | refine blk_drew ?_ | refine blk_alloc ?_ _)); refine blk_far ?_ NB278_303.out _; (with_reducible repeat (first | refine blk_drewN ?_ _ | refine blk_drew ?_ | refine blk_alloc ?_ _)); refine blk_far ?_ NB278_303.out _; (with_reducible repeat (first | refine blk_drewN ?_ _ | refine blk_drew ?_ | refine blk_alloc ?_ _)); refine blk_far ?_ NB278_303.out _; (with_reducible repeat (first | refine blk_drewN ?_ _ | refine blk_drew ?_ | refine blk_alloc ?_ _)); refine blk_far ?_ NB278_303.out _; (with_reducible repeat (first | refine blk_drewN ?_ _ | refine blk_drew ?_ | refine blk_alloc ?_ _)); refine blk_far ?_ NB278_303.out _; (with_reducible repeat (first | refine blk_drewN ?_ _ | refine blk_drew ?_ | refine blk_alloc ?_ _)); refine blk_far ?_ NB278_303.out _; (with_reducible repeat (first | refine blk_drewN ?_ _ | refine blk_drew ?_ | refine blk_alloc ?_ _)); exact BK278.out⟩, ⟨by (with_reducible repeat (first | refine blk_drewN ?_ _ | refine blk_drew ?_ | refine blk_alloc ?_ _)); refine blk_far ?_ NB287_303.out _; (with_reducible repeat (first | refine blk_drewN ?_ _ | refine blk_drew ?_ | refine blk_alloc ?_ _)); refine blk_far ?_ NB287_303.out _; (with_reducible repeat (first | refine blk_drewN ?_ _ | refine blk_drew ?_ | refine blk_alloc ?_ _)); refine blk_far ?_ NB287_303.out _; (with_reducible repeat (first | refine blk_drewN ?_ _ | refine blk_drew ?_ | refine blk_alloc ?_ _)); refine blk_far ?_ NB287_303.out _; (with_reducible repeat (first | refine blk_drewN ?_ _ | refine blk_drew ?_ | refine blk_alloc ?_ _)); refine blk_far ?_ NB287_303.out _; (with_reducible repeat (first | refine blk_drewN ?_ _ | refine blk_drew ?_ | refine blk_alloc ?_ _)); refine blk_far ?_ NB287_303.out _; (with_reducible repeat (first | refine blk_drewN ?_ _ | refine blk_drew ?_ | refine blk_alloc ?_ _)); exact BK287.out⟩, ⟨by (with_reducible repeat (first | refine blk_drewN ?_ _ | refine blk_drew ?_ | refine blk_alloc ?_ _)); refine blk_far ?_ NB295_303.out _; (with_reducible repeat (first | refine blk_drewN ?_ _ | refine blk_drew ?_ | refine blk_alloc ?_ _)); refine blk_far ?_ NB295_303.out _; (with_reducible repeat (first | refine blk_drewN ?_ _ | refine blk_drew ?_ | refine blk_alloc ?_ _)); refine blk_far ?_ NB295_303.out _; (with_reducible repeat (first | refine blk_drewN ?_ _ | refine blk_drew ?_ | refine blk_alloc ?_ _)); refine blk_far ?_ NB295_303.out _; (with_reducible repeat (first | refine blk_drewN ?_ _ | refine blk_drew ?_ | refine blk_alloc ?_ _)); refine blk_far ?_ NB295_303.out _; (with_reducible repeat (first | refine blk_drewN ?_ _ | refine blk_drew ?_ | refine blk_alloc ?_ _)); refine blk_far ?_ NB295_303.out _; (with_reducible repeat (first | refine blk_drewN ?_ _ | refine blk_drew ?_ | refine blk_alloc ?_ _)); exact BK295.out⟩, ⟨by (with_reducible repeat (first | refine blk_drewN ?_ _ | refine blk_drew ?_ | refine blk_alloc ?_ _)); refine blk_put (cs := #[.int .i64 t296, .int .i64 t297, .int .i64 t298, .int .i64 t299, .int .i64 t300, .int .i64 0]) ?_ 5 _ rfl; (with_reducible repeat (first | refine blk_drewN ?_ _ | refine blk_drew ?_ | refine blk_alloc ?_ _)); refine blk_put (cs := #[.int .i64 t296, .int .i64 t297, .int .i64 t298, .int .i64 t299, .int .i64 0, .int .i64 0]) ?_ 4 _ rfl; (with_reducible repeat (first | refine blk_drewN ?_ _ | refine blk_drew ?_ | refine blk_alloc ?_ _)); refine blk_put (cs := #[.int .i64 t296, .int .i64 t297, .int .i64 t298, .int .i64 0, .int .i64 0, .int .i64 0]) ?_ 3 _ rfl; (with_reducible repeat (first | refine blk_drewN ?_ _ | refine blk_drew ?_ | refine blk_alloc ?_ _)); refine blk_put (cs := #[.int .i64 t296, .int .i64 t297, .int .i64 0, .int .i64 0, .int .i64 0, .int .i64 0]) ?_ 2 _ rfl; (with_reducible repeat (first | refine blk_drewN ?_ _ | refine blk_drew ?_ | refine blk_alloc ?_ _)); refine blk_put (cs := #[.int .i64 t296, .int .i64 0, .int .i64 0, .int .i64 0, .int .i64 0, .int .i64 0]) ?_ 1 _ rfl; (with_reducible repeat (first | refine blk_drewN ?_ _ | refine blk_drew ?_ | refine blk_alloc ?_ _)); refine blk_put (cs := #[.int .i64 0, .int .i64 0, .int .i64 0, .int .i64 0, .int .i64 0, .int .i64 0]) ?_ 0 _ rfl; (with_reducible repeat (first | refine blk_drewN ?_ _ | refine blk_drew ?_ | refine blk_alloc ?_ _)); exact BK303.out⟩, ⟨by repeat (first | (with_reducible first | exact HB.out | apply below_alloc | apply pw_below_drewN | apply below_drew1 | refine below_set ?_ GE278.out | refine below_set ?_ GE287.out | refine below_set ?_ GE295.out | refine below_set ?_ GE303.out) | exact HB.out)⟩⟩
            ·rw [if_neg c51] at H
             have c51b0 : (t300 == 0) = false := beq_eq_false_iff_ne.mpr c51
             have c51b1 : (t300 != 0) = true := bne_iff_ne.mpr c51
             have H' := Aside0.mk H
             clear H
             have hnb92 := NB303_278.out
             have hnc92 := NB278_303.out
             have hnb93 := NB303_287.out
             have hnc93 := NB287_303.out
             have hnb94 := NB303_295.out
             have hnc94 := NB295_303.out
             have hcz95_3 : w42.cell? ⟨gb303, 3, none⟩ = some (.int .i64 0) := (blk_cell BK303.out 3).trans rfl
             have hcz95_4 : w42.cell? ⟨gb303, 4, none⟩ = some (.int .i64 0) := (blk_cell BK303.out 4).trans rfl
             have hfz95_3 := blk_frozen BK303.out 3
             have hfz95_4 := blk_frozen BK303.out 4
             go_wp2
             go_meet
             case rel => exact ⟨_, (true), (by first | rfl | (simp; done) | (simp [*]; done) | (simp [Int.tdiv_eq_ediv_of_nonneg]; done) | (simp [Go.RowKit.wrap64]; done) | (simp [*, Go.RowKit.wrap64]; done)), H', ⟨by have := HJ4.out; first | omega | exact Nat.le_refl _⟩, ⟨by (with_reducible repeat (first | refine blk_drewN ?_ _ | refine blk_drew ?_ | refine blk_alloc ?_ _)); refine blk_far ?_ NB278_303.out _; (with_reducible repeat (first | refine blk_drewN ?_ _ | refine blk_drew ?_ | refine blk_alloc ?_ _)); refine blk_far ?_ NB278_303.out _; (with_reducible repeat (first | refine blk_drewN ?_ _ | refine blk_drew ?_ | refine blk_alloc ?_ _)); refine blk_far ?_ NB278_303.out _; (with_reducible repeat (first | refine blk_drewN ?_ _ | refine blk_drew ?_ | refine blk_alloc ?_ _)); refine blk_far ?_ NB278_303.out _; (with_reducible repeat (first | refine blk_drewN ?_ _ | refine blk_drew ?_ | refine blk_alloc ?_ _)); refine blk_far ?_ NB278_303.out _; (with_reducible repeat (first | refine blk_drewN ?_ _ | refine blk_drew ?_ | refine blk_alloc ?_ _)); refine blk_far ?_ NB278_303.out _; (with_reducible repeat (first | refine blk_drewN ?_ _ | refine blk_drew ?_ | refine blk_alloc ?_ _)); exact BK278.out⟩, ⟨by (with_reducible repeat (first | refine blk_drewN ?_ _ | refine blk_drew ?_ | refine blk_alloc ?_ _)); refine blk_far ?_ NB287_303.out _; (with_reducible repeat (first | refine blk_drewN ?_ _ | refine blk_drew ?_ | refine blk_alloc ?_ _)); refine blk_far ?_ NB287_303.out _; (with_reducible repeat (first | refine blk_drewN ?_ _ | refine blk_drew ?_ | refine blk_alloc ?_ _)); refine blk_far ?_ NB287_303.out _; (with_reducible repeat (first | refine blk_drewN ?_ _ | refine blk_drew ?_ | refine blk_alloc ?_ _)); refine blk_far ?_ NB287_303.out _; (with_reducible repeat (first | refine blk_drewN ?_ _ | refine blk_drew ?_ | refine blk_alloc ?_ _)); refine blk_far ?_ NB287_303.out _; (with_reducible repeat (first | refine blk_drewN ?_ _ | refine blk_drew ?_ | refine blk_alloc ?_ _)); refine blk_far ?_ NB287_303.out _; (with_reducible repeat (first | refine blk_drewN ?_ _ | refine blk_drew ?_ | refine blk_alloc ?_ _)); exact BK287.out⟩, ⟨by (with_reducible repeat (first | refine blk_drewN ?_ _ | refine blk_drew ?_ | refine blk_alloc ?_ _)); refine blk_far ?_ NB295_303.out _; (with_reducible repeat (first | refine blk_drewN ?_ _ | refine blk_drew ?_ | refine blk_alloc ?_ _)); refine blk_far ?_ NB295_303.out _; (with_reducible repeat (first | refine blk_drewN ?_ _ | refine blk_drew ?_ | refine blk_alloc ?_ _)); refine blk_far ?_ NB295_303.out _; (with_reducible repeat (first | refine blk_drewN ?_ _ | refine blk_drew ?_ | refine blk_alloc ?_ _)); refine blk_far ?_ NB295_303.out _; (with_reducible repeat (first | refine blk_drewN ?_ _ | refine blk_drew ?_ | refine blk_alloc ?_ _)); refine blk_far ?_ NB295_303.out _; (with_reducible repeat (first | refine blk_drewN ?_ _ | refine blk_drew ?_ | refine blk_alloc ?_ _)); refine blk_far ?_ NB295_303.out _; (with_reducible repeat (first | refine blk_drewN ?_ _ | refine blk_drew ?_ | refine blk_alloc ?_ _)); exact BK295.out⟩, ⟨by (with_reducible repeat (first | refine blk_drewN ?_ _ | refine blk_drew ?_ | refine blk_alloc ?_ _)); refine blk_put (cs := #[.int .i64 t296, .int .i64 t297, .int .i64 t298, .int .i64 t299, .int .i64 t300, .int .i64 0]) ?_ 5 _ rfl; (with_reducible repeat (first | refine blk_drewN ?_ _ | refine blk_drew ?_ | refine blk_alloc ?_ _)); refine blk_put (cs := #[.int .i64 t296, .int .i64 t297, .int .i64 t298, .int .i64 t299, .int .i64 0, .int .i64 0]) ?_ 4 _ rfl; (with_reducible repeat (first | refine blk_drewN ?_ _ | refine blk_drew ?_ | refine blk_alloc ?_ _)); refine blk_put (cs := #[.int .i64 t296, .int .i64 t297, .int .i64 t298, .int .i64 0, .int .i64 0, .int .i64 0]) ?_ 3 _ rfl; (with_reducible repeat (first | refine blk_drewN ?_ _ | refine blk_drew ?_ | refine blk_alloc ?_ _)); refine blk_put (cs := #[.int .i64 t296, .int .i64 t297, .int .i64 0, .int .i64 0, .int .i64 0, .int .i64 0]) ?_ 2 _ rfl; (with_reducible repeat (first | refine blk_drewN ?_ _ | refine blk_drew ?_ | refine blk_alloc ?_ _)); refine blk_put (cs := #[.int .i64 t296, .int .i64 0, .int .i64 0, .int .i64 0, .int .i64 0, .int .i64 0]) ?_ 1 _ rfl; (with_reducible repeat (first | refine blk_drewN ?_ _ | refine blk_drew ?_ | refine blk_alloc ?_ _)); refine blk_put (cs := #[.int .i64 0, .int .i64 0, .int .i64 0, .int .i64 0, .int .i64 0, .int .i64 0]) ?_ 0 _ rfl; (with_reducible repeat (first | refine blk_drewN ?_ _ | refine blk_drew ?_ | refine blk_alloc ?_ _)); exact BK303.out⟩, ⟨by repeat (first | (with_reducible first | exact HB.out | apply below_alloc | apply pw_below_drewN | apply below_drew1 | refine below_set ?_ GE278.out | refine below_set ?_ GE287.out | refine below_set ?_ GE295.out | refine below_set ?_ GE303.out) | exact HB.out)⟩⟩
           ·rw [if_neg c50] at H
            have c50b0 : (t299 == 0) = false := beq_eq_false_iff_ne.mpr c50
            have c50b1 : (t299 != 0) = true := bne_iff_ne.mpr c50
            have H' := Aside0.mk H
            clear H
            have hnb96 := NB303_278.out
            have hnc96 := NB278_303.out
            have hnb97 := NB303_287.out
            have hnc97 := NB287_303.out
            have hnb98 := NB303_295.out
            have hnc98 := NB295_303.out
            have hcz99_3 : w42.cell? ⟨gb303, 3, none⟩ = some (.int .i64 0) := (blk_cell BK303.out 3).trans rfl
            have hfz99_3 := blk_frozen BK303.out 3
            go_wp2
            go_meet
            case rel => exact ⟨_, (true), (by first | rfl | (simp; done) | (simp [*]; done) | (simp [Int.tdiv_eq_ediv_of_nonneg]; done) | (simp [Go.RowKit.wrap64]; done) | (simp [*, Go.RowKit.wrap64]; done)), H', ⟨by have := HJ4.out; first | omega | exact Nat.le_refl _⟩, ⟨by (with_reducible repeat (first | refine blk_drewN ?_ _ | refine blk_drew ?_ | refine blk_alloc ?_ _)); refine blk_far ?_ NB278_303.out _; (with_reducible repeat (first | refine blk_drewN ?_ _ | refine blk_drew ?_ | refine blk_alloc ?_ _)); refine blk_far ?_ NB278_303.out _; (with_reducible repeat (first | refine blk_drewN ?_ _ | refine blk_drew ?_ | refine blk_alloc ?_ _)); refine blk_far ?_ NB278_303.out _; (with_reducible repeat (first | refine blk_drewN ?_ _ | refine blk_drew ?_ | refine blk_alloc ?_ _)); refine blk_far ?_ NB278_303.out _; (with_reducible repeat (first | refine blk_drewN ?_ _ | refine blk_drew ?_ | refine blk_alloc ?_ _)); refine blk_far ?_ NB278_303.out _; (with_reducible repeat (first | refine blk_drewN ?_ _ | refine blk_drew ?_ | refine blk_alloc ?_ _)); refine blk_far ?_ NB278_303.out _; (with_reducible repeat (first | refine blk_drewN ?_ _ | refine blk_drew ?_ | refine blk_alloc ?_ _)); exact BK278.out⟩, ⟨by (with_reducible repeat (first | refine blk_drewN ?_ _ | refine blk_drew ?_ | refine blk_alloc ?_ _)); refine blk_far ?_ NB287_303.out _; (with_reducible repeat (first | refine blk_drewN ?_ _ | refine blk_drew ?_ | refine blk_alloc ?_ _)); refine blk_far ?_ NB287_303.out _; (with_reducible repeat (first | refine blk_drewN ?_ _ | refine blk_drew ?_ | refine blk_alloc ?_ _)); refine blk_far ?_ NB287_303.out _; (with_reducible repeat (first | refine blk_drewN ?_ _ | refine blk_drew ?_ | refine blk_alloc ?_ _)); refine blk_far ?_ NB287_303.out _; (with_reducible repeat (first | refine blk_drewN ?_ _ | refine blk_drew ?_ | refine blk_alloc ?_ _)); refine blk_far ?_ NB287_303.out _; (with_reducible repeat (first | refine blk_drewN ?_ _ | refine blk_drew ?_ | refine blk_alloc ?_ _)); refine blk_far ?_ NB287_303.out _; (with_reducible repeat (first | refine blk_drewN ?_ _ | refine blk_drew ?_ | refine blk_alloc ?_ _)); exact BK287.out⟩, ⟨by (with_reducible repeat (first | refine blk_drewN ?_ _ | refine blk_drew ?_ | refine blk_alloc ?_ _)); refine blk_far ?_ NB295_303.out _; (with_reducible repeat (first | refine blk_drewN ?_ _ | refine blk_drew ?_ | refine blk_alloc ?_ _)); refine blk_far ?_ NB295_303.out _; (with_reducible repeat (first | refine blk_drewN ?_ _ | refine blk_drew ?_ | refine blk_alloc ?_ _)); refine blk_far ?_ NB295_303.out _; (with_reducible repeat (first | refine blk_drewN ?_ _ | refine blk_drew ?_ | refine blk_alloc ?_ _)); refine blk_far ?_ NB295_303.out _; (with_reducible repeat (first | refine blk_drewN ?_ _ | refine blk_drew ?_ | refine blk_alloc ?_ _)); refine blk_far ?_ NB295_303.out _; (with_reducible repeat (first | refine blk_drewN ?_ _ | refine blk_drew ?_ | refine blk_alloc ?_ _)); refine blk_far ?_ NB295_303.out _; (with_reducible repeat (first | refine blk_drewN ?_ _ | refine blk_drew ?_ | refine blk_alloc ?_ _)); exact BK295.out⟩, ⟨by (with_reducible repeat (first | refine blk_drewN ?_ _ | refine blk_drew ?_ | refine blk_alloc ?_ _)); refine blk_put (cs := #[.int .i64 t296, .int .i64 t297, .int .i64 t298, .int .i64 t299, .int .i64 t300, .int .i64 0]) ?_ 5 _ rfl; (with_reducible repeat (first | refine blk_drewN ?_ _ | refine blk_drew ?_ | refine blk_alloc ?_ _)); refine blk_put (cs := #[.int .i64 t296, .int .i64 t297, .int .i64 t298, .int .i64 t299, .int .i64 0, .int .i64 0]) ?_ 4 _ rfl; (with_reducible repeat (first | refine blk_drewN ?_ _ | refine blk_drew ?_ | refine blk_alloc ?_ _)); refine blk_put (cs := #[.int .i64 t296, .int .i64 t297, .int .i64 t298, .int .i64 0, .int .i64 0, .int .i64 0]) ?_ 3 _ rfl; (with_reducible repeat (first | refine blk_drewN ?_ _ | refine blk_drew ?_ | refine blk_alloc ?_ _)); refine blk_put (cs := #[.int .i64 t296, .int .i64 t297, .int .i64 0, .int .i64 0, .int .i64 0, .int .i64 0]) ?_ 2 _ rfl; (with_reducible repeat (first | refine blk_drewN ?_ _ | refine blk_drew ?_ | refine blk_alloc ?_ _)); refine blk_put (cs := #[.int .i64 t296, .int .i64 0, .int .i64 0, .int .i64 0, .int .i64 0, .int .i64 0]) ?_ 1 _ rfl; (with_reducible repeat (first | refine blk_drewN ?_ _ | refine blk_drew ?_ | refine blk_alloc ?_ _)); refine blk_put (cs := #[.int .i64 0, .int .i64 0, .int .i64 0, .int .i64 0, .int .i64 0, .int .i64 0]) ?_ 0 _ rfl; (with_reducible repeat (first | refine blk_drewN ?_ _ | refine blk_drew ?_ | refine blk_alloc ?_ _)); exact BK303.out⟩, ⟨by repeat (first | (with_reducible first | exact HB.out | apply below_alloc | apply pw_below_drewN | apply below_drew1 | refine below_set ?_ GE278.out | refine below_set ?_ GE287.out | refine below_set ?_ GE295.out | refine below_set ?_ GE303.out) | exact HB.out)⟩⟩
          ·rw [if_neg c49] at H
           have c49b0 : (t302 == 0) = false := beq_eq_false_iff_ne.mpr c49
           have c49b1 : (t302 != 0) = true := bne_iff_ne.mpr c49
           have H' := Aside0.mk H
           clear H
           go_wp2
           go_meet
           case rel => exact ⟨_, (true), (by first | rfl | (simp; done) | (simp [*]; done) | (simp [Int.tdiv_eq_ediv_of_nonneg]; done) | (simp [Go.RowKit.wrap64]; done) | (simp [*, Go.RowKit.wrap64]; done)), H', ⟨by have := HJ4.out; first | omega | exact Nat.le_refl _⟩, ⟨by (with_reducible repeat (first | refine blk_drewN ?_ _ | refine blk_drew ?_ | refine blk_alloc ?_ _)); refine blk_far ?_ NB278_303.out _; (with_reducible repeat (first | refine blk_drewN ?_ _ | refine blk_drew ?_ | refine blk_alloc ?_ _)); refine blk_far ?_ NB278_303.out _; (with_reducible repeat (first | refine blk_drewN ?_ _ | refine blk_drew ?_ | refine blk_alloc ?_ _)); refine blk_far ?_ NB278_303.out _; (with_reducible repeat (first | refine blk_drewN ?_ _ | refine blk_drew ?_ | refine blk_alloc ?_ _)); refine blk_far ?_ NB278_303.out _; (with_reducible repeat (first | refine blk_drewN ?_ _ | refine blk_drew ?_ | refine blk_alloc ?_ _)); refine blk_far ?_ NB278_303.out _; (with_reducible repeat (first | refine blk_drewN ?_ _ | refine blk_drew ?_ | refine blk_alloc ?_ _)); refine blk_far ?_ NB278_303.out _; (with_reducible repeat (first | refine blk_drewN ?_ _ | refine blk_drew ?_ | refine blk_alloc ?_ _)); exact BK278.out⟩, ⟨by (with_reducible repeat (first | refine blk_drewN ?_ _ | refine blk_drew ?_ | refine blk_alloc ?_ _)); refine blk_far ?_ NB287_303.out _; (with_reducible repeat (first | refine blk_drewN ?_ _ | refine blk_drew ?_ | refine blk_alloc ?_ _)); refine blk_far ?_ NB287_303.out _; (with_reducible repeat (first | refine blk_drewN ?_ _ | refine blk_drew ?_ | refine blk_alloc ?_ _)); refine blk_far ?_ NB287_303.out _; (with_reducible repeat (first | refine blk_drewN ?_ _ | refine blk_drew ?_ | refine blk_alloc ?_ _)); refine blk_far ?_ NB287_303.out _; (with_reducible repeat (first | refine blk_drewN ?_ _ | refine blk_drew ?_ | refine blk_alloc ?_ _)); refine blk_far ?_ NB287_303.out _; (with_reducible repeat (first | refine blk_drewN ?_ _ | refine blk_drew ?_ | refine blk_alloc ?_ _)); refine blk_far ?_ NB287_303.out _; (with_reducible repeat (first | refine blk_drewN ?_ _ | refine blk_drew ?_ | refine blk_alloc ?_ _)); exact BK287.out⟩, ⟨by (with_reducible repeat (first | refine blk_drewN ?_ _ | refine blk_drew ?_ | refine blk_alloc ?_ _)); refine blk_far ?_ NB295_303.out _; (with_reducible repeat (first | refine blk_drewN ?_ _ | refine blk_drew ?_ | refine blk_alloc ?_ _)); refine blk_far ?_ NB295_303.out _; (with_reducible repeat (first | refine blk_drewN ?_ _ | refine blk_drew ?_ | refine blk_alloc ?_ _)); refine blk_far ?_ NB295_303.out _; (with_reducible repeat (first | refine blk_drewN ?_ _ | refine blk_drew ?_ | refine blk_alloc ?_ _)); refine blk_far ?_ NB295_303.out _; (with_reducible repeat (first | refine blk_drewN ?_ _ | refine blk_drew ?_ | refine blk_alloc ?_ _)); refine blk_far ?_ NB295_303.out _; (with_reducible repeat (first | refine blk_drewN ?_ _ | refine blk_drew ?_ | refine blk_alloc ?_ _)); refine blk_far ?_ NB295_303.out _; (with_reducible repeat (first | refine blk_drewN ?_ _ | refine blk_drew ?_ | refine blk_alloc ?_ _)); exact BK295.out⟩, ⟨by (with_reducible repeat (first | refine blk_drewN ?_ _ | refine blk_drew ?_ | refine blk_alloc ?_ _)); refine blk_put (cs := #[.int .i64 t296, .int .i64 t297, .int .i64 t298, .int .i64 t299, .int .i64 t300, .int .i64 0]) ?_ 5 _ rfl; (with_reducible repeat (first | refine blk_drewN ?_ _ | refine blk_drew ?_ | refine blk_alloc ?_ _)); refine blk_put (cs := #[.int .i64 t296, .int .i64 t297, .int .i64 t298, .int .i64 t299, .int .i64 0, .int .i64 0]) ?_ 4 _ rfl; (with_reducible repeat (first | refine blk_drewN ?_ _ | refine blk_drew ?_ | refine blk_alloc ?_ _)); refine blk_put (cs := #[.int .i64 t296, .int .i64 t297, .int .i64 t298, .int .i64 0, .int .i64 0, .int .i64 0]) ?_ 3 _ rfl; (with_reducible repeat (first | refine blk_drewN ?_ _ | refine blk_drew ?_ | refine blk_alloc ?_ _)); refine blk_put (cs := #[.int .i64 t296, .int .i64 t297, .int .i64 0, .int .i64 0, .int .i64 0, .int .i64 0]) ?_ 2 _ rfl; (with_reducible repeat (first | refine blk_drewN ?_ _ | refine blk_drew ?_ | refine blk_alloc ?_ _)); refine blk_put (cs := #[.int .i64 t296, .int .i64 0, .int .i64 0, .int .i64 0, .int .i64 0, .int .i64 0]) ?_ 1 _ rfl; (with_reducible repeat (first | refine blk_drewN ?_ _ | refine blk_drew ?_ | refine blk_alloc ?_ _)); refine blk_put (cs := #[.int .i64 0, .int .i64 0, .int .i64 0, .int .i64 0, .int .i64 0, .int .i64 0]) ?_ 0 _ rfl; (with_reducible repeat (first | refine blk_drewN ?_ _ | refine blk_drew ?_ | refine blk_alloc ?_ _)); exact BK303.out⟩, ⟨by repeat (first | (with_reducible first | exact HB.out | apply below_alloc | apply pw_below_drewN | apply below_drew1 | refine below_set ?_ GE278.out | refine below_set ?_ GE287.out | refine below_set ?_ GE295.out | refine below_set ?_ GE303.out) | exact HB.out)⟩⟩
         ·rw [if_neg c48] at H
          have c48b0 : (t294 == 0) = false := beq_eq_false_iff_ne.mpr c48
          have c48b1 : (t294 != 0) = true := bne_iff_ne.mpr c48
          have H' := Aside0.mk H
          clear H
          go_wp2
          go_meet
          case rel => exact ⟨_, (true), (by first | rfl | (simp; done) | (simp [*]; done) | (simp [Int.tdiv_eq_ediv_of_nonneg]; done) | (simp [Go.RowKit.wrap64]; done) | (simp [*, Go.RowKit.wrap64]; done)), H', ⟨by have := HJ4.out; first | omega | exact Nat.le_refl _⟩, ⟨by (with_reducible repeat (first | refine blk_drewN ?_ _ | refine blk_drew ?_ | refine blk_alloc ?_ _)); refine blk_far ?_ NB278_303.out _; (with_reducible repeat (first | refine blk_drewN ?_ _ | refine blk_drew ?_ | refine blk_alloc ?_ _)); refine blk_far ?_ NB278_303.out _; (with_reducible repeat (first | refine blk_drewN ?_ _ | refine blk_drew ?_ | refine blk_alloc ?_ _)); refine blk_far ?_ NB278_303.out _; (with_reducible repeat (first | refine blk_drewN ?_ _ | refine blk_drew ?_ | refine blk_alloc ?_ _)); refine blk_far ?_ NB278_303.out _; (with_reducible repeat (first | refine blk_drewN ?_ _ | refine blk_drew ?_ | refine blk_alloc ?_ _)); refine blk_far ?_ NB278_303.out _; (with_reducible repeat (first | refine blk_drewN ?_ _ | refine blk_drew ?_ | refine blk_alloc ?_ _)); refine blk_far ?_ NB278_303.out _; (with_reducible repeat (first | refine blk_drewN ?_ _ | refine blk_drew ?_ | refine blk_alloc ?_ _)); exact BK278.out⟩, ⟨by (with_reducible repeat (first | refine blk_drewN ?_ _ | refine blk_drew ?_ | refine blk_alloc ?_ _)); refine blk_far ?_ NB287_303.out _; (with_reducible repeat (first | refine blk_drewN ?_ _ | refine blk_drew ?_ | refine blk_alloc ?_ _)); refine blk_far ?_ NB287_303.out _; (with_reducible repeat (first | refine blk_drewN ?_ _ | refine blk_drew ?_ | refine blk_alloc ?_ _)); refine blk_far ?_ NB287_303.out _; (with_reducible repeat (first | refine blk_drewN ?_ _ | refine blk_drew ?_ | refine blk_alloc ?_ _)); refine blk_far ?_ NB287_303.out _; (with_reducible repeat (first | refine blk_drewN ?_ _ | refine blk_drew ?_ | refine blk_alloc ?_ _)); refine blk_far ?_ NB287_303.out _; (with_reducible repeat (first | refine blk_drewN ?_ _ | refine blk_drew ?_ | refine blk_alloc ?_ _)); refine blk_far ?_ NB287_303.out _; (with_reducible repeat (first | refine blk_drewN ?_ _ | refine blk_drew ?_ | refine blk_alloc ?_ _)); exact BK287.out⟩, ⟨by (with_reducible repeat (first | refine blk_drewN ?_ _ | refine blk_drew ?_ | refine blk_alloc ?_ _)); refine blk_far ?_ NB295_303.out _; (with_reducible repeat (first | refine blk_drewN ?_ _ | refine blk_drew ?_ | refine blk_alloc ?_ _)); refine blk_far ?_ NB295_303.out _; (with_reducible repeat (first | refine blk_drewN ?_ _ | refine blk_drew ?_ | refine blk_alloc ?_ _)); refine blk_far ?_ NB295_303.out _; (with_reducible repeat (first | refine blk_drewN ?_ _ | refine blk_drew ?_ | refine blk_alloc ?_ _)); refine blk_far ?_ NB295_303.out _; (with_reducible repeat (first | refine blk_drewN ?_ _ | refine blk_drew ?_ | refine blk_alloc ?_ _)); refine blk_far ?_ NB295_303.out _; (with_reducible repeat (first | refine blk_drewN ?_ _ | refine blk_drew ?_ | refine blk_alloc ?_ _)); refine blk_far ?_ NB295_303.out _; (with_reducible repeat (first | refine blk_drewN ?_ _ | refine blk_drew ?_ | refine blk_alloc ?_ _)); exact BK295.out⟩, ⟨by (with_reducible repeat (first | refine blk_drewN ?_ _ | refine blk_drew ?_ | refine blk_alloc ?_ _)); refine blk_put (cs := #[.int .i64 t296, .int .i64 t297, .int .i64 t298, .int .i64 t299, .int .i64 t300, .int .i64 0]) ?_ 5 _ rfl; (with_reducible repeat (first | refine blk_drewN ?_ _ | refine blk_drew ?_ | refine blk_alloc ?_ _)); refine blk_put (cs := #[.int .i64 t296, .int .i64 t297, .int .i64 t298, .int .i64 t299, .int .i64 0, .int .i64 0]) ?_ 4 _ rfl; (with_reducible repeat (first | refine blk_drewN ?_ _ | refine blk_drew ?_ | refine blk_alloc ?_ _)); refine blk_put (cs := #[.int .i64 t296, .int .i64 t297, .int .i64 t298, .int .i64 0, .int .i64 0, .int .i64 0]) ?_ 3 _ rfl; (with_reducible repeat (first | refine blk_drewN ?_ _ | refine blk_drew ?_ | refine blk_alloc ?_ _)); refine blk_put (cs := #[.int .i64 t296, .int .i64 t297, .int .i64 0, .int .i64 0, .int .i64 0, .int .i64 0]) ?_ 2 _ rfl; (with_reducible repeat (first | refine blk_drewN ?_ _ | refine blk_drew ?_ | refine blk_alloc ?_ _)); refine blk_put (cs := #[.int .i64 t296, .int .i64 0, .int .i64 0, .int .i64 0, .int .i64 0, .int .i64 0]) ?_ 1 _ rfl; (with_reducible repeat (first | refine blk_drewN ?_ _ | refine blk_drew ?_ | refine blk_alloc ?_ _)); refine blk_put (cs := #[.int .i64 0, .int .i64 0, .int .i64 0, .int .i64 0, .int .i64 0, .int .i64 0]) ?_ 0 _ rfl; (with_reducible repeat (first | refine blk_drewN ?_ _ | refine blk_drew ?_ | refine blk_alloc ?_ _)); exact BK303.out⟩, ⟨by repeat (first | (with_reducible first | exact HB.out | apply below_alloc | apply pw_below_drewN | apply below_drew1 | refine below_set ?_ GE278.out | refine below_set ?_ GE287.out | refine below_set ?_ GE295.out | refine below_set ?_ GE303.out) | exact HB.out)⟩⟩
        ·rw [if_neg c47] at H
         have c47b0 : (t286 == 0) = false := beq_eq_false_iff_ne.mpr c47
         have c47b1 : (t286 != 0) = true := bne_iff_ne.mpr c47
         (first | rw [c47b0] | (simp only [i64_w, i32_w]; rw [c47b0]) | skip)
         have H' := Aside0.mk H
         clear H
         go_wp2
         go_meet
         case rel => exact ⟨_, (true), (by first | rfl | (simp; done) | (simp [*]; done) | (simp [Int.tdiv_eq_ediv_of_nonneg]; done) | (simp [Go.RowKit.wrap64]; done) | (simp [*, Go.RowKit.wrap64]; done)), H', ⟨by have := HJ4.out; first | omega | exact Nat.le_refl _⟩, ⟨by (with_reducible repeat (first | refine blk_drewN ?_ _ | refine blk_drew ?_ | refine blk_alloc ?_ _)); refine blk_far ?_ NB278_303.out _; (with_reducible repeat (first | refine blk_drewN ?_ _ | refine blk_drew ?_ | refine blk_alloc ?_ _)); refine blk_far ?_ NB278_303.out _; (with_reducible repeat (first | refine blk_drewN ?_ _ | refine blk_drew ?_ | refine blk_alloc ?_ _)); refine blk_far ?_ NB278_303.out _; (with_reducible repeat (first | refine blk_drewN ?_ _ | refine blk_drew ?_ | refine blk_alloc ?_ _)); refine blk_far ?_ NB278_303.out _; (with_reducible repeat (first | refine blk_drewN ?_ _ | refine blk_drew ?_ | refine blk_alloc ?_ _)); refine blk_far ?_ NB278_303.out _; (with_reducible repeat (first | refine blk_drewN ?_ _ | refine blk_drew ?_ | refine blk_alloc ?_ _)); refine blk_far ?_ NB278_303.out _; (with_reducible repeat (first | refine blk_drewN ?_ _ | refine blk_drew ?_ | refine blk_alloc ?_ _)); exact BK278.out⟩, ⟨by (with_reducible repeat (first | refine blk_drewN ?_ _ | refine blk_drew ?_ | refine blk_alloc ?_ _)); refine blk_far ?_ NB287_303.out _; (with_reducible repeat (first | refine blk_drewN ?_ _ | refine blk_drew ?_ | refine blk_alloc ?_ _)); refine blk_far ?_ NB287_303.out _; (with_reducible repeat (first | refine blk_drewN ?_ _ | refine blk_drew ?_ | refine blk_alloc ?_ _)); refine blk_far ?_ NB287_303.out _; (with_reducible repeat (first | refine blk_drewN ?_ _ | refine blk_drew ?_ | refine blk_alloc ?_ _)); refine blk_far ?_ NB287_303.out _; (with_reducible repeat (first | refine blk_drewN ?_ _ | refine blk_drew ?_ | refine blk_alloc ?_ _)); refine blk_far ?_ NB287_303.out _; (with_reducible repeat (first | refine blk_drewN ?_ _ | refine blk_drew ?_ | refine blk_alloc ?_ _)); refine blk_far ?_ NB287_303.out _; (with_reducible repeat (first | refine blk_drewN ?_ _ | refine blk_drew ?_ | refine blk_alloc ?_ _)); exact BK287.out⟩, ⟨by (with_reducible repeat (first | refine blk_drewN ?_ _ | refine blk_drew ?_ | refine blk_alloc ?_ _)); refine blk_far ?_ NB295_303.out _; (with_reducible repeat (first | refine blk_drewN ?_ _ | refine blk_drew ?_ | refine blk_alloc ?_ _)); refine blk_far ?_ NB295_303.out _; (with_reducible repeat (first | refine blk_drewN ?_ _ | refine blk_drew ?_ | refine blk_alloc ?_ _)); refine blk_far ?_ NB295_303.out _; (with_reducible repeat (first | refine blk_drewN ?_ _ | refine blk_drew ?_ | refine blk_alloc ?_ _)); refine blk_far ?_ NB295_303.out _; (with_reducible repeat (first | refine blk_drewN ?_ _ | refine blk_drew ?_ | refine blk_alloc ?_ _)); refine blk_far ?_ NB295_303.out _; (with_reducible repeat (first | refine blk_drewN ?_ _ | refine blk_drew ?_ | refine blk_alloc ?_ _)); refine blk_far ?_ NB295_303.out _; (with_reducible repeat (first | refine blk_drewN ?_ _ | refine blk_drew ?_ | refine blk_alloc ?_ _)); exact BK295.out⟩, ⟨by (with_reducible repeat (first | refine blk_drewN ?_ _ | refine blk_drew ?_ | refine blk_alloc ?_ _)); refine blk_put (cs := #[.int .i64 t296, .int .i64 t297, .int .i64 t298, .int .i64 t299, .int .i64 t300, .int .i64 0]) ?_ 5 _ rfl; (with_reducible repeat (first | refine blk_drewN ?_ _ | refine blk_drew ?_ | refine blk_alloc ?_ _)); refine blk_put (cs := #[.int .i64 t296, .int .i64 t297, .int .i64 t298, .int .i64 t299, .int .i64 0, .int .i64 0]) ?_ 4 _ rfl; (with_reducible repeat (first | refine blk_drewN ?_ _ | refine blk_drew ?_ | refine blk_alloc ?_ _)); refine blk_put (cs := #[.int .i64 t296, .int .i64 t297, .int .i64 t298, .int .i64 0, .int .i64 0, .int .i64 0]) ?_ 3 _ rfl; (with_reducible repeat (first | refine blk_drewN ?_ _ | refine blk_drew ?_ | refine blk_alloc ?_ _)); refine blk_put (cs := #[.int .i64 t296, .int .i64 t297, .int .i64 0, .int .i64 0, .int .i64 0, .int .i64 0]) ?_ 2 _ rfl; (with_reducible repeat (first | refine blk_drewN ?_ _ | refine blk_drew ?_ | refine blk_alloc ?_ _)); refine blk_put (cs := #[.int .i64 t296, .int .i64 0, .int .i64 0, .int .i64 0, .int .i64 0, .int .i64 0]) ?_ 1 _ rfl; (with_reducible repeat (first | refine blk_drewN ?_ _ | refine blk_drew ?_ | refine blk_alloc ?_ _)); refine blk_put (cs := #[.int .i64 0, .int .i64 0, .int .i64 0, .int .i64 0, .int .i64 0, .int .i64 0]) ?_ 0 _ rfl; (with_reducible repeat (first | refine blk_drewN ?_ _ | refine blk_drew ?_ | refine blk_alloc ?_ _)); exact BK303.out⟩, ⟨by repeat (first | (with_reducible first | exact HB.out | apply below_alloc | apply pw_below_drewN | apply below_drew1 | refine below_set ?_ GE278.out | refine below_set ?_ GE287.out | refine below_set ?_ GE295.out | refine below_set ?_ GE303.out) | exact HB.out)⟩⟩
       case rest =>
        clear HC25
        try clear c1
        try clear c2
        try clear p2
        try clear q2
        try clear hx2
        try clear c3
        try clear c4
        try clear c5
        try clear c6
        try clear p6
        try clear c7
        try clear c7b0
        try clear c7b1
        try clear c8
        try clear c9
        try clear c10
        try clear c10b0
        try clear c12
        try clear c12b0
        try clear c14
        try clear c14b0
        try clear c15
        try clear c15b0
        try clear c18
        try clear c19
        try clear c19b0
        try clear c20
        try clear c20b0
        try clear p27
        try clear q27
        try clear hx27
        try clear c32
        try clear c37
        try clear c38
        try clear c43
        try clear c44
        try clear c45
        try clear c47
        try clear c47b0
        try clear c47b1
        try clear c48
        try clear c48b0
        try clear c48b1
        try clear c49
        try clear c49b0
        try clear c49b1
        try clear c50
        try clear c50b0
        try clear c50b1
        try clear c51
        try clear c51b0
        try clear c51b1
        try clear c52
        try clear c52b0
        try clear c52b1
        try clear c53
        try clear c53b0
        try clear c53b1
        try clear c54
        try clear c54b0
        try clear c54b1
        try clear c55
        try clear c55b0
        try clear c55b1
        try clear c56
        try clear c57
        try clear c58
        try clear c60
        try clear c61
        try clear c63
        try clear p64
        try clear c65
        try clear c66
        try clear c67
        try clear c69
        try clear c70
        try clear c72
        try clear c74
        try clear c75
        try clear c76
        try clear c78
        try clear c79
        try clear c81
        try clear c82
        try clear c83
        try clear c85
        try clear c86
        try clear c88
        try clear c89
        try clear c90
        try clear c92
        try clear c93
        try clear c94
        try clear c96
        try clear c97
        try clear c98
        try clear hcz27_0
        try clear hcz27_1
        try clear hcz29_0
        try clear hcz29_1
        try clear hcz33_0
        try clear hcz33_1
        try clear hcz33_2
        try clear hcz33_3
        try clear hcz33_4
        try clear hcz33_5
        try clear hcz34_0
        try clear hcz34_1
        try clear hcz39_0
        try clear hcz39_1
        try clear hcz39_2
        try clear hcz39_3
        try clear hcz39_4
        try clear hcz39_5
        try clear hcz40_0
        try clear hcz40_1
        try clear hcz46_0
        try clear hcz46_1
        try clear hcz46_2
        try clear hcz46_3
        try clear hcz46_4
        try clear hcz46_5
        try clear hcz59_3
        try clear hcz59_4
        try clear hcz59_5
        try clear hcz62_2
        try clear hcz62_3
        try clear hcz62_4
        try clear hcz64_2
        try clear hcz64_4
        try clear hcz68_3
        try clear hcz68_4
        try clear hcz68_5
        try clear hcz71_3
        try clear hcz71_4
        try clear hcz73_4
        try clear hcz77_3
        try clear hcz77_4
        try clear hcz77_5
        try clear hcz80_3
        try clear hcz80_4
        try clear hcz84_3
        try clear hcz84_4
        try clear hcz84_5
        try clear hcz87_3
        try clear hcz91_3
        try clear hcz91_4
        try clear hcz91_5
        try clear hcz95_3
        try clear hcz95_4
        try clear hcz99_3
        try clear hfz27_0
        try clear hfz27_1
        try clear hfz29_0
        try clear hfz29_1
        try clear hfz33_0
        try clear hfz33_1
        try clear hfz33_2
        try clear hfz33_3
        try clear hfz33_4
        try clear hfz33_5
        try clear hfz34_0
        try clear hfz34_1
        try clear hfz39_0
        try clear hfz39_1
        try clear hfz39_2
        try clear hfz39_3
        try clear hfz39_4
        try clear hfz39_5
        try clear hfz40_0
        try clear hfz40_1
        try clear hfz46_0
        try clear hfz46_1
        try clear hfz46_2
        try clear hfz46_3
        try clear hfz46_4
        try clear hfz46_5
        try clear hfz59_3
        try clear hfz59_4
        try clear hfz59_5
        try clear hfz62_2
        try clear hfz62_3
        try clear hfz62_4
        try clear hfz64_2
        try clear hfz64_4
        try clear hfz68_3
        try clear hfz68_4
        try clear hfz68_5
        try clear hfz71_3
        try clear hfz71_4
        try clear hfz73_4
        try clear hfz77_3
        try clear hfz77_4
        try clear hfz77_5
        try clear hfz80_3
        try clear hfz80_4
        try clear hfz84_3
        try clear hfz84_4
        try clear hfz84_5
        try clear hfz87_3
        try clear hfz91_3
        try clear hfz91_4
        try clear hfz91_5
        try clear hfz95_3
        try clear hfz95_4
        try clear hfz99_3
        try clear hx276_0
        try clear hx276_1
        try clear hx277_0
        try clear hx277_1
        try clear p2
        try clear p276
        try clear p277
        try clear q2
        try clear q276
        try clear q277
        obtain ⟨kq, x122_24, rfl, HA, HJ24, BK278, BK287, BK295, BK303, HB⟩ := hcut
        cases kq with
        | zero => exact absurd HA.out (by simp [clepsydralaw18_LeapSeconds.j1])
        | succ kj24 =>
         have H := HA.out
         clear HA
         simp only [clepsydralaw18_LeapSeconds.j1] at H
         by_cases c100 : x122_24 = true
         ·subst c100
          have H1 : (some false) = some r := by rw [if_pos rfl] at H; exact H
          clear H
          have H := H1
          clear H1
          exact absurd ((Option.some.inj H).trans hT.out) (by decide)
         ·replace c100 := Bool.eq_false_iff.mpr c100
          subst c100
          have H1 : (if ((rd_T40 l0 a1).f1) > t279 then (if t285 = 59 then (some (t293 == 60)) else (some false)) else ((leap_ToCount.f kj24 l0 t288 t289 t290 t291 t292 59).bind fun bt305 => (if t285 = 57 then (if t293 = 58 then (some (bt305.2 == 30)) else (some false)) else (some false)))) = some r := by rw [if_neg (show ¬ (false = true) by decide)] at H; exact H
          clear H
          have H := H1
          clear H1
          by_cases c101 : ((rd_T40 l0 a1).f1) > t279
          ·rw [if_pos c101] at H
           have c101b0 : decide (t279 < ((rd_T40 l0 a1).f1)) = true := decide_eq_true c101
           clear c101
           by_cases c102 : t285 = 59
           ·rw [if_pos c102] at H
            have c102b0 : (t285 == 59) = true := beq_iff_eq.mpr c102
            have c102b1 : (t285 != 59) = false := bne_eq_false_iff_eq.mpr c102
            clear c102
            obtain rfl := Option.some.inj H
            have hnb103 := NB278_287.out
            have hnc103 := NB287_278.out
            have hnb104 := NB278_295.out
            have hnc104 := NB295_278.out
            have hnb105 := NB278_303.out
            have hnc105 := NB303_278.out
            have hcz106_1 : wc.cell? ⟨gb278, 1, none⟩ = some (.int .i64 ((rd_T40 l0 a1).f1)) := (blk_cell BK278.out 1).trans rfl
            have hfz106_1 := blk_frozen BK278.out 1
            have hnb107 := NB287_295.out
            have hnc107 := NB295_287.out
            have hnb108 := NB287_303.out
            have hnc108 := NB303_287.out
            have hcz109_5 : wc.cell? ⟨gb287, 5, none⟩ = some (.int .i64 t285) := (blk_cell BK287.out 5).trans rfl
            have hfz109_5 := blk_frozen BK287.out 5
            have hnb110 := NB295_303.out
            have hnc110 := NB303_295.out
            have hcz111_5 : wc.cell? ⟨gb295, 5, none⟩ = some (.int .i64 t293) := (blk_cell BK295.out 5).trans rfl
            have hfz111_5 := blk_frozen BK295.out 5
            go_wp2
            go_ret
            exact ⟨by first | rfl | (simp [errW_none, errW_some] <;> rfl) | (simp [*, errW_none, errW_some] <;> rfl), by repeat (first | (with_reducible first | exact HB.out | apply below_alloc | apply pw_below_drewN | apply below_drew1 | refine below_set ?_ GE278.out | refine below_set ?_ GE287.out | refine below_set ?_ GE295.out | refine below_set ?_ GE303.out) | exact HB.out)⟩
           ·rw [if_neg c102] at H
            have c102b0 : (t285 == 59) = false := beq_eq_false_iff_ne.mpr c102
            have c102b1 : (t285 != 59) = true := bne_iff_ne.mpr c102
            exact absurd ((Option.some.inj H).trans hT.out) (by decide)
          ·rw [if_neg c101] at H
           have c101b0 : decide (t279 < ((rd_T40 l0 a1).f1)) = false := decide_eq_false c101
           clear c101
           replace H := Option.bind_eq_some_iff.mp H
           obtain ⟨⟨t305, t306⟩, A1120, H⟩ := H
           replace H : (if t285 = 57 then (if t293 = 58 then (some (t306 == 30)) else (some false)) else (some false)) = some r := H
           have A112 := Aside0.mk A1120
           clear A1120
           by_cases c113 : t285 = 57
           ·rw [if_pos c113] at H
            have c113b0 : (t285 == 57) = true := beq_iff_eq.mpr c113
            have c113b1 : (t285 != 57) = false := bne_eq_false_iff_eq.mpr c113
            clear c113
            by_cases c114 : t293 = 58
            ·rw [if_pos c114] at H
             have c114b0 : (t293 == 58) = true := beq_iff_eq.mpr c114
             have c114b1 : (t293 != 58) = false := bne_eq_false_iff_eq.mpr c114
             clear c114
             obtain rfl := Option.some.inj H
             have hnb115 := NB278_287.out
             have hnc115 := NB287_278.out
             have hnb116 := NB278_295.out
             have hnc116 := NB295_278.out
             have hnb117 := NB278_303.out
             have hnc117 := NB303_278.out
             have hcz118_0 : wc.cell? ⟨gb278, 0, none⟩ = some (.int .i64 ((rd_T40 l0 a1).f0)) := (blk_cell BK278.out 0).trans rfl
             have hcz118_1 : wc.cell? ⟨gb278, 1, none⟩ = some (.int .i64 ((rd_T40 l0 a1).f1)) := (blk_cell BK278.out 1).trans rfl
             have hfz118_0 := blk_frozen BK278.out 0
             have hfz118_1 := blk_frozen BK278.out 1
             have hnb119 := NB295_287.out
             have hnc119 := NB287_295.out
             have hnb120 := NB295_303.out
             have hnc120 := NB303_295.out
             have hcz121_0 : wc.cell? ⟨gb295, 0, none⟩ = some (.int .i64 t288) := (blk_cell BK295.out 0).trans rfl
             have hcz121_1 : wc.cell? ⟨gb295, 1, none⟩ = some (.int .i64 t289) := (blk_cell BK295.out 1).trans rfl
             have hcz121_2 : wc.cell? ⟨gb295, 2, none⟩ = some (.int .i64 t290) := (blk_cell BK295.out 2).trans rfl
             have hcz121_3 : wc.cell? ⟨gb295, 3, none⟩ = some (.int .i64 t291) := (blk_cell BK295.out 3).trans rfl
             have hcz121_4 : wc.cell? ⟨gb295, 4, none⟩ = some (.int .i64 t292) := (blk_cell BK295.out 4).trans rfl
             have hcz121_5 : wc.cell? ⟨gb295, 5, none⟩ = some (.int .i64 t293) := (blk_cell BK295.out 5).trans rfl
             have hfz121_0 := blk_frozen BK295.out 0
             have hfz121_1 := blk_frozen BK295.out 1
             have hfz121_2 := blk_frozen BK295.out 2
             have hfz121_3 := blk_frozen BK295.out 3
             have hfz121_4 := blk_frozen BK295.out 4
             have hfz121_5 := blk_frozen BK295.out 5
             go_upto_region 16 with (((with_reducible refine gate_dst (N := 13) rfl ?_); (try (refine gate_guard (by rfl) ?_; dsimp only)); refine box_event ?hg (N := 13) ?hd (cs := #[.int .i64 0, .int .i64 0, .int .i64 0, .int .i64 0, .int .i64 0, .int .i64 0]) (t := 26) ?hr ?_; (case hd => rfl); (case hg => rfl); (case hr => first | (go_simp; done) | (go_simp; rfl)); intro gb304 hg w122 hbox hb; have n0_ := Aside0.mk (blk_below (g := gb278) (o := .cells #[.int .i64 ((rd_T40 l0 a1).f0), .int .i64 ((rd_T40 l0 a1).f1)] 40 (0, 0)) (by (with_reducible repeat (first | refine blk_drewN ?_ _ | refine blk_drew ?_ | refine blk_alloc ?_ _)); exact BK278.out) hb); have n1_ := Aside0.mk (blk_below (g := gb287) (o := .cells #[.int .i64 t280, .int .i64 t281, .int .i64 t282, .int .i64 t283, .int .i64 t284, .int .i64 t285] 26 (0, 0)) (by (with_reducible repeat (first | refine blk_drewN ?_ _ | refine blk_drew ?_ | refine blk_alloc ?_ _)); exact BK287.out) hb); have n2_ := Aside0.mk (blk_below (g := gb295) (o := .cells #[.int .i64 t288, .int .i64 t289, .int .i64 t290, .int .i64 t291, .int .i64 t292, .int .i64 t293] 26 (0, 0)) (by (with_reducible repeat (first | refine blk_drewN ?_ _ | refine blk_drew ?_ | refine blk_alloc ?_ _)); exact BK295.out) hb); have n3_ := Aside0.mk (blk_below (g := gb303) (o := .cells #[.int .i64 t296, .int .i64 t297, .int .i64 t298, .int .i64 t299, .int .i64 t300, .int .i64 t301] 26 (0, 0)) (by (with_reducible repeat (first | refine blk_drewN ?_ _ | refine blk_drew ?_ | refine blk_alloc ?_ _)); exact BK303.out) hb); have n4_ := Aside0.mk (below_step (by repeat (first | (with_reducible first | exact HB.out | apply below_alloc | apply pw_below_drewN | apply below_drew1 | refine below_set ?_ GE278.out | refine below_set ?_ GE287.out | refine below_set ?_ GE295.out | refine below_set ?_ GE303.out) | exact HB.out)) hb); have n5_ := Aside0.mk (hbox); have n6_ := Aside0.mk ((by rw [hg]; exact (below_size (by repeat (first | (with_reducible first | exact HB.out | apply below_alloc | apply pw_below_drewN | apply below_drew1 | refine below_set ?_ GE278.out | refine below_set ?_ GE287.out | refine below_set ?_ GE295.out | refine below_set ?_ GE303.out) | exact HB.out))) : w.heap.size ≤ gb304)); have n7_ := Aside0.mk ((by rw [hg]; exact (below_size (by repeat (first | (with_reducible first | exact HB.out | apply below_alloc | apply pw_below_drewN | apply below_drew1 | refine below_set ?_ GE278.out | refine below_set ?_ GE287.out | refine below_set ?_ GE295.out | refine below_set ?_ GE303.out) | exact HB.out))) : w.heap.size ≤ gb304)); have n8_ := Aside0.mk ((by rw [hg]; exact Nat.ne_of_lt (blk_lt (g := gb278) (o := .cells #[.int .i64 ((rd_T40 l0 a1).f0), .int .i64 ((rd_T40 l0 a1).f1)] 40 (0, 0)) (by (with_reducible repeat (first | refine blk_drewN ?_ _ | refine blk_drew ?_ | refine blk_alloc ?_ _)); exact BK278.out)) : gb278 ≠ gb304)); have n9_ := Aside0.mk ((by rw [hg]; exact Nat.ne_of_gt (blk_lt (g := gb278) (o := .cells #[.int .i64 ((rd_T40 l0 a1).f0), .int .i64 ((rd_T40 l0 a1).f1)] 40 (0, 0)) (by (with_reducible repeat (first | refine blk_drewN ?_ _ | refine blk_drew ?_ | refine blk_alloc ?_ _)); exact BK278.out)) : gb304 ≠ gb278)); have n10_ := Aside0.mk ((by rw [hg]; exact Nat.ne_of_lt (blk_lt (g := gb287) (o := .cells #[.int .i64 t280, .int .i64 t281, .int .i64 t282, .int .i64 t283, .int .i64 t284, .int .i64 t285] 26 (0, 0)) (by (with_reducible repeat (first | refine blk_drewN ?_ _ | refine blk_drew ?_ | refine blk_alloc ?_ _)); exact BK287.out)) : gb287 ≠ gb304)); have n11_ := Aside0.mk ((by rw [hg]; exact Nat.ne_of_gt (blk_lt (g := gb287) (o := .cells #[.int .i64 t280, .int .i64 t281, .int .i64 t282, .int .i64 t283, .int .i64 t284, .int .i64 t285] 26 (0, 0)) (by (with_reducible repeat (first | refine blk_drewN ?_ _ | refine blk_drew ?_ | refine blk_alloc ?_ _)); exact BK287.out)) : gb304 ≠ gb287)); have n12_ := Aside0.mk ((by rw [hg]; exact Nat.ne_of_lt (blk_lt (g := gb295) (o := .cells #[.int .i64 t288, .int .i64 t289, .int .i64 t290, .int .i64 t291, .int .i64 t292, .int .i64 t293] 26 (0, 0)) (by (with_reducible repeat (first | refine blk_drewN ?_ _ | refine blk_drew ?_ | refine blk_alloc ?_ _)); exact BK295.out)) : gb295 ≠ gb304)); have n13_ := Aside0.mk ((by rw [hg]; exact Nat.ne_of_gt (blk_lt (g := gb295) (o := .cells #[.int .i64 t288, .int .i64 t289, .int .i64 t290, .int .i64 t291, .int .i64 t292, .int .i64 t293] 26 (0, 0)) (by (with_reducible repeat (first | refine blk_drewN ?_ _ | refine blk_drew ?_ | refine blk_alloc ?_ _)); exact BK295.out)) : gb304 ≠ gb295)); have n14_ := Aside0.mk ((by rw [hg]; exact Nat.ne_of_lt (blk_lt (g := gb303) (o := .cells #[.int .i64 t296, .int .i64 t297, .int .i64 t298, .int .i64 t299, .int .i64 t300, .int .i64 t301] 26 (0, 0)) (by (with_reducible repeat (first | refine blk_drewN ?_ _ | refine blk_drew ?_ | refine blk_alloc ?_ _)); exact BK303.out)) : gb303 ≠ gb304)); have n15_ := Aside0.mk ((by rw [hg]; exact Nat.ne_of_gt (blk_lt (g := gb303) (o := .cells #[.int .i64 t296, .int .i64 t297, .int .i64 t298, .int .i64 t299, .int .i64 t300, .int .i64 t301] 26 (0, 0)) (by (with_reducible repeat (first | refine blk_drewN ?_ _ | refine blk_drew ?_ | refine blk_alloc ?_ _)); exact BK303.out)) : gb304 ≠ gb303)); clear BK278; clear BK287; clear BK295; clear BK303; clear HB; have BK278 := n0_; have BK287 := n1_; have BK295 := n2_; have BK303 := n3_; have HB := n4_; have BK304 := n5_; have GW304 := n6_; have GE304 := n7_; have NB278_304 := n8_; have NB304_278 := n9_; have NB287_304 := n10_; have NB304_287 := n11_; have NB295_304 := n12_; have NB304_295 := n13_; have NB303_304 := n14_; have NB304_303 := n15_; clear n0_ n1_ n2_ n3_ n4_ n5_ n6_ n7_ n8_ n9_ n10_ n11_ n12_ n13_ n14_ n15_; clear hb hbox hg; have hnb123 := NB304_278.out; have hnc123 := NB278_304.out; have hnb124 := NB304_287.out; have hnc124 := NB287_304.out; have hnb125 := NB304_295.out; have hnc125 := NB295_304.out; have hnb126 := NB304_303.out; have hnc126 := NB303_304.out; have hcz127_0 : w122.cell? ⟨gb304, 0, none⟩ = some (.int .i64 0) := (blk_cell BK304.out 0).trans rfl; have hcz127_1 : w122.cell? ⟨gb304, 1, none⟩ = some (.int .i64 0) := (blk_cell BK304.out 1).trans rfl; have hcz127_2 : w122.cell? ⟨gb304, 2, none⟩ = some (.int .i64 0) := (blk_cell BK304.out 2).trans rfl; have hcz127_3 : w122.cell? ⟨gb304, 3, none⟩ = some (.int .i64 0) := (blk_cell BK304.out 3).trans rfl; have hcz127_4 : w122.cell? ⟨gb304, 4, none⟩ = some (.int .i64 0) := (blk_cell BK304.out 4).trans rfl; have hcz127_5 : w122.cell? ⟨gb304, 5, none⟩ = some (.int .i64 0) := (blk_cell BK304.out 5).trans rfl; have hfz127_0 := blk_frozen BK304.out 0; have hfz127_1 := blk_frozen BK304.out 1; have hfz127_2 := blk_frozen BK304.out 2; have hfz127_3 := blk_frozen BK304.out 3; have hfz127_4 := blk_frozen BK304.out 4; have hfz127_5 := blk_frozen BK304.out 5))
             have s0_ : Aside0 ((((((((w122.setCell ⟨gb304, 0, none⟩ (.int .i64 t288)).setCell ⟨gb304, 1, none⟩ (.int .i64 t289)).setCell ⟨gb304, 2, none⟩ (.int .i64 t290)).setCell ⟨gb304, 3, none⟩ (.int .i64 t291)).setCell ⟨gb304, 4, none⟩ (.int .i64 t292)).setCell ⟨gb304, 5, none⟩ (.int .i64 t293)).setCell ⟨gb304, 5, none⟩ (.int .i64 59)).heap[gb278]? = some (.cells #[.int .i64 ((rd_T40 l0 a1).f0), .int .i64 ((rd_T40 l0 a1).f1)] 40 (0, 0))) := ⟨by refine blk_far ?_ NB278_304.out _; refine blk_far ?_ NB278_304.out _; refine blk_far ?_ NB278_304.out _; refine blk_far ?_ NB278_304.out _; refine blk_far ?_ NB278_304.out _; refine blk_far ?_ NB278_304.out _; refine blk_far ?_ NB278_304.out _; exact BK278.out⟩
             have s1_ : Aside0 ((((((((w122.setCell ⟨gb304, 0, none⟩ (.int .i64 t288)).setCell ⟨gb304, 1, none⟩ (.int .i64 t289)).setCell ⟨gb304, 2, none⟩ (.int .i64 t290)).setCell ⟨gb304, 3, none⟩ (.int .i64 t291)).setCell ⟨gb304, 4, none⟩ (.int .i64 t292)).setCell ⟨gb304, 5, none⟩ (.int .i64 t293)).setCell ⟨gb304, 5, none⟩ (.int .i64 59)).heap[gb287]? = some (.cells #[.int .i64 t280, .int .i64 t281, .int .i64 t282, .int .i64 t283, .int .i64 t284, .int .i64 t285] 26 (0, 0))) := ⟨by refine blk_far ?_ NB287_304.out _; refine blk_far ?_ NB287_304.out _; refine blk_far ?_ NB287_304.out _; refine blk_far ?_ NB287_304.out _; refine blk_far ?_ NB287_304.out _; refine blk_far ?_ NB287_304.out _; refine blk_far ?_ NB287_304.out _; exact BK287.out⟩
             have s2_ : Aside0 ((((((((w122.setCell ⟨gb304, 0, none⟩ (.int .i64 t288)).setCell ⟨gb304, 1, none⟩ (.int .i64 t289)).setCell ⟨gb304, 2, none⟩ (.int .i64 t290)).setCell ⟨gb304, 3, none⟩ (.int .i64 t291)).setCell ⟨gb304, 4, none⟩ (.int .i64 t292)).setCell ⟨gb304, 5, none⟩ (.int .i64 t293)).setCell ⟨gb304, 5, none⟩ (.int .i64 59)).heap[gb295]? = some (.cells #[.int .i64 t288, .int .i64 t289, .int .i64 t290, .int .i64 t291, .int .i64 t292, .int .i64 t293] 26 (0, 0))) := ⟨by refine blk_far ?_ NB295_304.out _; refine blk_far ?_ NB295_304.out _; refine blk_far ?_ NB295_304.out _; refine blk_far ?_ NB295_304.out _; refine blk_far ?_ NB295_304.out _; refine blk_far ?_ NB295_304.out _; refine blk_far ?_ NB295_304.out _; exact BK295.out⟩
             have s3_ : Aside0 ((((((((w122.setCell ⟨gb304, 0, none⟩ (.int .i64 t288)).setCell ⟨gb304, 1, none⟩ (.int .i64 t289)).setCell ⟨gb304, 2, none⟩ (.int .i64 t290)).setCell ⟨gb304, 3, none⟩ (.int .i64 t291)).setCell ⟨gb304, 4, none⟩ (.int .i64 t292)).setCell ⟨gb304, 5, none⟩ (.int .i64 t293)).setCell ⟨gb304, 5, none⟩ (.int .i64 59)).heap[gb303]? = some (.cells #[.int .i64 t296, .int .i64 t297, .int .i64 t298, .int .i64 t299, .int .i64 t300, .int .i64 t301] 26 (0, 0))) := ⟨by refine blk_far ?_ NB303_304.out _; refine blk_far ?_ NB303_304.out _; refine blk_far ?_ NB303_304.out _; refine blk_far ?_ NB303_304.out _; refine blk_far ?_ NB303_304.out _; refine blk_far ?_ NB303_304.out _; refine blk_far ?_ NB303_304.out _; exact BK303.out⟩
             have s4_ : Aside0 ((((((((w122.setCell ⟨gb304, 0, none⟩ (.int .i64 t288)).setCell ⟨gb304, 1, none⟩ (.int .i64 t289)).setCell ⟨gb304, 2, none⟩ (.int .i64 t290)).setCell ⟨gb304, 3, none⟩ (.int .i64 t291)).setCell ⟨gb304, 4, none⟩ (.int .i64 t292)).setCell ⟨gb304, 5, none⟩ (.int .i64 t293)).setCell ⟨gb304, 5, none⟩ (.int .i64 59)).heap[gb304]? = some (.cells #[.int .i64 t288, .int .i64 t289, .int .i64 t290, .int .i64 t291, .int .i64 t292, .int .i64 59] 26 (0, 0))) := ⟨by refine blk_put (cs := #[.int .i64 t288, .int .i64 t289, .int .i64 t290, .int .i64 t291, .int .i64 t292, .int .i64 t293]) ?_ 5 _ rfl; refine blk_put (cs := #[.int .i64 t288, .int .i64 t289, .int .i64 t290, .int .i64 t291, .int .i64 t292, .int .i64 0]) ?_ 5 _ rfl; refine blk_put (cs := #[.int .i64 t288, .int .i64 t289, .int .i64 t290, .int .i64 t291, .int .i64 0, .int .i64 0]) ?_ 4 _ rfl; refine blk_put (cs := #[.int .i64 t288, .int .i64 t289, .int .i64 t290, .int .i64 0, .int .i64 0, .int .i64 0]) ?_ 3 _ rfl; refine blk_put (cs := #[.int .i64 t288, .int .i64 t289, .int .i64 0, .int .i64 0, .int .i64 0, .int .i64 0]) ?_ 2 _ rfl; refine blk_put (cs := #[.int .i64 t288, .int .i64 0, .int .i64 0, .int .i64 0, .int .i64 0, .int .i64 0]) ?_ 1 _ rfl; refine blk_put (cs := #[.int .i64 0, .int .i64 0, .int .i64 0, .int .i64 0, .int .i64 0, .int .i64 0]) ?_ 0 _ rfl; exact BK304.out⟩
             have s5_ : Aside0 (Below w.heap.size w (((((((w122.setCell ⟨gb304, 0, none⟩ (.int .i64 t288)).setCell ⟨gb304, 1, none⟩ (.int .i64 t289)).setCell ⟨gb304, 2, none⟩ (.int .i64 t290)).setCell ⟨gb304, 3, none⟩ (.int .i64 t291)).setCell ⟨gb304, 4, none⟩ (.int .i64 t292)).setCell ⟨gb304, 5, none⟩ (.int .i64 t293)).setCell ⟨gb304, 5, none⟩ (.int .i64 59))) := ⟨by refine below_set ?_ GE304.out; refine below_set ?_ GE304.out; refine below_set ?_ GE304.out; refine below_set ?_ GE304.out; refine below_set ?_ GE304.out; refine below_set ?_ GE304.out; refine below_set ?_ GE304.out; exact HB.out⟩
             clear hcz127_0 hcz127_1 hcz127_2 hcz127_3 hcz127_4 hcz127_5 hfz127_0 hfz127_1 hfz127_2 hfz127_3 hfz127_4 hfz127_5
             clear BK278 BK287 BK295 BK303 BK304 HB
             generalize (((((((w122.setCell ⟨gb304, 0, none⟩ (.int .i64 t288)).setCell ⟨gb304, 1, none⟩ (.int .i64 t289)).setCell ⟨gb304, 2, none⟩ (.int .i64 t290)).setCell ⟨gb304, 3, none⟩ (.int .i64 t291)).setCell ⟨gb304, 4, none⟩ (.int .i64 t292)).setCell ⟨gb304, 5, none⟩ (.int .i64 t293)).setCell ⟨gb304, 5, none⟩ (.int .i64 59)) = wz at s0_ s1_ s2_ s3_ s4_ s5_ ⊢
             have BK278 := s0_
             have BK287 := s1_
             have BK295 := s2_
             have BK303 := s3_
             have BK304 := s4_
             have HB := s5_
             clear s0_ s1_ s2_ s3_ s4_ s5_
             have hcg_0 : wz.cell? ⟨gb304, 0, none⟩ = some (.int .i64 t288) := (blk_cell BK304.out 0).trans rfl
             have hfg_0 := blk_frozen BK304.out 0
             have hcg_1 : wz.cell? ⟨gb304, 1, none⟩ = some (.int .i64 t289) := (blk_cell BK304.out 1).trans rfl
             have hfg_1 := blk_frozen BK304.out 1
             have hcg_2 : wz.cell? ⟨gb304, 2, none⟩ = some (.int .i64 t290) := (blk_cell BK304.out 2).trans rfl
             have hfg_2 := blk_frozen BK304.out 2
             have hcg_3 : wz.cell? ⟨gb304, 3, none⟩ = some (.int .i64 t291) := (blk_cell BK304.out 3).trans rfl
             have hfg_3 := blk_frozen BK304.out 3
             have hcg_4 : wz.cell? ⟨gb304, 4, none⟩ = some (.int .i64 t292) := (blk_cell BK304.out 4).trans rfl
             have hfg_4 := blk_frozen BK304.out 4
             have hcg_5 : wz.cell? ⟨gb304, 5, none⟩ = some (.int .i64 59) := (blk_cell BK304.out 5).trans rfl
             have hfg_5 := blk_frozen BK304.out 5
             go_wp2_with (((with_reducible refine gate_callee (f := 15) rfl ?_); refine goesL_ (some 140) rfl rfl Tryd.func15 (by kernel_rfl) rfl #[.slice (some ad277) l0.length c0, .agg #[.int .i64 t288, .int .i64 t289, .int .i64 t290, .int .i64 t291, .int .i64 t292, .int .i64 59]] rfl (by (try simp only [List.map_toArray, List.map_cons, List.map_nil]); first | done | rfl | (simp only [List.length_drop, List.length_take]; rfl)) ?_; (with_reducible refine (leap_ToCount.calls kj24 _ _ l0 t288 t289 t290 t291 t292 59 t305 t306 _ (hM.below (by repeat (first | (with_reducible first | exact HB.out | apply below_alloc | apply pw_below_drewN | apply below_drew1 | refine below_set ?_ GE278.out | refine below_set ?_ GE287.out | refine below_set ?_ GE295.out | refine below_set ?_ GE303.out | refine below_set ?_ GE304.out) | exact HB.out))) ?side1 ?side2 A112.out).mono ?_); (case side1 => exact Kd.C_below HR0.out (by repeat (first | (with_reducible first | exact HB.out | apply below_alloc | apply pw_below_drewN | apply below_drew1 | refine below_set ?_ GE278.out | refine below_set ?_ GE287.out | refine below_set ?_ GE295.out | refine below_set ?_ GE303.out | refine below_set ?_ GE304.out) | exact HB.out))); (case side2 => exact HC0.out); rintro e w128 ⟨rfl, hb⟩; refine ⟨_, rfl, ?_⟩; have n0_ := Aside0.mk (blk_below (g := gb278) (o := .cells #[.int .i64 ((rd_T40 l0 a1).f0), .int .i64 ((rd_T40 l0 a1).f1)] 40 (0, 0)) (by (with_reducible repeat (first | refine blk_drewN ?_ _ | refine blk_drew ?_ | refine blk_alloc ?_ _)); exact BK278.out) hb); have n1_ := Aside0.mk (blk_below (g := gb287) (o := .cells #[.int .i64 t280, .int .i64 t281, .int .i64 t282, .int .i64 t283, .int .i64 t284, .int .i64 t285] 26 (0, 0)) (by (with_reducible repeat (first | refine blk_drewN ?_ _ | refine blk_drew ?_ | refine blk_alloc ?_ _)); exact BK287.out) hb); have n2_ := Aside0.mk (blk_below (g := gb295) (o := .cells #[.int .i64 t288, .int .i64 t289, .int .i64 t290, .int .i64 t291, .int .i64 t292, .int .i64 t293] 26 (0, 0)) (by (with_reducible repeat (first | refine blk_drewN ?_ _ | refine blk_drew ?_ | refine blk_alloc ?_ _)); exact BK295.out) hb); have n3_ := Aside0.mk (blk_below (g := gb303) (o := .cells #[.int .i64 t296, .int .i64 t297, .int .i64 t298, .int .i64 t299, .int .i64 t300, .int .i64 t301] 26 (0, 0)) (by (with_reducible repeat (first | refine blk_drewN ?_ _ | refine blk_drew ?_ | refine blk_alloc ?_ _)); exact BK303.out) hb); have n4_ := Aside0.mk (blk_below (g := gb304) (o := .cells #[.int .i64 t288, .int .i64 t289, .int .i64 t290, .int .i64 t291, .int .i64 t292, .int .i64 59] 26 (0, 0)) (by (with_reducible repeat (first | refine blk_drewN ?_ _ | refine blk_drew ?_ | refine blk_alloc ?_ _)); exact BK304.out) hb); have n5_ := Aside0.mk (below_step (by repeat (first | (with_reducible first | exact HB.out | apply below_alloc | apply pw_below_drewN | apply below_drew1 | refine below_set ?_ GE278.out | refine below_set ?_ GE287.out | refine below_set ?_ GE295.out | refine below_set ?_ GE303.out | refine below_set ?_ GE304.out) | exact HB.out)) hb); clear BK278; clear BK287; clear BK295; clear BK303; clear BK304; clear HB; have BK278 := n0_; have BK287 := n1_; have BK295 := n2_; have BK303 := n3_; have BK304 := n4_; have HB := n5_; clear n0_ n1_ n2_ n3_ n4_ n5_; (try clear hb); (try clear hb2); (try clear hk); (try clear hi); have hnb129 := NB287_303.out; have hnc129 := NB303_287.out; have hcz130_0 : w128.cell? ⟨gb287, 0, none⟩ = some (.int .i64 t280) := (blk_cell BK287.out 0).trans rfl; have hcz130_1 : w128.cell? ⟨gb287, 1, none⟩ = some (.int .i64 t281) := (blk_cell BK287.out 1).trans rfl; have hcz130_2 : w128.cell? ⟨gb287, 2, none⟩ = some (.int .i64 t282) := (blk_cell BK287.out 2).trans rfl; have hcz130_3 : w128.cell? ⟨gb287, 3, none⟩ = some (.int .i64 t283) := (blk_cell BK287.out 3).trans rfl; have hcz130_4 : w128.cell? ⟨gb287, 4, none⟩ = some (.int .i64 t284) := (blk_cell BK287.out 4).trans rfl; have hcz130_5 : w128.cell? ⟨gb287, 5, none⟩ = some (.int .i64 t285) := (blk_cell BK287.out 5).trans rfl; have hfz130_0 := blk_frozen BK287.out 0; have hfz130_1 := blk_frozen BK287.out 1; have hfz130_2 := blk_frozen BK287.out 2; have hfz130_3 := blk_frozen BK287.out 3; have hfz130_4 := blk_frozen BK287.out 4; have hfz130_5 := blk_frozen BK287.out 5; have hcz131_0 : w128.cell? ⟨gb295, 0, none⟩ = some (.int .i64 t288) := (blk_cell BK295.out 0).trans rfl; have hcz131_1 : w128.cell? ⟨gb295, 1, none⟩ = some (.int .i64 t289) := (blk_cell BK295.out 1).trans rfl; have hcz131_2 : w128.cell? ⟨gb295, 2, none⟩ = some (.int .i64 t290) := (blk_cell BK295.out 2).trans rfl; have hcz131_3 : w128.cell? ⟨gb295, 3, none⟩ = some (.int .i64 t291) := (blk_cell BK295.out 3).trans rfl; have hcz131_4 : w128.cell? ⟨gb295, 4, none⟩ = some (.int .i64 t292) := (blk_cell BK295.out 4).trans rfl; have hcz131_5 : w128.cell? ⟨gb295, 5, none⟩ = some (.int .i64 t293) := (blk_cell BK295.out 5).trans rfl; have hfz131_0 := blk_frozen BK295.out 0; have hfz131_1 := blk_frozen BK295.out 1; have hfz131_2 := blk_frozen BK295.out 2; have hfz131_3 := blk_frozen BK295.out 3; have hfz131_4 := blk_frozen BK295.out 4; have hfz131_5 := blk_frozen BK295.out 5))
             go_ret
             exact ⟨by first | rfl | (simp [errW_none, errW_some] <;> rfl) | (simp [*, errW_none, errW_some] <;> rfl), by repeat (first | (with_reducible first | exact HB.out | apply below_alloc | apply pw_below_drewN | apply below_drew1 | refine below_set ?_ GE278.out | refine below_set ?_ GE287.out | refine below_set ?_ GE295.out | refine below_set ?_ GE303.out | refine below_set ?_ GE304.out) | exact HB.out)⟩
            ·rw [if_neg c114] at H
             have c114b0 : (t293 == 58) = false := beq_eq_false_iff_ne.mpr c114
             have c114b1 : (t293 != 58) = true := bne_iff_ne.mpr c114
             exact absurd ((Option.some.inj H).trans hT.out) (by decide)
           ·rw [if_neg c113] at H
            have c113b0 : (t285 == 57) = false := beq_eq_false_iff_ne.mpr c113
            have c113b1 : (t285 != 57) = true := bne_iff_ne.mpr c113
            exact absurd ((Option.some.inj H).trans hT.out) (by decide)
      ·rw [if_neg c20] at H
       exact absurd H (by simp)
     ·rw [if_neg c19] at H
      exact absurd H (by simp)
 ·replace c4 := Bool.eq_false_iff.mpr c4
  subst c4
  have H1 : (some false) = some r := by rw [if_neg (show ¬ (false = true) by decide)] at H; exact H
  clear H
  have H := H1
  clear H1
  exact absurd ((Option.some.inj H).trans hT.out) (by decide)

end Go.Proofs.YtaibmobjpheaiaaDoor.Q
