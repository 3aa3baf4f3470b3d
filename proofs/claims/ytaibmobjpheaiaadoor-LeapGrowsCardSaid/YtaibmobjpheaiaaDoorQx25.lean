/- The calls of these Go functions answer what the Lean functions beside them answer; written by a program (wip/pr2.py, out of the print of the loaded program); under no condition but those that stand in the theorems. -/
import Derived.Test.YtaibmobjpheaiaaDoorQx0
import Derived.Test.YtaibmobjpheaiaaDoorQx1
import Derived.Test.YtaibmobjpheaiaaDoorQx5
import Derived.Test.YtaibmobjpheaiaaDoorQx8
import Derived.Test.YtaibmobjpheaiaaDoorQx11
namespace Go.Proofs.YtaibmobjpheaiaaDoor.Q
open Go.RowKit Go.Proofs.YtaibmobjpheaiaaDoorW.PrintWords Go.Proofs.YtaibmobjpheaiaaDoorW.PrintLast Go.Proofs.YtaibmobjpheaiaaDoorW.PrintMore
attribute [local go_sem] max2_int min2_int max_two min_two max_three min_three max_four min_four   -- for this text's walks alone
set_option linter.unusedVariables false
set_option linter.unusedSimpArgs false

attribute [local go_sem high] eqA26
/-! ### clepsydralaw18_LeapGrows: function 8 -/
mutual
def clepsydralaw18_LeapGrows.j0 : Nat → List (S40) → Int → Bool → Int → Int → Option (Bool)
 | 0, _, _, _, _, _ => none
 | k + 1, x0, x2, x27, x308000, x308001 => if x27 = true then (some true) else ((some (([] : List (S40)) : List (S40))).bind fun y309 => (if y309.length + x0.length < 8796093022208 then ((some (y309 ++ x0 : List (S40))).bind fun y312 => ((some (([(⟨x308000, x308001⟩ : S40)] : List (S40)) : List (S40))).bind fun y315 => (if y312.length + y315.length < 8796093022208 then ((some (y312 ++ y315 : List (S40))).bind fun y318 => ((leap_Good.f k x0).bind fun t321 => (if t321 = true then ((leap_Good.f k y318).bind fun t322 => (clepsydralaw18_LeapGrows.j1 k x0 x2 y318 (!t322))) else (clepsydralaw18_LeapGrows.j1 k x0 x2 y318 true)))) else (none)))) else (none)))
def clepsydralaw18_LeapGrows.j1 : Nat → List (S40) → Int → List (S40) → Bool → Option (Bool)
 | 0, _, _, _, _ => none
 | k + 1, x0, x2, x7, x41 => if x41 = true then (some true) else ((leap_ToLabel.f k x0 x2).bind fun bt323 => ((leap_ToLabel.f k x7 x2).bind fun bt331 => (if (bt323.1 == bt331.1 && (bt323.2.1 == bt331.2.1 && (bt323.2.2.1 == bt331.2.2.1 && (bt323.2.2.2.1 == bt331.2.2.2.1 && (bt323.2.2.2.2.1 == bt331.2.2.2.2.1 && (bt323.2.2.2.2.2.1 == bt331.2.2.2.2.2.1)))))) = true then (some (bt323.2.2.2.2.2.2 == bt331.2.2.2.2.2.2)) else (some false))))
end
def clepsydralaw18_LeapGrows.f (k : Nat) (l0 : List (S40)) (a1_0 : Int) (a1_1 : Int) (a2 : Int) : Option (Bool) := (clepsydralaw18_alive.f k).bind fun t308 => (if t308 = true then (if (l0.length : Int) > 256 then (clepsydralaw18_LeapGrows.j0 k l0 a2 true a1_0 a1_1) else (if a2 > 4398046511104 then (clepsydralaw18_LeapGrows.j0 k l0 a2 true a1_0 a1_1) else (clepsydralaw18_LeapGrows.j0 k l0 a2 (decide (a2 ≥ (wrap64 (a1_0 - 1)))) a1_0 a1_1))) else (some false))
theorem clepsydralaw18_LeapGrows.mono_l : ∀ k, (∀ y0 y1 y2 y3 y4, LeO (clepsydralaw18_LeapGrows.j0 k y0 y1 y2 y3 y4) (clepsydralaw18_LeapGrows.j0 (k + 1) y0 y1 y2 y3 y4)) ∧ (∀ y0 y1 y2 y3, LeO (clepsydralaw18_LeapGrows.j1 k y0 y1 y2 y3) (clepsydralaw18_LeapGrows.j1 (k + 1) y0 y1 y2 y3))
 | 0 => ⟨fun _ _ _ _ _ r h => by simp [clepsydralaw18_LeapGrows.j0] at h, fun _ _ _ _ r h => by simp [clepsydralaw18_LeapGrows.j1] at h⟩
 | k + 1 => by
  obtain ⟨ih0, ih1⟩ := clepsydralaw18_LeapGrows.mono_l k
  refine ⟨?_, ?_⟩
  ·intro y0 y1 y2 y3 y4
   unfold clepsydralaw18_LeapGrows.j0
   repeat' first
   | (with_reducible exact ih0 _ _ _ _ _)
   | (with_reducible exact ih1 _ _ _ _)
   | (with_reducible exact clepsydralaw18_alive.mono _)
   | (with_reducible exact leap_Good.mono _ _)
   | (with_reducible exact leap_ToLabel.mono _ _ _)
   | (with_reducible exact LeO.refl _)
   | (with_reducible exact LeO.none _)
   | (with_reducible refine LeO.ite ?_ ?_)
   | (with_reducible refine LeO.bind ?_ (fun _ => ?_))
   | exact ih0 _ _ _ _ _
   | exact ih1 _ _ _ _
   | exact clepsydralaw18_alive.mono _
   | exact leap_Good.mono _ _
   | exact leap_ToLabel.mono _ _ _
   | exact LeO.none _
   | refine LeO.ite ?_ ?_
   | refine LeO.bind ?_ (fun _ => ?_)
  ·intro y0 y1 y2 y3
   unfold clepsydralaw18_LeapGrows.j1
   repeat' first
   | (with_reducible exact ih0 _ _ _ _ _)
   | (with_reducible exact ih1 _ _ _ _)
   | (with_reducible exact clepsydralaw18_alive.mono _)
   | (with_reducible exact leap_Good.mono _ _)
   | (with_reducible exact leap_ToLabel.mono _ _ _)
   | (with_reducible exact LeO.refl _)
   | (with_reducible exact LeO.none _)
   | (with_reducible refine LeO.ite ?_ ?_)
   | (with_reducible refine LeO.bind ?_ (fun _ => ?_))
   | exact ih0 _ _ _ _ _
   | exact ih1 _ _ _ _
   | exact clepsydralaw18_alive.mono _
   | exact leap_Good.mono _ _
   | exact leap_ToLabel.mono _ _ _
   | exact LeO.none _
   | refine LeO.ite ?_ ?_
   | refine LeO.bind ?_ (fun _ => ?_)
theorem clepsydralaw18_LeapGrows.mono : ∀ a0 a1 a2 a3 k, LeO (clepsydralaw18_LeapGrows.f k a0 a1 a2 a3) (clepsydralaw18_LeapGrows.f (k + 1) a0 a1 a2 a3) := by
 intro a0 a1 a2 a3 k
 obtain ⟨ih0, ih1⟩ := clepsydralaw18_LeapGrows.mono_l k
 unfold clepsydralaw18_LeapGrows.f
 repeat' first
   | (with_reducible exact ih0 _ _ _ _ _)
   | (with_reducible exact ih1 _ _ _ _)
   | (with_reducible exact clepsydralaw18_alive.mono _)
   | (with_reducible exact leap_Good.mono _ _)
   | (with_reducible exact leap_ToLabel.mono _ _ _)
   | (with_reducible exact LeO.refl _)
   | (with_reducible exact LeO.none _)
   | (with_reducible refine LeO.ite ?_ ?_)
   | (with_reducible refine LeO.bind ?_ (fun _ => ?_))
   | exact ih0 _ _ _ _ _
   | exact ih1 _ _ _ _
   | exact clepsydralaw18_alive.mono _
   | exact leap_Good.mono _ _
   | exact leap_ToLabel.mono _ _ _
   | exact LeO.none _
   | refine LeO.ite ?_ ?_
   | refine LeO.bind ?_ (fun _ => ?_)
set_option maxHeartbeats 8000000 in
set_option maxRecDepth 100000 in
theorem clepsydralaw18_LeapGrows.calls (k : Nat) (A0 : Option Addr) (c0 : Nat) (l0 : List (S40)) (a1_0 : Int) (a1_1 : Int) (a2 : Int) (r : Bool) (w : World) (hM : GM w) (hr0 : Kd.C k40 w A0 l0.length l0) (hc0 : l0.length ≤ c0) (hT : Aside0 (r = true)) (h : clepsydralaw18_LeapGrows.f k l0 a1_0 a1_1 a2 = some r) :
  Calls Tryd.prog 8 #[.slice A0 l0.length c0, .agg #[.int .i64 a1_0, .int .i64 a1_1], .int .i64 a2] w fun e w' => e = .returned (.bool r) ∧ Below w.heap.size w w' := by
 have hu40 := Tryd.underlying40
 have hu26 := Tryd.underlying26
 have HR0 := Aside0.mk hr0
 have HC0 := Aside0.mk hc0
 clear hr0 hc0
 have HB := Aside0.mk (Below.refl w.heap.size w)
 have H : ((clepsydralaw18_alive.f k).bind fun t308 => (if t308 = true then (if (l0.length : Int) > 256 then (clepsydralaw18_LeapGrows.j0 k l0 a2 true a1_0 a1_1) else (if a2 > 4398046511104 then (clepsydralaw18_LeapGrows.j0 k l0 a2 true a1_0 a1_1) else (clepsydralaw18_LeapGrows.j0 k l0 a2 (decide (a2 ≥ (wrap64 (a1_0 - 1)))) a1_0 a1_1))) else (some false))) = some r := h
 clear h
 replace H := Option.bind_eq_some_iff.mp H
 obtain ⟨t308, A40, H⟩ := H
 replace H : (if t308 = true then (if (l0.length : Int) > 256 then (clepsydralaw18_LeapGrows.j0 k l0 a2 true a1_0 a1_1) else (if a2 > 4398046511104 then (clepsydralaw18_LeapGrows.j0 k l0 a2 true a1_0 a1_1) else (clepsydralaw18_LeapGrows.j0 k l0 a2 (decide (a2 ≥ (wrap64 (a1_0 - 1)))) a1_0 a1_1))) else (some false)) = some r := H
 have A4 := Aside0.mk A40
 clear A40
 by_cases c5 : t308 = true
 ·subst c5
  have H1 : (if (l0.length : Int) > 256 then (clepsydralaw18_LeapGrows.j0 k l0 a2 true a1_0 a1_1) else (if a2 > 4398046511104 then (clepsydralaw18_LeapGrows.j0 k l0 a2 true a1_0 a1_1) else (clepsydralaw18_LeapGrows.j0 k l0 a2 (decide (a2 ≥ (wrap64 (a1_0 - 1)))) a1_0 a1_1))) = some r := by rw [if_pos rfl] at H; exact H
  clear H
  have H := H1
  clear H1
  have HC6 := Aside0.mk H
  clear H
  go_enter Tryd.func8, Tryd.ntmps8
  go_upto_region 3 with (first | ((with_reducible refine gate_dst (N := 4) rfl ?_); refine box_event ?hg (N := 4) ?hd (cs := #[.int .i64 a1_0, .int .i64 a1_1]) (t := 40) ?hr ?_; (case hd => rfl); (case hg => rfl); (case hr => first | (go_simp; done) | (go_simp; rfl)); intro gb307 hg w7 hbox hb; have n0_ := Aside0.mk (below_step (by repeat (first | (with_reducible first | exact HB.out | apply below_alloc | apply pw_below_drewN | apply below_drew1) | exact HB.out)) hb); have n1_ := Aside0.mk (hbox); have n2_ := Aside0.mk ((by rw [hg]; exact (below_size (by repeat (first | (with_reducible first | exact HB.out | apply below_alloc | apply pw_below_drewN | apply below_drew1) | exact HB.out))) : w.heap.size ≤ gb307)); have n3_ := Aside0.mk ((by rw [hg]; exact (below_size (by repeat (first | (with_reducible first | exact HB.out | apply below_alloc | apply pw_below_drewN | apply below_drew1) | exact HB.out))) : w.heap.size ≤ gb307)); clear HB; have HB := n0_; have BK307 := n1_; have GW307 := n2_; have GE307 := n3_; clear n0_ n1_ n2_ n3_; clear hb hbox hg) | ((with_reducible refine gate_callee (f := 10) rfl ?_); refine goesL_ (some 12) rfl rfl Tryd.func10 (by kernel_rfl) rfl #[] rfl (by (try simp only [List.map_toArray, List.map_cons, List.map_nil]); first | done | rfl | (simp only [List.length_drop, List.length_take]; rfl)) ?_; (with_reducible refine (clepsydralaw18_alive.calls k  true _ (by first | exact hM | exact hM.below HB.out | repeat (first | exact hM | exact hM.below HB.out | apply GM.drewN | apply GM.drew)) A4.out).mono ?_); rintro e w8 ⟨rfl, hb⟩; refine ⟨_, rfl, ?_⟩; have n0_ := Aside0.mk (blk_below (g := gb307) (o := .cells #[.int .i64 a1_0, .int .i64 a1_1] 40 (0, 0)) (by (with_reducible repeat (first | refine blk_drewN ?_ _ | refine blk_drew ?_ | refine blk_alloc ?_ _)); exact BK307.out) hb); have n1_ := Aside0.mk (below_step (by repeat (first | (with_reducible first | exact HB.out | apply below_alloc | apply pw_below_drewN | apply below_drew1 | refine below_set ?_ GE307.out) | exact HB.out)) hb); clear BK307; clear HB; have BK307 := n0_; have HB := n1_; clear n0_ n1_; (try clear hb); (try clear hb2); (try clear hk); (try clear hi)))
  (try simp only [Act.put, List.setIfInBounds_toArray, List.set_cons_zero, List.set_cons_succ])
  go_cut [27] (fun v27 wc => ∃ (kq : Nat) (x27_5 : Bool), v27 = .bool x27_5 ∧ Aside0 (clepsydralaw18_LeapGrows.j0 kq l0 a2 x27_5 a1_0 a1_1 = some r) ∧ Aside0 (kq ≤ k) ∧ Aside0 (wc.heap[gb307]? = some (.cells #[.int .i64 a1_0, .int .i64 a1_1] 40 (0, 0))) ∧ Aside0 (Below w.heap.size w wc))
  case first =>
   have H := HC6.out
   clear HC6
   by_cases c9 : (l0.length : Int) > 256
   ·rw [if_pos c9] at H
    have c9b0 : decide (256 < (l0.length : Int)) = true := decide_eq_true c9
    have c9b1 : decide (256 < l0.length) = true := decide_eq_true (by omega)
    clear c9
    (first | rw [c9b0] | (simp only [i64_w, i32_w]; rw [c9b0]) | skip)
    have H' := Aside0.mk H
    clear H
    go_wp2
    go_meet
    case rel => exact ⟨_, (true), (by first | rfl | (simp; done) | (simp [*]; done) | (simp [Int.tdiv_eq_ediv_of_nonneg]; done) | (simp [Go.RowKit.wrap64]; done) | (simp [*, Go.RowKit.wrap64]; done)), H', ⟨by first | omega | exact Nat.le_refl _⟩, ⟨by (with_reducible repeat (first | refine blk_drewN ?_ _ | refine blk_drew ?_ | refine blk_alloc ?_ _)); exact BK307.out⟩, ⟨by repeat (first | (with_reducible first | exact HB.out | apply below_alloc | apply pw_below_drewN | apply below_drew1 | refine below_set ?_ GE307.out) | exact HB.out)⟩⟩
   ·rw [if_neg c9] at H
    have c9b0 : decide (256 < (l0.length : Int)) = false := decide_eq_false c9
    have c9b1 : decide (256 < l0.length) = false := decide_eq_false (by omega)
    clear c9
    (first | rw [c9b0] | (simp only [i64_w, i32_w]; rw [c9b0]) | skip)
    by_cases c10 : a2 > 4398046511104
    ·rw [if_pos c10] at H
     have c10b0 : decide (4398046511104 < a2) = true := decide_eq_true c10
     clear c10
     have H' := Aside0.mk H
     clear H
     go_wp2
     go_meet
     case rel => exact ⟨_, (true), (by first | rfl | (simp; done) | (simp [*]; done) | (simp [Int.tdiv_eq_ediv_of_nonneg]; done) | (simp [Go.RowKit.wrap64]; done) | (simp [*, Go.RowKit.wrap64]; done)), H', ⟨by first | omega | exact Nat.le_refl _⟩, ⟨by (with_reducible repeat (first | refine blk_drewN ?_ _ | refine blk_drew ?_ | refine blk_alloc ?_ _)); exact BK307.out⟩, ⟨by repeat (first | (with_reducible first | exact HB.out | apply below_alloc | apply pw_below_drewN | apply below_drew1 | refine below_set ?_ GE307.out) | exact HB.out)⟩⟩
    ·rw [if_neg c10] at H
     have c10b0 : decide (4398046511104 < a2) = false := decide_eq_false c10
     clear c10
     have H' := Aside0.mk H
     clear H
     have hcz11_0 : w8.cell? ⟨gb307, 0, none⟩ = some (.int .i64 a1_0) := (blk_cell BK307.out 0).trans rfl
     have hfz11_0 := blk_frozen BK307.out 0
     go_wp2
     go_meet
     case rel => exact ⟨_, (decide (a2 ≥ (wrap64 (a1_0 - 1)))), (by first | rfl | (simp; done) | (simp [*]; done) | (simp [Int.tdiv_eq_ediv_of_nonneg]; done) | (simp [Go.RowKit.wrap64]; done) | (simp [*, Go.RowKit.wrap64]; done)), H', ⟨by first | omega | exact Nat.le_refl _⟩, ⟨by (with_reducible repeat (first | refine blk_drewN ?_ _ | refine blk_drew ?_ | refine blk_alloc ?_ _)); exact BK307.out⟩, ⟨by repeat (first | (with_reducible first | exact HB.out | apply below_alloc | apply pw_below_drewN | apply below_drew1 | refine below_set ?_ GE307.out) | exact HB.out)⟩⟩
  case rest =>
   clear HC6
   try clear c1
   try clear p2
   try clear c5
   try clear p6
   try clear c8
   try clear c9
   try clear c9b0
   try clear c9b1
   try clear c10
   try clear c10b0
   try clear hcz11_0
   try clear hfz11_0
   obtain ⟨kq, x27_5, rfl, HA, HJ5, BK307, HB⟩ := hcut
   cases kq with
   | zero => exact absurd HA.out (by simp [clepsydralaw18_LeapGrows.j0])
   | succ kj5 =>
    have H := HA.out
    clear HA
    simp only [clepsydralaw18_LeapGrows.j0] at H
    by_cases c12 : x27_5 = true
    ·subst c12
     have H1 : (some true) = some r := by rw [if_pos rfl] at H; exact H
     clear H
     have H := H1
     clear H1
     obtain rfl := Option.some.inj H
     go_wp2
     go_ret
     exact ⟨by first | rfl | (simp [errW_none, errW_some] <;> rfl) | (simp [*, errW_none, errW_some] <;> rfl), by repeat (first | (with_reducible first | exact HB.out | apply below_alloc | apply pw_below_drewN | apply below_drew1 | refine below_set ?_ GE307.out) | exact HB.out)⟩
    ·replace c12 := Bool.eq_false_iff.mpr c12
     subst c12
     have H1 : ((some (([] : List (S40)) : List (S40))).bind fun y309 => (if y309.length + l0.length < 8796093022208 then ((some (y309 ++ l0 : List (S40))).bind fun y312 => ((some (([(⟨a1_0, a1_1⟩ : S40)] : List (S40)) : List (S40))).bind fun y315 => (if y312.length + y315.length < 8796093022208 then ((some (y312 ++ y315 : List (S40))).bind fun y318 => ((leap_Good.f kj5 l0).bind fun t321 => (if t321 = true then ((leap_Good.f kj5 y318).bind fun t322 => (clepsydralaw18_LeapGrows.j1 kj5 l0 a2 y318 (!t322))) else (clepsydralaw18_LeapGrows.j1 kj5 l0 a2 y318 true)))) else (none)))) else (none))) = some r := by rw [if_neg (show ¬ (false = true) by decide)] at H; exact H
     clear H
     have H := H1
     clear H1
     obtain ⟨y309, hy309⟩ : ∃ y_ : List (S40), y_ = (([] : List (S40))) := ⟨_, rfl⟩
     replace H : (if y309.length + l0.length < 8796093022208 then ((some (y309 ++ l0 : List (S40))).bind fun y312 => ((some (([(⟨a1_0, a1_1⟩ : S40)] : List (S40)) : List (S40))).bind fun y315 => (if y312.length + y315.length < 8796093022208 then ((some (y312 ++ y315 : List (S40))).bind fun y318 => ((leap_Good.f kj5 l0).bind fun t321 => (if t321 = true then ((leap_Good.f kj5 y318).bind fun t322 => (clepsydralaw18_LeapGrows.j1 kj5 l0 a2 y318 (!t322))) else (clepsydralaw18_LeapGrows.j1 kj5 l0 a2 y318 true)))) else (none)))) else (none)) = some r := by first | (rw [hy309]; with_reducible exact H) | (have H2_ := (Option.bind_some _ _).symm.trans H; rw [hy309]; with_reducible exact H2_) | (have H2_ := (Option.bind_some _ _).symm.trans H; with_reducible exact H2_) | with_reducible exact H | (rw [hy309]; exact H) | exact H
     have Ny309 := Aside0.mk hy309
     clear hy309
     by_cases c13 : y309.length + l0.length < 8796093022208
     ·rw [if_pos c13] at H
      have LMc13 := Aside0.mk c13
      clear c13
      obtain ⟨y312, hy312⟩ : ∃ y_ : List (S40), y_ = (y309 ++ l0) := ⟨_, rfl⟩
      replace H : ((some (([(⟨a1_0, a1_1⟩ : S40)] : List (S40)) : List (S40))).bind fun y315 => (if y312.length + y315.length < 8796093022208 then ((some (y312 ++ y315 : List (S40))).bind fun y318 => ((leap_Good.f kj5 l0).bind fun t321 => (if t321 = true then ((leap_Good.f kj5 y318).bind fun t322 => (clepsydralaw18_LeapGrows.j1 kj5 l0 a2 y318 (!t322))) else (clepsydralaw18_LeapGrows.j1 kj5 l0 a2 y318 true)))) else (none))) = some r := by first | (rw [hy312]; with_reducible exact H) | (have H2_ := (Option.bind_some _ _).symm.trans H; rw [hy312]; with_reducible exact H2_) | (have H2_ := (Option.bind_some _ _).symm.trans H; with_reducible exact H2_) | with_reducible exact H | (rw [hy312]; exact H) | exact H
      have Ny312 := Aside0.mk hy312
      clear hy312
      obtain ⟨y315, hy315⟩ : ∃ y_ : List (S40), y_ = (([(⟨a1_0, a1_1⟩ : S40)] : List (S40))) := ⟨_, rfl⟩
      replace H : (if y312.length + y315.length < 8796093022208 then ((some (y312 ++ y315 : List (S40))).bind fun y318 => ((leap_Good.f kj5 l0).bind fun t321 => (if t321 = true then ((leap_Good.f kj5 y318).bind fun t322 => (clepsydralaw18_LeapGrows.j1 kj5 l0 a2 y318 (!t322))) else (clepsydralaw18_LeapGrows.j1 kj5 l0 a2 y318 true)))) else (none)) = some r := by first | (rw [hy315]; with_reducible exact H) | (have H2_ := (Option.bind_some _ _).symm.trans H; rw [hy315]; with_reducible exact H2_) | (have H2_ := (Option.bind_some _ _).symm.trans H; with_reducible exact H2_) | with_reducible exact H | (rw [hy315]; exact H) | exact H
      have Ny315 := Aside0.mk hy315
      clear hy315
      by_cases c14 : y312.length + y315.length < 8796093022208
      ·rw [if_pos c14] at H
       have LMc14 := Aside0.mk c14
       clear c14
       obtain ⟨y318, hy318⟩ : ∃ y_ : List (S40), y_ = (y312 ++ y315) := ⟨_, rfl⟩
       replace H : ((leap_Good.f kj5 l0).bind fun t321 => (if t321 = true then ((leap_Good.f kj5 y318).bind fun t322 => (clepsydralaw18_LeapGrows.j1 kj5 l0 a2 y318 (!t322))) else (clepsydralaw18_LeapGrows.j1 kj5 l0 a2 y318 true))) = some r := by first | (rw [hy318]; with_reducible exact H) | (have H2_ := (Option.bind_some _ _).symm.trans H; rw [hy318]; with_reducible exact H2_) | (have H2_ := (Option.bind_some _ _).symm.trans H; with_reducible exact H2_) | with_reducible exact H | (rw [hy318]; exact H) | exact H
       have Ny318 := Aside0.mk hy318
       clear hy318
       have HC15 := Aside0.mk H
       clear H
       try go_wp2
       have n0_ := Aside0.mk (blk_drew BK307.out)
       have n1_ := Aside0.mk (below_drew1 HB.out)
       clear BK307
       clear HB
       have BK307 := n0_
       have HB := n1_
       clear n0_ n1_
       refine start_ (n := 7) (S := fun w' => w'.cell? ⟨gb307, 0, none⟩ = some (.int .i64 a1_0) ∧ w'.cell? ⟨gb307, 1, none⟩ = some (.int .i64 a1_1)) (ds := []) #[false, false, false, false, false, false, false] (by kernel_rfl) rfl rfl ⟨(blk_cell BK307.out 0).trans rfl, (blk_cell BK307.out 1).trans rfl⟩ (fun hHeld => ?_)
       generalize wc.drew = w16 at BK307 HB hHeld ⊢
       refine pure_ (i := 1) (N := some 29) (v := ?_) (a' := ?_) #[false, true, false, false, false, false, false] rfl rfl (by kernel_rfl) (fun _ _ _ h => h) (Or.inl ⟨by rfl, ?_⟩) ?_ ?_
       rotate_left
       ·intro w'
        go_simp
        with_reducible rfl
       rotate_left
       ·simp only [Act.put, List.setIfInBounds_toArray, List.set_cons_zero, List.set_cons_succ, i64_w, i32_w]
        rfl
       refine take_ (i := 3) (N := some 31) (v := ?_) (a' := ?_) #[false, true, false, true, false, false, false] rfl rfl (by kernel_rfl) (fun _ _ _ h => h) (Or.inl ⟨by rfl, ?_⟩) hHeld ?_ ?_
       rotate_left
       ·rintro w' ⟨s0, s1⟩
        go_simp
        with_reducible rfl
       rotate_left
       ·simp only [Act.put, List.setIfInBounds_toArray, List.set_cons_zero, List.set_cons_succ, i64_w, i32_w]
        rfl
       refine join_ (σ := Value × Value × Value) 2 #[true, true, true, true, true, false, false] (fun s_ => [(28, s_.1), (30, s_.2.1), (32, s_.2.2)]) (fun s_ w' => (w'.cell? ⟨gb307, 0, none⟩ = some (.int .i64 a1_0) ∧ w'.cell? ⟨gb307, 1, none⟩ = some (.int .i64 a1_1)) ∧ (Kd.R k40 40 w' w.heap.size (fun k_ => some k_ ≠ (s_.2.2 : Value).ownBlock ∧ k_ ≠ gb307) s_.2.1 y312) ∧ (Kd.R k40 40 w' w.heap.size (fun k_ => some k_ ≠ (s_.2.1 : Value).ownBlock ∧ k_ ≠ gb307) s_.2.2 y315) ∧ (w'.heap[gb307]? = some (.cells #[.int .i64 a1_0, .int .i64 a1_1] 40 (0, 0))) ∧ (Below w.heap.size w w')) ?_ ?_
       rotate_left
       ·intro hCont
        refine two_ (i := 0) (j := 4) (Ni := some 28) (Nj := some 32) #[true, true, false, true, false, false, false] #[false, true, false, true, true, false, false] rfl rfl rfl rfl (by kernel_rfl) (by decide) (by decide) (fun K hK => ?_) (fun K hK => ?_)
        ·skip
         refine Kd.R_lit_step k40 _ 40 ?hg (N := 28) ?hd (xs := ([] : List (S40))) (inner := []) (ok := fun _ => True) (okp := fun _ => True) ?hr ?hp (fun _ hk => hk) trivial (Below.refl _ _) (Nat.le_refl _) (by simp) ?_; (case hd => rfl); (case hg => rfl); (case hr => first | (go_simp; done) | (go_simp; rfl)); (case hp => exact (Reps.none _ _))
         intro v310 w17 ho18 hb hg_ hnew_
         clear hg_ hnew_
         (first | rw [← Ny309.out] at ho18 | (simp only [Int.reduceToNat] at ho18; rw [← Ny309.out] at ho18))
         have n0_ := Aside0.mk (Kd.R_lower (Kd.R_newB ho18 (g := gb307) (o := .cells #[.int .i64 a1_0, .int .i64 a1_1] 40 (0, 0)) (by (with_reducible repeat (first | refine blk_drewN ?_ _ | refine blk_drew ?_ | refine blk_alloc ?_ _)); exact BK307.out)) (below_size (by repeat (first | (with_reducible first | exact HB.out | apply below_alloc | apply pw_below_drewN | apply below_drew1 | refine below_set ?_ GE307.out) | exact HB.out))))
         have n1_ := Aside0.mk (blk_below (g := gb307) (o := .cells #[.int .i64 a1_0, .int .i64 a1_1] 40 (0, 0)) (by (with_reducible repeat (first | refine blk_drewN ?_ _ | refine blk_drew ?_ | refine blk_alloc ?_ _)); exact BK307.out) hb)
         have n2_ := Aside0.mk (below_step (by repeat (first | (with_reducible first | exact HB.out | apply below_alloc | apply pw_below_drewN | apply below_drew1 | refine below_set ?_ GE307.out) | exact HB.out)) hb)
         clear BK307
         clear HB
         have HO311 := n0_
         have BK307 := n1_
         have HB := n2_
         clear n0_ n1_ n2_
         clear hb ho18
         refine hK.out _ _ ⟨(blk_cell BK307.out 0).trans rfl, (blk_cell BK307.out 1).trans rfl⟩ (fun hHeld => ?_)
         clear hK K
         refine norm_ (a' := ?_) ?_ ?_
         rotate_left
         ·show Act.put _ (some 28) _ = _
          simp only [Act.put, List.setIfInBounds_toArray, List.set_cons_zero, List.set_cons_succ, i64_w, i32_w]
          rfl
         refine two_ (i := 2) (j := 4) (Ni := some 30) (Nj := some 32) #[true, true, true, true, false, false, false] #[true, true, false, true, true, false, false] rfl rfl rfl rfl (by kernel_rfl) (by decide) (by decide) (fun K hK => ?_) (fun K hK => ?_)
         ·skip
          refine Kd.R_append_rows_step k40 (w0 := w) w.heap.size (by rfl) (.tmp 28) (.tmp 29) 22 40 (.agg #[(.int .i64 0), (.int .i64 0)]) 16 rfl Tryd.underlying22 info40 rfl (by decide) (by omega) v310 y309 l0 _ _ _ (fun k_ => k_ ≠ gb307) (fun _ => False) rfl rfl ?aO ?aR (fun _ _ h => h) (fun _ h => h.elim) ?aF ?aB ?aS ?aL ?_
          (case aR => repeat (first | exact (Kd.C_below HR0.out HB.out) | (with_reducible refine Kd.C_alloc ?_ _) | (with_reducible refine Kd.C_drewN ?_ _) | (with_reducible refine Kd.C_drew ?_)))
          (case aB => exact (by repeat (first | (with_reducible first | exact HB.out | apply below_alloc | apply pw_below_drewN | apply below_drew1 | refine below_set ?_ GE307.out) | exact HB.out)))
          (case aF => exact (fun k_ hk => Kd.freshB (g := gb307) (o := .cells #[.int .i64 a1_0, .int .i64 a1_1] 40 (0, 0)) (by (with_reducible repeat (first | refine blk_drewN ?_ _ | refine blk_drew ?_ | refine blk_alloc ?_ _)); exact BK307.out) k_ hk))
          (case aO => exact (by (with_reducible repeat (first | apply Kd.R_alloc | apply Kd.R_drewN | apply Kd.R_drew)); exact Kd.R_mono HO311.out (fun _ hk => hk.2)))
          (case aS => exact (below_size (by repeat (first | (with_reducible first | exact HB.out | apply below_alloc | apply pw_below_drewN | apply below_drew1 | refine below_set ?_ GE307.out) | exact HB.out))))
          (case aL => have := LMc13.out; omega)
          intro v313 w19 ho hb hg hat
          rw [← Ny312.out] at ho
          have n0_ := Aside0.mk (blk_grown (g := gb307) (o := .cells #[.int .i64 a1_0, .int .i64 a1_1] 40 (0, 0)) (by (with_reducible repeat (first | refine blk_drewN ?_ _ | refine blk_drew ?_ | refine blk_alloc ?_ _)); exact BK307.out) hg (Kd.R_away HO311.out (fun _ hk => hk.2)))
          have n1_ := Aside0.mk (hb)
          have n2_ := Aside0.mk (ho)
          clear BK307
          clear HB
          clear HO311
          have BK307 := n0_
          have HB := n1_
          have HO314 := n2_
          clear n0_ n1_ n2_
          clear ho hb hg hat
          refine hK.out _ _ ⟨(blk_cell BK307.out 0).trans rfl, (blk_cell BK307.out 1).trans rfl⟩ (fun hHeld => ?_)
          clear hK K
          refine norm_ (a' := ?_) ?_ ?_
          rotate_left
          ·show Act.put _ (some 30) _ = _
           simp only [Act.put, List.setIfInBounds_toArray, List.set_cons_zero, List.set_cons_succ, i64_w, i32_w]
           rfl
          refine one_ (i := 4) (N := some 32) #[true, true, true, true, true, false, false] rfl rfl (by kernel_rfl) (by decide) (fun K hK => ?_)
          refine Kd.R_lit_step k40 _ 40 ?hg (N := 32) ?hd (xs := ([(⟨a1_0, a1_1⟩ : S40)] : List (S40))) (inner := [.int .i64 a1_0, .int .i64 a1_1]) (ok := fun _ => True) (okp := fun _ => True) ?hr ?hp (fun _ hk => hk) trivial (Below.refl _ _) (Nat.le_refl _) (by simp) ?_; (case hd => rfl); (case hg => rfl); (case hr => first | (go_simp; done) | (go_simp; rfl)); (case hp => exact (Reps.c2 (show Kd.M k40 _ _ _ (⟨a1_0, a1_1⟩ : S40) [.int .i64 a1_0, .int .i64 a1_1] from (k40_mkM _ _ _ (⟨a1_0, a1_1⟩ : S40) )) (Reps.none _ _)))
          intro v316 w20 ho21 hb hg_ hnew_
          clear hg_ hnew_
          (first | rw [← Ny315.out] at ho21 | (simp only [Int.reduceToNat] at ho21; rw [← Ny315.out] at ho21))
          have n0_ := Aside0.mk (Kd.R_elder' (by (with_reducible repeat (first | apply Kd.R_alloc | apply Kd.R_drewN | apply Kd.R_drew)); exact HO314.out) (Kd.R_base ho21) hb)
          have n1_ := Aside0.mk (Kd.R_lower (Kd.R_newB (Kd.R_new' ho21 (Kd.R_lt (by (with_reducible repeat (first | apply Kd.R_alloc | apply Kd.R_drewN | apply Kd.R_drew)); exact HO314.out))) (g := gb307) (o := .cells #[.int .i64 a1_0, .int .i64 a1_1] 40 (0, 0)) (by (with_reducible repeat (first | refine blk_drewN ?_ _ | refine blk_drew ?_ | refine blk_alloc ?_ _)); exact BK307.out)) (below_size (by repeat (first | (with_reducible first | exact HB.out | apply below_alloc | apply pw_below_drewN | apply below_drew1 | refine below_set ?_ GE307.out) | exact HB.out))))
          have n2_ := Aside0.mk (blk_below (g := gb307) (o := .cells #[.int .i64 a1_0, .int .i64 a1_1] 40 (0, 0)) (by (with_reducible repeat (first | refine blk_drewN ?_ _ | refine blk_drew ?_ | refine blk_alloc ?_ _)); exact BK307.out) hb)
          have n3_ := Aside0.mk (below_step (by repeat (first | (with_reducible first | exact HB.out | apply below_alloc | apply pw_below_drewN | apply below_drew1 | refine below_set ?_ GE307.out) | exact HB.out)) hb)
          clear HO314
          clear BK307
          clear HB
          have HO314 := n0_
          have HO317 := n1_
          have BK307 := n2_
          have HB := n3_
          clear n0_ n1_ n2_ n3_
          clear hb ho21
          refine hK.out _ _ ⟨(blk_cell BK307.out 0).trans rfl, (blk_cell BK307.out 1).trans rfl⟩ (fun hHeld => ?_)
          clear hK K
          refine norm_ (a' := ?_) ?_ ?_
          rotate_left
          ·show Act.put _ (some 32) _ = _
           simp only [Act.put, List.setIfInBounds_toArray, List.set_cons_zero, List.set_cons_succ, i64_w, i32_w]
           rfl
          exact norm_ (by simp only [putAll, Act.put, List.setIfInBounds_toArray, List.set_cons_zero, List.set_cons_succ]) (hCont (v310, v313, v316) _ ⟨hHeld, (by (with_reducible repeat (first | apply Kd.R_alloc | apply Kd.R_drewN | apply Kd.R_drew)); exact Kd.R_mono HO314.out (fun _ hk => ⟨hk.2, hk.1⟩)), (by (with_reducible repeat (first | apply Kd.R_alloc | apply Kd.R_drewN | apply Kd.R_drew)); exact Kd.R_mono HO317.out (fun _ hk => ⟨hk.1.2, hk.2⟩)), (by (with_reducible repeat (first | refine blk_drewN ?_ _ | refine blk_drew ?_ | refine blk_alloc ?_ _)); exact BK307.out), (by repeat (first | (with_reducible first | exact HB.out | apply below_alloc | apply pw_below_drewN | apply below_drew1 | refine below_set ?_ GE307.out) | exact HB.out))⟩)
         ·skip
          refine Kd.R_lit_step k40 _ 40 ?hg (N := 32) ?hd (xs := ([(⟨a1_0, a1_1⟩ : S40)] : List (S40))) (inner := [.int .i64 a1_0, .int .i64 a1_1]) (ok := fun _ => True) (okp := fun _ => True) ?hr ?hp (fun _ hk => hk) trivial (Below.refl _ _) (Nat.le_refl _) (by simp) ?_; (case hd => rfl); (case hg => rfl); (case hr => first | (go_simp; done) | (go_simp; rfl)); (case hp => exact (Reps.c2 (show Kd.M k40 _ _ _ (⟨a1_0, a1_1⟩ : S40) [.int .i64 a1_0, .int .i64 a1_1] from (k40_mkM _ _ _ (⟨a1_0, a1_1⟩ : S40) )) (Reps.none _ _)))
          intro v316 w19 ho20 hb hg_ hnew_
          clear hg_ hnew_
          (first | rw [← Ny315.out] at ho20 | (simp only [Int.reduceToNat] at ho20; rw [← Ny315.out] at ho20))
          have n0_ := Aside0.mk (Kd.R_elder' (by (with_reducible repeat (first | apply Kd.R_alloc | apply Kd.R_drewN | apply Kd.R_drew)); exact HO311.out) (Kd.R_base ho20) hb)
          have n1_ := Aside0.mk (Kd.R_lower (Kd.R_newB (Kd.R_new' ho20 (Kd.R_lt (by (with_reducible repeat (first | apply Kd.R_alloc | apply Kd.R_drewN | apply Kd.R_drew)); exact HO311.out))) (g := gb307) (o := .cells #[.int .i64 a1_0, .int .i64 a1_1] 40 (0, 0)) (by (with_reducible repeat (first | refine blk_drewN ?_ _ | refine blk_drew ?_ | refine blk_alloc ?_ _)); exact BK307.out)) (below_size (by repeat (first | (with_reducible first | exact HB.out | apply below_alloc | apply pw_below_drewN | apply below_drew1 | refine below_set ?_ GE307.out) | exact HB.out))))
          have n2_ := Aside0.mk (blk_below (g := gb307) (o := .cells #[.int .i64 a1_0, .int .i64 a1_1] 40 (0, 0)) (by (with_reducible repeat (first | refine blk_drewN ?_ _ | refine blk_drew ?_ | refine blk_alloc ?_ _)); exact BK307.out) hb)
          have n3_ := Aside0.mk (below_step (by repeat (first | (with_reducible first | exact HB.out | apply below_alloc | apply pw_below_drewN | apply below_drew1 | refine below_set ?_ GE307.out) | exact HB.out)) hb)
          clear HO311
          clear BK307
          clear HB
          have HO311 := n0_
          have HO317 := n1_
          have BK307 := n2_
          have HB := n3_
          clear n0_ n1_ n2_ n3_
          clear hb ho20
          refine hK.out _ _ ⟨(blk_cell BK307.out 0).trans rfl, (blk_cell BK307.out 1).trans rfl⟩ (fun hHeld => ?_)
          clear hK K
          refine norm_ (a' := ?_) ?_ ?_
          rotate_left
          ·show Act.put _ (some 32) _ = _
           simp only [Act.put, List.setIfInBounds_toArray, List.set_cons_zero, List.set_cons_succ, i64_w, i32_w]
           rfl
          refine one_ (i := 2) (N := some 30) #[true, true, true, true, true, false, false] rfl rfl (by kernel_rfl) (by decide) (fun K hK => ?_)
          refine Kd.R_append_rows_step k40 (w0 := w) w.heap.size (by rfl) (.tmp 28) (.tmp 29) 22 40 (.agg #[(.int .i64 0), (.int .i64 0)]) 16 rfl Tryd.underlying22 info40 rfl (by decide) (by omega) v310 y309 l0 _ _ _ (fun k_ => some k_ ≠ (v316 : Value).ownBlock ∧ k_ ≠ gb307) (fun _ => False) rfl rfl ?aO ?aR (fun _ _ h => h) (fun _ h => h.elim) ?aF ?aB ?aS ?aL ?_
          (case aR => repeat (first | exact (Kd.C_below HR0.out HB.out) | (with_reducible refine Kd.C_alloc ?_ _) | (with_reducible refine Kd.C_drewN ?_ _) | (with_reducible refine Kd.C_drew ?_)))
          (case aB => exact (by repeat (first | (with_reducible first | exact HB.out | apply below_alloc | apply pw_below_drewN | apply below_drew1 | refine below_set ?_ GE307.out) | exact HB.out)))
          (case aF => exact (fun k_ hk => ⟨Kd.fresh' (Kd.R_lt (by (with_reducible repeat (first | apply Kd.R_alloc | apply Kd.R_drewN | apply Kd.R_drew)); exact HO317.out)) k_ hk, Kd.freshB (g := gb307) (o := .cells #[.int .i64 a1_0, .int .i64 a1_1] 40 (0, 0)) (by (with_reducible repeat (first | refine blk_drewN ?_ _ | refine blk_drew ?_ | refine blk_alloc ?_ _)); exact BK307.out) k_ hk⟩))
          (case aO => exact (by (with_reducible repeat (first | apply Kd.R_alloc | apply Kd.R_drewN | apply Kd.R_drew)); exact Kd.R_mono HO311.out (fun _ hk => ⟨hk.2, hk.1.2⟩)))
          (case aS => exact (below_size (by repeat (first | (with_reducible first | exact HB.out | apply below_alloc | apply pw_below_drewN | apply below_drew1 | refine below_set ?_ GE307.out) | exact HB.out))))
          (case aL => have := LMc13.out; omega)
          intro v313 w21 ho hb hg hat
          rw [← Ny312.out] at ho
          have n0_ := Aside0.mk (blk_grown (g := gb307) (o := .cells #[.int .i64 a1_0, .int .i64 a1_1] 40 (0, 0)) (by (with_reducible repeat (first | refine blk_drewN ?_ _ | refine blk_drew ?_ | refine blk_alloc ?_ _)); exact BK307.out) hg (Kd.R_away HO311.out (fun _ hk => hk.1.2)))
          have n1_ := Aside0.mk (Kd.R_after (ok := (fun k_ => k_ ≠ gb307)) (by (with_reducible repeat (first | apply Kd.R_alloc | apply Kd.R_drewN | apply Kd.R_drew)); exact Kd.R_mono HO317.out (fun _ hk => ⟨hk.2, hk.1.2⟩)) hg hat)
          have n2_ := Aside0.mk (hb)
          have n3_ := Aside0.mk (ho)
          clear BK307
          clear HO317
          clear HB
          clear HO311
          have BK307 := n0_
          have HO317 := n1_
          have HB := n2_
          have HO314 := n3_
          clear n0_ n1_ n2_ n3_
          clear ho hb hg hat
          refine hK.out _ _ ⟨(blk_cell BK307.out 0).trans rfl, (blk_cell BK307.out 1).trans rfl⟩ (fun hHeld => ?_)
          clear hK K
          refine norm_ (a' := ?_) ?_ ?_
          rotate_left
          ·show Act.put _ (some 30) _ = _
           simp only [Act.put, List.setIfInBounds_toArray, List.set_cons_zero, List.set_cons_succ, i64_w, i32_w]
           rfl
          exact norm_ (by simp only [putAll, Act.put, List.setIfInBounds_toArray, List.set_cons_zero, List.set_cons_succ]) (hCont (v310, v313, v316) _ ⟨hHeld, (by (with_reducible repeat (first | apply Kd.R_alloc | apply Kd.R_drewN | apply Kd.R_drew)); exact HO314.out), (by (with_reducible repeat (first | apply Kd.R_alloc | apply Kd.R_drewN | apply Kd.R_drew)); exact Kd.R_mono HO317.out (fun _ hk => ⟨hk.2, hk.1⟩)), (by (with_reducible repeat (first | refine blk_drewN ?_ _ | refine blk_drew ?_ | refine blk_alloc ?_ _)); exact BK307.out), (by repeat (first | (with_reducible first | exact HB.out | apply below_alloc | apply pw_below_drewN | apply below_drew1 | refine below_set ?_ GE307.out) | exact HB.out))⟩)
        ·skip
         refine Kd.R_lit_step k40 _ 40 ?hg (N := 32) ?hd (xs := ([(⟨a1_0, a1_1⟩ : S40)] : List (S40))) (inner := [.int .i64 a1_0, .int .i64 a1_1]) (ok := fun _ => True) (okp := fun _ => True) ?hr ?hp (fun _ hk => hk) trivial (Below.refl _ _) (Nat.le_refl _) (by simp) ?_; (case hd => rfl); (case hg => rfl); (case hr => first | (go_simp; done) | (go_simp; rfl)); (case hp => exact (Reps.c2 (show Kd.M k40 _ _ _ (⟨a1_0, a1_1⟩ : S40) [.int .i64 a1_0, .int .i64 a1_1] from (k40_mkM _ _ _ (⟨a1_0, a1_1⟩ : S40) )) (Reps.none _ _)))
         intro v316 w17 ho18 hb hg_ hnew_
         clear hg_ hnew_
         (first | rw [← Ny315.out] at ho18 | (simp only [Int.reduceToNat] at ho18; rw [← Ny315.out] at ho18))
         have n0_ := Aside0.mk (Kd.R_lower (Kd.R_newB ho18 (g := gb307) (o := .cells #[.int .i64 a1_0, .int .i64 a1_1] 40 (0, 0)) (by (with_reducible repeat (first | refine blk_drewN ?_ _ | refine blk_drew ?_ | refine blk_alloc ?_ _)); exact BK307.out)) (below_size (by repeat (first | (with_reducible first | exact HB.out | apply below_alloc | apply pw_below_drewN | apply below_drew1 | refine below_set ?_ GE307.out) | exact HB.out))))
         have n1_ := Aside0.mk (blk_below (g := gb307) (o := .cells #[.int .i64 a1_0, .int .i64 a1_1] 40 (0, 0)) (by (with_reducible repeat (first | refine blk_drewN ?_ _ | refine blk_drew ?_ | refine blk_alloc ?_ _)); exact BK307.out) hb)
         have n2_ := Aside0.mk (below_step (by repeat (first | (with_reducible first | exact HB.out | apply below_alloc | apply pw_below_drewN | apply below_drew1 | refine below_set ?_ GE307.out) | exact HB.out)) hb)
         clear BK307
         clear HB
         have HO317 := n0_
         have BK307 := n1_
         have HB := n2_
         clear n0_ n1_ n2_
         clear hb ho18
         refine hK.out _ _ ⟨(blk_cell BK307.out 0).trans rfl, (blk_cell BK307.out 1).trans rfl⟩ (fun hHeld => ?_)
         clear hK K
         refine norm_ (a' := ?_) ?_ ?_
         rotate_left
         ·show Act.put _ (some 32) _ = _
          simp only [Act.put, List.setIfInBounds_toArray, List.set_cons_zero, List.set_cons_succ, i64_w, i32_w]
          rfl
         refine one_ (i := 0) (N := some 28) #[true, true, false, true, true, false, false] rfl rfl (by kernel_rfl) (by decide) (fun K hK => ?_)
         refine Kd.R_lit_step k40 _ 40 ?hg (N := 28) ?hd (xs := ([] : List (S40))) (inner := []) (ok := fun _ => True) (okp := fun _ => True) ?hr ?hp (fun _ hk => hk) trivial (Below.refl _ _) (Nat.le_refl _) (by simp) ?_; (case hd => rfl); (case hg => rfl); (case hr => first | (go_simp; done) | (go_simp; rfl)); (case hp => exact (Reps.none _ _))
         intro v310 w19 ho20 hb hg_ hnew_
         clear hg_ hnew_
         (first | rw [← Ny309.out] at ho20 | (simp only [Int.reduceToNat] at ho20; rw [← Ny309.out] at ho20))
         have n0_ := Aside0.mk (Kd.R_elder' (by (with_reducible repeat (first | apply Kd.R_alloc | apply Kd.R_drewN | apply Kd.R_drew)); exact HO317.out) (Kd.R_base ho20) hb)
         have n1_ := Aside0.mk (Kd.R_lower (Kd.R_newB (Kd.R_new' ho20 (Kd.R_lt (by (with_reducible repeat (first | apply Kd.R_alloc | apply Kd.R_drewN | apply Kd.R_drew)); exact HO317.out))) (g := gb307) (o := .cells #[.int .i64 a1_0, .int .i64 a1_1] 40 (0, 0)) (by (with_reducible repeat (first | refine blk_drewN ?_ _ | refine blk_drew ?_ | refine blk_alloc ?_ _)); exact BK307.out)) (below_size (by repeat (first | (with_reducible first | exact HB.out | apply below_alloc | apply pw_below_drewN | apply below_drew1 | refine below_set ?_ GE307.out) | exact HB.out))))
         have n2_ := Aside0.mk (blk_below (g := gb307) (o := .cells #[.int .i64 a1_0, .int .i64 a1_1] 40 (0, 0)) (by (with_reducible repeat (first | refine blk_drewN ?_ _ | refine blk_drew ?_ | refine blk_alloc ?_ _)); exact BK307.out) hb)
         have n3_ := Aside0.mk (below_step (by repeat (first | (with_reducible first | exact HB.out | apply below_alloc | apply pw_below_drewN | apply below_drew1 | refine below_set ?_ GE307.out) | exact HB.out)) hb)
         clear HO317
         clear BK307
         clear HB
         have HO317 := n0_
         have HO311 := n1_
         have BK307 := n2_
         have HB := n3_
         clear n0_ n1_ n2_ n3_
         clear hb ho20
         refine hK.out _ _ ⟨(blk_cell BK307.out 0).trans rfl, (blk_cell BK307.out 1).trans rfl⟩ (fun hHeld => ?_)
         clear hK K
         refine norm_ (a' := ?_) ?_ ?_
         rotate_left
         ·show Act.put _ (some 28) _ = _
          simp only [Act.put, List.setIfInBounds_toArray, List.set_cons_zero, List.set_cons_succ, i64_w, i32_w]
          rfl
         refine one_ (i := 2) (N := some 30) #[true, true, true, true, true, false, false] rfl rfl (by kernel_rfl) (by decide) (fun K hK => ?_)
         refine Kd.R_append_rows_step k40 (w0 := w) w.heap.size (by rfl) (.tmp 28) (.tmp 29) 22 40 (.agg #[(.int .i64 0), (.int .i64 0)]) 16 rfl Tryd.underlying22 info40 rfl (by decide) (by omega) v310 y309 l0 _ _ _ (fun k_ => some k_ ≠ (v316 : Value).ownBlock ∧ k_ ≠ gb307) (fun _ => False) rfl rfl ?aO ?aR (fun _ _ h => h) (fun _ h => h.elim) ?aF ?aB ?aS ?aL ?_
         (case aR => repeat (first | exact (Kd.C_below HR0.out HB.out) | (with_reducible refine Kd.C_alloc ?_ _) | (with_reducible refine Kd.C_drewN ?_ _) | (with_reducible refine Kd.C_drew ?_)))
         (case aB => exact (by repeat (first | (with_reducible first | exact HB.out | apply below_alloc | apply pw_below_drewN | apply below_drew1 | refine below_set ?_ GE307.out) | exact HB.out)))
         (case aF => exact (fun k_ hk => ⟨Kd.fresh' (Kd.R_lt (by (with_reducible repeat (first | apply Kd.R_alloc | apply Kd.R_drewN | apply Kd.R_drew)); exact HO317.out)) k_ hk, Kd.freshB (g := gb307) (o := .cells #[.int .i64 a1_0, .int .i64 a1_1] 40 (0, 0)) (by (with_reducible repeat (first | refine blk_drewN ?_ _ | refine blk_drew ?_ | refine blk_alloc ?_ _)); exact BK307.out) k_ hk⟩))
         (case aO => exact (by (with_reducible repeat (first | apply Kd.R_alloc | apply Kd.R_drewN | apply Kd.R_drew)); exact Kd.R_mono HO311.out (fun _ hk => ⟨hk.1.2, hk.2⟩)))
         (case aS => exact (below_size (by repeat (first | (with_reducible first | exact HB.out | apply below_alloc | apply pw_below_drewN | apply below_drew1 | refine below_set ?_ GE307.out) | exact HB.out))))
         (case aL => have := LMc13.out; omega)
         intro v313 w21 ho hb hg hat
         rw [← Ny312.out] at ho
         have n0_ := Aside0.mk (blk_grown (g := gb307) (o := .cells #[.int .i64 a1_0, .int .i64 a1_1] 40 (0, 0)) (by (with_reducible repeat (first | refine blk_drewN ?_ _ | refine blk_drew ?_ | refine blk_alloc ?_ _)); exact BK307.out) hg (Kd.R_away HO311.out (fun _ hk => hk.2)))
         have n1_ := Aside0.mk (Kd.R_after (ok := (fun k_ => k_ ≠ gb307)) (by (with_reducible repeat (first | apply Kd.R_alloc | apply Kd.R_drewN | apply Kd.R_drew)); exact Kd.R_mono HO317.out (fun _ hk => ⟨hk.1.2, hk.2⟩)) hg hat)
         have n2_ := Aside0.mk (hb)
         have n3_ := Aside0.mk (ho)
         clear BK307
         clear HO317
         clear HB
         clear HO311
         have BK307 := n0_
         have HO317 := n1_
         have HB := n2_
         have HO314 := n3_
         clear n0_ n1_ n2_ n3_
         clear ho hb hg hat
         refine hK.out _ _ ⟨(blk_cell BK307.out 0).trans rfl, (blk_cell BK307.out 1).trans rfl⟩ (fun hHeld => ?_)
         clear hK K
         refine norm_ (a' := ?_) ?_ ?_
         rotate_left
         ·show Act.put _ (some 30) _ = _
          simp only [Act.put, List.setIfInBounds_toArray, List.set_cons_zero, List.set_cons_succ, i64_w, i32_w]
          rfl
         exact norm_ (by simp only [putAll, Act.put, List.setIfInBounds_toArray, List.set_cons_zero, List.set_cons_succ]) (hCont (v310, v313, v316) _ ⟨hHeld, (by (with_reducible repeat (first | apply Kd.R_alloc | apply Kd.R_drewN | apply Kd.R_drew)); exact HO314.out), (by (with_reducible repeat (first | apply Kd.R_alloc | apply Kd.R_drewN | apply Kd.R_drew)); exact Kd.R_mono HO317.out (fun _ hk => ⟨hk.2, hk.1⟩)), (by (with_reducible repeat (first | refine blk_drewN ?_ _ | refine blk_drew ?_ | refine blk_alloc ?_ _)); exact BK307.out), (by repeat (first | (with_reducible first | exact HB.out | apply below_alloc | apply pw_below_drewN | apply below_drew1 | refine below_set ?_ GE307.out) | exact HB.out))⟩)
       rintro ⟨v310, v313, v316⟩ w22 ⟨hS_, h0_, h1_, h2_, h3_⟩
       have n0_ : Aside0 (Kd.R k40 40 w22 w.heap.size (fun k_ => some k_ ≠ (v316 : Value).ownBlock ∧ k_ ≠ gb307) v313 y312) := ⟨h0_⟩
       have n1_ : Aside0 (Kd.R k40 40 w22 w.heap.size (fun k_ => some k_ ≠ (v313 : Value).ownBlock ∧ k_ ≠ gb307) v316 y315) := ⟨h1_⟩
       have n2_ : Aside0 (w22.heap[gb307]? = some (.cells #[.int .i64 a1_0, .int .i64 a1_1] 40 (0, 0))) := ⟨h2_⟩
       have n3_ : Aside0 (Below w.heap.size w w22) := ⟨h3_⟩
       clear BK307
       clear HB
       clear h0_ h1_ h2_ h3_
       have HO314 := n0_
       have HO317 := n1_
       have BK307 := n2_
       have HB := n3_
       clear n0_ n1_ n2_ n3_
       have hHeld : w22.cell? ⟨gb307, 0, none⟩ = some (.int .i64 a1_0) ∧ w22.cell? ⟨gb307, 1, none⟩ = some (.int .i64 a1_1) := hS_
       obtain ⟨Ao24, co24, eo24⟩ := Kd.R_slice HO317.out
       (first | subst eo24 | (injection eo24 with f1_ f2_ f3_; have f4_ := f1_.symm; have f5_ := f3_.symm; clear f1_ f2_ f3_; subst f4_; subst f5_))
       refine norm_ (a' := ?_) ?_ ?_
       rotate_left
       ·simp only [putAll, Act.put, List.setIfInBounds_toArray, List.set_cons_zero, List.set_cons_succ]
        rfl
       refine one_ (i := 5) (N := some 33) #[true, true, true, true, true, true, false] rfl rfl (by kernel_rfl) (by decide) (fun K hK => ?_)
       refine Kd.R_append_rows_step k40 (w0 := w) w.heap.size (by rfl) (.tmp 30) (.tmp 32) 22 40 (.agg #[(.int .i64 0), (.int .i64 0)]) 16 rfl Tryd.underlying22 info40 rfl (by decide) (by omega) v313 y312 y315 _ _ _ (fun k_ => some k_ ≠ (.slice Ao24 y315.length co24 : Value).ownBlock ∧ k_ ≠ gb307) (fun _ => False) rfl rfl ?aO ?aR (fun _ _ h => h) (fun _ h => h.elim) ?aF ?aB ?aS ?aL ?_
       (case aR => repeat (first | exact (Kd.R_reads' HO317.out).2.2 | (with_reducible refine Kd.C_alloc ?_ _) | (with_reducible refine Kd.C_drewN ?_ _) | (with_reducible refine Kd.C_drew ?_)))
       (case aB => exact (by repeat (first | (with_reducible first | exact HB.out | apply below_alloc | apply pw_below_drewN | apply below_drew1 | refine below_set ?_ GE307.out) | exact HB.out)))
       (case aF => exact (fun k_ hk => ⟨Kd.fresh' (Kd.R_lt (by (with_reducible repeat (first | apply Kd.R_alloc | apply Kd.R_drewN | apply Kd.R_drew)); exact HO317.out)) k_ hk, Kd.freshB (g := gb307) (o := .cells #[.int .i64 a1_0, .int .i64 a1_1] 40 (0, 0)) (by (with_reducible repeat (first | refine blk_drewN ?_ _ | refine blk_drew ?_ | refine blk_alloc ?_ _)); exact BK307.out) k_ hk⟩))
       (case aO => exact (by (with_reducible repeat (first | apply Kd.R_alloc | apply Kd.R_drewN | apply Kd.R_drew)); exact HO314.out))
       (case aS => exact (below_size (by repeat (first | (with_reducible first | exact HB.out | apply below_alloc | apply pw_below_drewN | apply below_drew1 | refine below_set ?_ GE307.out) | exact HB.out))))
       (case aL => have := LMc14.out; omega)
       intro v319 w23 ho hb hg hat
       rw [← Ny318.out] at ho
       have n0_ := Aside0.mk (blk_grown (g := gb307) (o := .cells #[.int .i64 a1_0, .int .i64 a1_1] 40 (0, 0)) (by (with_reducible repeat (first | refine blk_drewN ?_ _ | refine blk_drew ?_ | refine blk_alloc ?_ _)); exact BK307.out) hg (Kd.R_away HO314.out (fun _ hk => hk.2)))
       have n1_ := Aside0.mk (Kd.R_after (ok := (fun k_ => k_ ≠ gb307)) (by (with_reducible repeat (first | apply Kd.R_alloc | apply Kd.R_drewN | apply Kd.R_drew)); exact Kd.R_mono HO317.out (fun _ hk => ⟨hk.2, hk.1⟩)) hg hat)
       have n2_ := Aside0.mk (hb)
       have n3_ := Aside0.mk (ho)
       clear BK307
       clear HO317
       clear HB
       clear HO314
       have BK307 := n0_
       have HO317 := n1_
       have HB := n2_
       have HO320 := n3_
       clear n0_ n1_ n2_ n3_
       clear ho hb hg hat
       refine hK.out _ _ ⟨(blk_cell BK307.out 0).trans rfl, (blk_cell BK307.out 1).trans rfl⟩ (fun hHeld => ?_)
       clear hK K
       refine norm_ (a' := ?_) ?_ ?_
       rotate_left
       ·show Act.put _ (some 33) _ = _
        simp only [Act.put, List.setIfInBounds_toArray, List.set_cons_zero, List.set_cons_succ, i64_w, i32_w]
        rfl
       refine pure_ (i := 6) (N := some 7) (v := ?_) (a' := ?_) #[true, true, true, true, true, true, true] rfl rfl (by kernel_rfl) (fun _ _ _ h => h) (Or.inl ⟨by rfl, ?_⟩) ?_ ?_
       rotate_left
       ·intro w'
        go_simp
        with_reducible rfl
       rotate_left
       ·simp only [Act.put, List.setIfInBounds_toArray, List.set_cons_zero, List.set_cons_succ, i64_w, i32_w]
        rfl
       refine done_ (by kernel_rfl) ?_
       go_upto_region 6 with (fail)
       go_cut [41] (fun v41 wc => ∃ (kq : Nat) (x41_14 : Bool), v41 = .bool x41_14 ∧ Aside0 (clepsydralaw18_LeapGrows.j1 kq l0 a2 y318 x41_14 = some r) ∧ Aside0 (kq ≤ kj5) ∧ Aside0 (Kd.R k40 40 wc w.heap.size (fun k_ => k_ ≠ gb307) v319 y318) ∧ Aside0 (wc.heap[gb307]? = some (.cells #[.int .i64 a1_0, .int .i64 a1_1] 40 (0, 0))) ∧ Aside0 (Below w.heap.size w wc))
       case first =>
        have H := HC15.out
        clear HC15
        replace H := Option.bind_eq_some_iff.mp H
        obtain ⟨t321, A250, H⟩ := H
        replace H : (if t321 = true then ((leap_Good.f kj5 y318).bind fun t322 => (clepsydralaw18_LeapGrows.j1 kj5 l0 a2 y318 (!t322))) else (clepsydralaw18_LeapGrows.j1 kj5 l0 a2 y318 true)) = some r := H
        have A25 := Aside0.mk A250
        clear A250
        by_cases c26 : t321 = true
        ·subst c26
         have H1 : ((leap_Good.f kj5 y318).bind fun t322 => (clepsydralaw18_LeapGrows.j1 kj5 l0 a2 y318 (!t322))) = some r := by rw [if_pos rfl] at H; exact H
         clear H
         have H := H1
         clear H1
         replace H := Option.bind_eq_some_iff.mp H
         obtain ⟨t322, A270, H⟩ := H
         replace H : (clepsydralaw18_LeapGrows.j1 kj5 l0 a2 y318 (!t322)) = some r := H
         have A27 := Aside0.mk A270
         clear A270
         have H' := Aside0.mk H
         clear H
         go_wp2_with (first | ((with_reducible refine gate_callee (f := 13) rfl ?_); refine goesL_ (some 35) rfl rfl Tryd.func13 (by kernel_rfl) rfl #[.slice A0 l0.length c0] rfl (by (try simp only [List.map_toArray, List.map_cons, List.map_nil]); first | done | rfl | (simp only [List.length_drop, List.length_take]; rfl)) ?_; (with_reducible refine (leap_Good.calls kj5 _ _ l0 true _ ?side1 ?side2 A25.out).mono ?_); (case side1 => repeat (first | exact (Kd.C_below HR0.out HB.out) | (with_reducible refine Kd.C_alloc ?_ _) | (with_reducible refine Kd.C_drewN ?_ _) | (with_reducible refine Kd.C_drew ?_))); (case side2 => exact HC0.out); rintro e w28 ⟨rfl, hb⟩; refine ⟨_, rfl, ?_⟩; have n0_ := Aside0.mk (Kd.R_below (by (with_reducible repeat (first | apply Kd.R_alloc | apply Kd.R_drewN | apply Kd.R_drew)); exact HO317.out) hb); have n1_ := Aside0.mk (Kd.R_below (by (with_reducible repeat (first | apply Kd.R_alloc | apply Kd.R_drewN | apply Kd.R_drew)); exact HO320.out) hb); have n2_ := Aside0.mk (blk_below (g := gb307) (o := .cells #[.int .i64 a1_0, .int .i64 a1_1] 40 (0, 0)) (by (with_reducible repeat (first | refine blk_drewN ?_ _ | refine blk_drew ?_ | refine blk_alloc ?_ _)); exact BK307.out) hb); have n3_ := Aside0.mk (below_step (by repeat (first | (with_reducible first | exact HB.out | apply below_alloc | apply pw_below_drewN | apply below_drew1 | refine below_set ?_ GE307.out) | exact HB.out)) hb); clear HO317; clear HO320; clear BK307; clear HB; have HO317 := n0_; have HO320 := n1_; have BK307 := n2_; have HB := n3_; clear n0_ n1_ n2_ n3_; (try clear hb); (try clear hb2); (try clear hk); (try clear hi); obtain ⟨Ao29, co29, eo29⟩ := Kd.R_slice HO320.out; subst eo29) | (go_at_call 13; (with_reducible refine (leap_Good.calls kj5 _ _ y318 t322 _ ?side1 ?side2 A27.out).mono ?_); (case side1 => repeat (first | exact (Kd.R_reads' HO320.out).2.2 | (with_reducible refine Kd.C_alloc ?_ _) | (with_reducible refine Kd.C_drewN ?_ _) | (with_reducible refine Kd.C_drew ?_))); (case side2 => exact (Kd.R_reads' HO320.out).2.1); rintro e w30 ⟨rfl, hb⟩; have n0_ := Aside0.mk (Kd.R_below (by (with_reducible repeat (first | apply Kd.R_alloc | apply Kd.R_drewN | apply Kd.R_drew)); exact HO317.out) hb); have n1_ := Aside0.mk (Kd.R_below (by (with_reducible repeat (first | apply Kd.R_alloc | apply Kd.R_drewN | apply Kd.R_drew)); exact HO320.out) hb); have n2_ := Aside0.mk (blk_below (g := gb307) (o := .cells #[.int .i64 a1_0, .int .i64 a1_1] 40 (0, 0)) (by (with_reducible repeat (first | refine blk_drewN ?_ _ | refine blk_drew ?_ | refine blk_alloc ?_ _)); exact BK307.out) hb); have n3_ := Aside0.mk (below_step (by repeat (first | (with_reducible first | exact HB.out | apply below_alloc | apply pw_below_drewN | apply below_drew1 | refine below_set ?_ GE307.out) | exact HB.out)) hb); clear HO317; clear HO320; clear BK307; clear HB; have HO317 := n0_; have HO320 := n1_; have BK307 := n2_; have HB := n3_; clear n0_ n1_ n2_ n3_; (try clear hb); (try clear hb2); (try clear hk); (try clear hi)))
         go_meet
         case rel => exact ⟨_, (!t322), (by first | rfl | (simp; done) | (simp [*]; done) | (simp [Int.tdiv_eq_ediv_of_nonneg]; done) | (simp [Go.RowKit.wrap64]; done) | (simp [*, Go.RowKit.wrap64]; done)), H', ⟨by have := HJ5.out; first | omega | exact Nat.le_refl _⟩, ⟨by (with_reducible repeat (first | apply Kd.R_alloc | apply Kd.R_drewN | apply Kd.R_drew)); exact Kd.R_mono HO320.out (fun _ hk => hk.2)⟩, ⟨by (with_reducible repeat (first | refine blk_drewN ?_ _ | refine blk_drew ?_ | refine blk_alloc ?_ _)); exact BK307.out⟩, ⟨by repeat (first | (with_reducible first | exact HB.out | apply below_alloc | apply pw_below_drewN | apply below_drew1 | refine below_set ?_ GE307.out) | exact HB.out)⟩⟩
        ·replace c26 := Bool.eq_false_iff.mpr c26
         subst c26
         have H1 : (clepsydralaw18_LeapGrows.j1 kj5 l0 a2 y318 true) = some r := by rw [if_neg (show ¬ (false = true) by decide)] at H; exact H
         clear H
         have H := H1
         clear H1
         have H' := Aside0.mk H
         clear H
         go_wp2_with (first | ((with_reducible refine gate_callee (f := 13) rfl ?_); refine goesL_ (some 35) rfl rfl Tryd.func13 (by kernel_rfl) rfl #[.slice A0 l0.length c0] rfl (by (try simp only [List.map_toArray, List.map_cons, List.map_nil]); first | done | rfl | (simp only [List.length_drop, List.length_take]; rfl)) ?_; (with_reducible refine (leap_Good.calls kj5 _ _ l0 false _ ?side1 ?side2 A25.out).mono ?_); (case side1 => repeat (first | exact (Kd.C_below HR0.out HB.out) | (with_reducible refine Kd.C_alloc ?_ _) | (with_reducible refine Kd.C_drewN ?_ _) | (with_reducible refine Kd.C_drew ?_))); (case side2 => exact HC0.out); rintro e w31 ⟨rfl, hb⟩; refine ⟨_, rfl, ?_⟩; have n0_ := Aside0.mk (Kd.R_below (by (with_reducible repeat (first | apply Kd.R_alloc | apply Kd.R_drewN | apply Kd.R_drew)); exact HO317.out) hb); have n1_ := Aside0.mk (Kd.R_below (by (with_reducible repeat (first | apply Kd.R_alloc | apply Kd.R_drewN | apply Kd.R_drew)); exact HO320.out) hb); have n2_ := Aside0.mk (blk_below (g := gb307) (o := .cells #[.int .i64 a1_0, .int .i64 a1_1] 40 (0, 0)) (by (with_reducible repeat (first | refine blk_drewN ?_ _ | refine blk_drew ?_ | refine blk_alloc ?_ _)); exact BK307.out) hb); have n3_ := Aside0.mk (below_step (by repeat (first | (with_reducible first | exact HB.out | apply below_alloc | apply pw_below_drewN | apply below_drew1 | refine below_set ?_ GE307.out) | exact HB.out)) hb); clear HO317; clear HO320; clear BK307; clear HB; have HO317 := n0_; have HO320 := n1_; have BK307 := n2_; have HB := n3_; clear n0_ n1_ n2_ n3_; (try clear hb); (try clear hb2); (try clear hk); (try clear hi)))
         go_meet
         case rel => exact ⟨_, (true), (by first | rfl | (simp; done) | (simp [*]; done) | (simp [Int.tdiv_eq_ediv_of_nonneg]; done) | (simp [Go.RowKit.wrap64]; done) | (simp [*, Go.RowKit.wrap64]; done)), H', ⟨by have := HJ5.out; first | omega | exact Nat.le_refl _⟩, ⟨by (with_reducible repeat (first | apply Kd.R_alloc | apply Kd.R_drewN | apply Kd.R_drew)); exact Kd.R_mono HO320.out (fun _ hk => hk.2)⟩, ⟨by (with_reducible repeat (first | refine blk_drewN ?_ _ | refine blk_drew ?_ | refine blk_alloc ?_ _)); exact BK307.out⟩, ⟨by repeat (first | (with_reducible first | exact HB.out | apply below_alloc | apply pw_below_drewN | apply below_drew1 | refine below_set ?_ GE307.out) | exact HB.out)⟩⟩
       case rest =>
        clear HC15
        try clear c1
        try clear c2
        try clear p2
        try clear c5
        try clear p6
        try clear c8
        try clear c9
        try clear c9b0
        try clear c9b1
        try clear c10
        try clear c10b0
        try clear c12
        try clear c13
        try clear c14
        try clear c26
        try clear hcz11_0
        try clear hfz11_0
        try clear p2
        try clear p6
        obtain ⟨kq, x41_14, rfl, HA, HJ14, HO_7, BK307, HB⟩ := hcut
        cases kq with
        | zero => exact absurd HA.out (by simp [clepsydralaw18_LeapGrows.j1])
        | succ kj14 =>
         have H := HA.out
         clear HA
         simp only [clepsydralaw18_LeapGrows.j1] at H
         by_cases c32 : x41_14 = true
         ·subst c32
          have H1 : (some true) = some r := by rw [if_pos rfl] at H; exact H
          clear H
          have H := H1
          clear H1
          obtain rfl := Option.some.inj H
          go_wp2
          go_ret
          exact ⟨by first | rfl | (simp [errW_none, errW_some] <;> rfl) | (simp [*, errW_none, errW_some] <;> rfl), by repeat (first | (with_reducible first | exact HB.out | apply below_alloc | apply pw_below_drewN | apply below_drew1 | refine below_set ?_ GE307.out) | exact HB.out)⟩
         ·replace c32 := Bool.eq_false_iff.mpr c32
          subst c32
          have H1 : ((leap_ToLabel.f kj14 l0 a2).bind fun bt323 => ((leap_ToLabel.f kj14 y318 a2).bind fun bt331 => (if (bt323.1 == bt331.1 && (bt323.2.1 == bt331.2.1 && (bt323.2.2.1 == bt331.2.2.1 && (bt323.2.2.2.1 == bt331.2.2.2.1 && (bt323.2.2.2.2.1 == bt331.2.2.2.2.1 && (bt323.2.2.2.2.2.1 == bt331.2.2.2.2.2.1)))))) = true then (some (bt323.2.2.2.2.2.2 == bt331.2.2.2.2.2.2)) else (some false)))) = some r := by rw [if_neg (show ¬ (false = true) by decide)] at H; exact H
          clear H
          have H := H1
          clear H1
          replace H := Option.bind_eq_some_iff.mp H
          obtain ⟨⟨t323, t324, t325, t326, t327, t328, t329⟩, A330, H⟩ := H
          replace H : ((leap_ToLabel.f kj14 y318 a2).bind fun bt331 => (if (t323 == bt331.1 && (t324 == bt331.2.1 && (t325 == bt331.2.2.1 && (t326 == bt331.2.2.2.1 && (t327 == bt331.2.2.2.2.1 && (t328 == bt331.2.2.2.2.2.1)))))) = true then (some (t329 == bt331.2.2.2.2.2.2)) else (some false))) = some r := H
          have A33 := Aside0.mk A330
          clear A330
          replace H := Option.bind_eq_some_iff.mp H
          obtain ⟨⟨t331, t332, t333, t334, t335, t336, t337⟩, A340, H⟩ := H
          replace H : (if (t323 == t331 && (t324 == t332 && (t325 == t333 && (t326 == t334 && (t327 == t335 && (t328 == t336)))))) = true then (some (t329 == t337)) else (some false)) = some r := H
          have A34 := Aside0.mk A340
          clear A340
          by_cases c35 : (t323 == t331 && (t324 == t332 && (t325 == t333 && (t326 == t334 && (t327 == t335 && (t328 == t336)))))) = true
          ·rw [if_pos c35] at H
           have c35b0 : (t323 == t331 && (t324 == t332 && (t325 == t333 && (t326 == t334 && (t327 == t335 && (t328 == t336)))))) = true := c35
           (try (have c35b1 : decide (t323 = t331 && (t324 == t332 && (t325 == t333 && (t326 == t334 && (t327 == t335 && (t328 == t336)))))) = true := by simpa using c35))
           (try (have c35b2 : (t323 == t331 && (t324 == t332 && (t325 == t333 && (t326 == t334 && (t327 == t335 && (t328 == t336)))))) = true := by simpa using c35))
           clear c35
           obtain rfl := Option.some.inj H
           go_wp2_with (first | ((with_reducible refine gate_callee (f := 12) rfl ?_); refine goesL_ (some 45) rfl rfl Tryd.func12 (by kernel_rfl) rfl #[.slice A0 l0.length c0, .int .i64 a2] rfl (by (try simp only [List.map_toArray, List.map_cons, List.map_nil]); first | done | rfl | (simp only [List.length_drop, List.length_take]; rfl)) ?_; (with_reducible refine (leap_ToLabel.calls kj14 _ _ l0 a2 t323 t324 t325 t326 t327 t328 t329 _ (hM.below (by repeat (first | (with_reducible first | exact HB.out | apply below_alloc | apply pw_below_drewN | apply below_drew1 | refine below_set ?_ GE307.out) | exact HB.out))) ?side1 ?side2 A33.out).mono ?_); (case side1 => repeat (first | exact (Kd.C_below HR0.out HB.out) | (with_reducible refine Kd.C_alloc ?_ _) | (with_reducible refine Kd.C_drewN ?_ _) | (with_reducible refine Kd.C_drew ?_))); (case side2 => exact HC0.out); rintro e w36 ⟨rfl, hb⟩; refine ⟨_, rfl, ?_⟩; have n0_ := Aside0.mk (Kd.R_below (by (with_reducible repeat (first | apply Kd.R_alloc | apply Kd.R_drewN | apply Kd.R_drew)); exact HO_7.out) hb); have n1_ := Aside0.mk (blk_below (g := gb307) (o := .cells #[.int .i64 a1_0, .int .i64 a1_1] 40 (0, 0)) (by (with_reducible repeat (first | refine blk_drewN ?_ _ | refine blk_drew ?_ | refine blk_alloc ?_ _)); exact BK307.out) hb); have n2_ := Aside0.mk (below_step (by repeat (first | (with_reducible first | exact HB.out | apply below_alloc | apply pw_below_drewN | apply below_drew1 | refine below_set ?_ GE307.out) | exact HB.out)) hb); clear HO_7; clear BK307; clear HB; have HO_7 := n0_; have BK307 := n1_; have HB := n2_; clear n0_ n1_ n2_; (try clear hb); (try clear hb2); (try clear hk); (try clear hi)) | ((with_reducible refine gate_dst (N := 8) rfl ?_); refine box_event ?hg (N := 8) ?hd (cs := #[.int .i64 0, .int .i64 0, .int .i64 0, .int .i64 0, .int .i64 0, .int .i64 0]) (t := 26) ?hr ?_; (case hd => rfl); (case hg => rfl); (case hr => first | (go_simp; done) | (go_simp; rfl)); intro gb330 hg w37 hbox hb; have n0_ := Aside0.mk (Kd.R_below (by (with_reducible repeat (first | apply Kd.R_alloc | apply Kd.R_drewN | apply Kd.R_drew)); exact HO_7.out) hb); have n1_ := Aside0.mk (blk_below (g := gb307) (o := .cells #[.int .i64 a1_0, .int .i64 a1_1] 40 (0, 0)) (by (with_reducible repeat (first | refine blk_drewN ?_ _ | refine blk_drew ?_ | refine blk_alloc ?_ _)); exact BK307.out) hb); have n2_ := Aside0.mk (below_step (by repeat (first | (with_reducible first | exact HB.out | apply below_alloc | apply pw_below_drewN | apply below_drew1 | refine below_set ?_ GE307.out) | exact HB.out)) hb); have n3_ := Aside0.mk (hbox); have n4_ := Aside0.mk ((by rw [hg]; exact (below_size (by repeat (first | (with_reducible first | exact HB.out | apply below_alloc | apply pw_below_drewN | apply below_drew1 | refine below_set ?_ GE307.out) | exact HB.out))) : w.heap.size ≤ gb330)); have n5_ := Aside0.mk ((by rw [hg]; exact (below_size (by repeat (first | (with_reducible first | exact HB.out | apply below_alloc | apply pw_below_drewN | apply below_drew1 | refine below_set ?_ GE307.out) | exact HB.out))) : w.heap.size ≤ gb330)); have n6_ := Aside0.mk ((by rw [hg]; exact Nat.ne_of_lt (blk_lt (g := gb307) (o := .cells #[.int .i64 a1_0, .int .i64 a1_1] 40 (0, 0)) (by (with_reducible repeat (first | refine blk_drewN ?_ _ | refine blk_drew ?_ | refine blk_alloc ?_ _)); exact BK307.out)) : gb307 ≠ gb330)); have n7_ := Aside0.mk ((by rw [hg]; exact Nat.ne_of_gt (blk_lt (g := gb307) (o := .cells #[.int .i64 a1_0, .int .i64 a1_1] 40 (0, 0)) (by (with_reducible repeat (first | refine blk_drewN ?_ _ | refine blk_drew ?_ | refine blk_alloc ?_ _)); exact BK307.out)) : gb330 ≠ gb307)); clear HO_7; clear BK307; clear HB; have HO_7 := n0_; have BK307 := n1_; have HB := n2_; have BK330 := n3_; have GW330 := n4_; have GE330 := n5_; have NB307_330 := n6_; have NB330_307 := n7_; clear n0_ n1_ n2_ n3_ n4_ n5_ n6_ n7_; clear hb hbox hg; have hnb38 := NB330_307.out; have hnc38 := NB307_330.out; have hcz39_0 : w37.cell? ⟨gb330, 0, none⟩ = some (.int .i64 0) := (blk_cell BK330.out 0).trans rfl; have hcz39_1 : w37.cell? ⟨gb330, 1, none⟩ = some (.int .i64 0) := (blk_cell BK330.out 1).trans rfl; have hcz39_2 : w37.cell? ⟨gb330, 2, none⟩ = some (.int .i64 0) := (blk_cell BK330.out 2).trans rfl; have hcz39_3 : w37.cell? ⟨gb330, 3, none⟩ = some (.int .i64 0) := (blk_cell BK330.out 3).trans rfl; have hcz39_4 : w37.cell? ⟨gb330, 4, none⟩ = some (.int .i64 0) := (blk_cell BK330.out 4).trans rfl; have hcz39_5 : w37.cell? ⟨gb330, 5, none⟩ = some (.int .i64 0) := (blk_cell BK330.out 5).trans rfl; have hfz39_0 := blk_frozen BK330.out 0; have hfz39_1 := blk_frozen BK330.out 1; have hfz39_2 := blk_frozen BK330.out 2; have hfz39_3 := blk_frozen BK330.out 3; have hfz39_4 := blk_frozen BK330.out 4; have hfz39_5 := blk_frozen BK330.out 5; obtain ⟨Ao40, co40, eo40⟩ := Kd.R_slice HO_7.out; subst eo40) | ((with_reducible refine gate_callee (f := 12) rfl ?_); refine goesL_ (some 51) rfl rfl Tryd.func12 (by kernel_rfl) rfl #[.slice Ao40 y318.length co40, .int .i64 a2] rfl (by (try simp only [List.map_toArray, List.map_cons, List.map_nil]); first | done | rfl | (simp only [List.length_drop, List.length_take]; rfl)) ?_; (with_reducible refine (leap_ToLabel.calls kj14 _ _ y318 a2 t331 t332 t333 t334 t335 t336 t337 _ (hM.below (by repeat (first | (with_reducible first | exact HB.out | apply below_alloc | apply pw_below_drewN | apply below_drew1 | refine below_set ?_ GE307.out | refine below_set ?_ GE330.out) | exact HB.out))) ?side1 ?side2 A34.out).mono ?_); (case side1 => refine (Kd.R_reads' (e := 40) (base := w.heap.size) (ok := fun k_ => k_ ≠ gb307) (n := y318.length) (c := co40) ?_).2.2; exact (by (with_reducible repeat (first | apply Kd.R_alloc | apply Kd.R_drewN | apply Kd.R_drew)); exact (Kd.R_mono (Kd.R_far (p := ⟨gb330, 5, none⟩) (Kd.R_far (p := ⟨gb330, 4, none⟩) (Kd.R_far (p := ⟨gb330, 3, none⟩) (Kd.R_far (p := ⟨gb330, 2, none⟩) (Kd.R_far (p := ⟨gb330, 1, none⟩) (Kd.R_far (p := ⟨gb330, 0, none⟩) (Kd.R_types HO_7.out BK330.out (by decide)) (fun _ hk => hk.2) (.int .i64 t323)) (fun _ hk => hk.2) (.int .i64 t324)) (fun _ hk => hk.2) (.int .i64 t325)) (fun _ hk => hk.2) (.int .i64 t326)) (fun _ hk => hk.2) (.int .i64 t327)) (fun _ hk => hk.2) (.int .i64 t328)) (fun _ h_ => h_.1)))); (case side2 => exact (Kd.R_reads' HO_7.out).2.1); rintro e w41 ⟨rfl, hb⟩; refine ⟨_, rfl, ?_⟩; have n0_ := Aside0.mk (Kd.R_below (by (with_reducible repeat (first | apply Kd.R_alloc | apply Kd.R_drewN | apply Kd.R_drew)); exact (Kd.R_mono (Kd.R_far (p := ⟨gb330, 5, none⟩) (Kd.R_far (p := ⟨gb330, 4, none⟩) (Kd.R_far (p := ⟨gb330, 3, none⟩) (Kd.R_far (p := ⟨gb330, 2, none⟩) (Kd.R_far (p := ⟨gb330, 1, none⟩) (Kd.R_far (p := ⟨gb330, 0, none⟩) (Kd.R_types HO_7.out BK330.out (by decide)) (fun _ hk => hk.2) (.int .i64 t323)) (fun _ hk => hk.2) (.int .i64 t324)) (fun _ hk => hk.2) (.int .i64 t325)) (fun _ hk => hk.2) (.int .i64 t326)) (fun _ hk => hk.2) (.int .i64 t327)) (fun _ hk => hk.2) (.int .i64 t328)) (fun _ h_ => h_.1))) hb); have n1_ := Aside0.mk (blk_below (g := gb307) (o := .cells #[.int .i64 a1_0, .int .i64 a1_1] 40 (0, 0)) (by (with_reducible repeat (first | refine blk_drewN ?_ _ | refine blk_drew ?_ | refine blk_alloc ?_ _)); refine blk_far ?_ NB307_330.out _; (with_reducible repeat (first | refine blk_drewN ?_ _ | refine blk_drew ?_ | refine blk_alloc ?_ _)); refine blk_far ?_ NB307_330.out _; (with_reducible repeat (first | refine blk_drewN ?_ _ | refine blk_drew ?_ | refine blk_alloc ?_ _)); refine blk_far ?_ NB307_330.out _; (with_reducible repeat (first | refine blk_drewN ?_ _ | refine blk_drew ?_ | refine blk_alloc ?_ _)); refine blk_far ?_ NB307_330.out _; (with_reducible repeat (first | refine blk_drewN ?_ _ | refine blk_drew ?_ | refine blk_alloc ?_ _)); refine blk_far ?_ NB307_330.out _; (with_reducible repeat (first | refine blk_drewN ?_ _ | refine blk_drew ?_ | refine blk_alloc ?_ _)); refine blk_far ?_ NB307_330.out _; (with_reducible repeat (first | refine blk_drewN ?_ _ | refine blk_drew ?_ | refine blk_alloc ?_ _)); exact BK307.out) hb); have n2_ := Aside0.mk (blk_below (g := gb330) (o := .cells #[.int .i64 t323, .int .i64 t324, .int .i64 t325, .int .i64 t326, .int .i64 t327, .int .i64 t328] 26 (0, 0)) (by (with_reducible repeat (first | refine blk_drewN ?_ _ | refine blk_drew ?_ | refine blk_alloc ?_ _)); refine blk_put (cs := #[.int .i64 t323, .int .i64 t324, .int .i64 t325, .int .i64 t326, .int .i64 t327, .int .i64 0]) ?_ 5 _ rfl; (with_reducible repeat (first | refine blk_drewN ?_ _ | refine blk_drew ?_ | refine blk_alloc ?_ _)); refine blk_put (cs := #[.int .i64 t323, .int .i64 t324, .int .i64 t325, .int .i64 t326, .int .i64 0, .int .i64 0]) ?_ 4 _ rfl; (with_reducible repeat (first | refine blk_drewN ?_ _ | refine blk_drew ?_ | refine blk_alloc ?_ _)); refine blk_put (cs := #[.int .i64 t323, .int .i64 t324, .int .i64 t325, .int .i64 0, .int .i64 0, .int .i64 0]) ?_ 3 _ rfl; (with_reducible repeat (first | refine blk_drewN ?_ _ | refine blk_drew ?_ | refine blk_alloc ?_ _)); refine blk_put (cs := #[.int .i64 t323, .int .i64 t324, .int .i64 0, .int .i64 0, .int .i64 0, .int .i64 0]) ?_ 2 _ rfl; (with_reducible repeat (first | refine blk_drewN ?_ _ | refine blk_drew ?_ | refine blk_alloc ?_ _)); refine blk_put (cs := #[.int .i64 t323, .int .i64 0, .int .i64 0, .int .i64 0, .int .i64 0, .int .i64 0]) ?_ 1 _ rfl; (with_reducible repeat (first | refine blk_drewN ?_ _ | refine blk_drew ?_ | refine blk_alloc ?_ _)); refine blk_put (cs := #[.int .i64 0, .int .i64 0, .int .i64 0, .int .i64 0, .int .i64 0, .int .i64 0]) ?_ 0 _ rfl; (with_reducible repeat (first | refine blk_drewN ?_ _ | refine blk_drew ?_ | refine blk_alloc ?_ _)); exact BK330.out) hb); have n3_ := Aside0.mk (below_step (by repeat (first | (with_reducible first | exact HB.out | apply below_alloc | apply pw_below_drewN | apply below_drew1 | refine below_set ?_ GE307.out | refine below_set ?_ GE330.out) | exact HB.out)) hb); clear HO_7; clear BK307; clear BK330; clear HB; have HO_7 := n0_; have BK307 := n1_; have BK330 := n2_; have HB := n3_; clear n0_ n1_ n2_ n3_; (try clear hb); (try clear hb2); (try clear hk); (try clear hi)) | ((with_reducible refine gate_dst (N := 10) rfl ?_); refine box_event ?hg (N := 10) ?hd (cs := #[.int .i64 0, .int .i64 0, .int .i64 0, .int .i64 0, .int .i64 0, .int .i64 0]) (t := 26) ?hr ?_; (case hd => rfl); (case hg => rfl); (case hr => first | (go_simp; done) | (go_simp; rfl)); intro gb338 hg w42 hbox hb; have n0_ := Aside0.mk (Kd.R_below (by (with_reducible repeat (first | apply Kd.R_alloc | apply Kd.R_drewN | apply Kd.R_drew)); exact HO_7.out) hb); have n1_ := Aside0.mk (blk_below (g := gb307) (o := .cells #[.int .i64 a1_0, .int .i64 a1_1] 40 (0, 0)) (by (with_reducible repeat (first | refine blk_drewN ?_ _ | refine blk_drew ?_ | refine blk_alloc ?_ _)); exact BK307.out) hb); have n2_ := Aside0.mk (blk_below (g := gb330) (o := .cells #[.int .i64 t323, .int .i64 t324, .int .i64 t325, .int .i64 t326, .int .i64 t327, .int .i64 t328] 26 (0, 0)) (by (with_reducible repeat (first | refine blk_drewN ?_ _ | refine blk_drew ?_ | refine blk_alloc ?_ _)); exact BK330.out) hb); have n3_ := Aside0.mk (below_step (by repeat (first | (with_reducible first | exact HB.out | apply below_alloc | apply pw_below_drewN | apply below_drew1 | refine below_set ?_ GE307.out | refine below_set ?_ GE330.out) | exact HB.out)) hb); have n4_ := Aside0.mk (hbox); have n5_ := Aside0.mk ((by rw [hg]; exact (below_size (by repeat (first | (with_reducible first | exact HB.out | apply below_alloc | apply pw_below_drewN | apply below_drew1 | refine below_set ?_ GE307.out | refine below_set ?_ GE330.out) | exact HB.out))) : w.heap.size ≤ gb338)); have n6_ := Aside0.mk ((by rw [hg]; exact (below_size (by repeat (first | (with_reducible first | exact HB.out | apply below_alloc | apply pw_below_drewN | apply below_drew1 | refine below_set ?_ GE307.out | refine below_set ?_ GE330.out) | exact HB.out))) : w.heap.size ≤ gb338)); have n7_ := Aside0.mk ((by rw [hg]; exact Nat.ne_of_lt (blk_lt (g := gb307) (o := .cells #[.int .i64 a1_0, .int .i64 a1_1] 40 (0, 0)) (by (with_reducible repeat (first | refine blk_drewN ?_ _ | refine blk_drew ?_ | refine blk_alloc ?_ _)); exact BK307.out)) : gb307 ≠ gb338)); have n8_ := Aside0.mk ((by rw [hg]; exact Nat.ne_of_gt (blk_lt (g := gb307) (o := .cells #[.int .i64 a1_0, .int .i64 a1_1] 40 (0, 0)) (by (with_reducible repeat (first | refine blk_drewN ?_ _ | refine blk_drew ?_ | refine blk_alloc ?_ _)); exact BK307.out)) : gb338 ≠ gb307)); have n9_ := Aside0.mk ((by rw [hg]; exact Nat.ne_of_lt (blk_lt (g := gb330) (o := .cells #[.int .i64 t323, .int .i64 t324, .int .i64 t325, .int .i64 t326, .int .i64 t327, .int .i64 t328] 26 (0, 0)) (by (with_reducible repeat (first | refine blk_drewN ?_ _ | refine blk_drew ?_ | refine blk_alloc ?_ _)); exact BK330.out)) : gb330 ≠ gb338)); have n10_ := Aside0.mk ((by rw [hg]; exact Nat.ne_of_gt (blk_lt (g := gb330) (o := .cells #[.int .i64 t323, .int .i64 t324, .int .i64 t325, .int .i64 t326, .int .i64 t327, .int .i64 t328] 26 (0, 0)) (by (with_reducible repeat (first | refine blk_drewN ?_ _ | refine blk_drew ?_ | refine blk_alloc ?_ _)); exact BK330.out)) : gb338 ≠ gb330)); clear HO_7; clear BK307; clear BK330; clear HB; have HO_7 := n0_; have BK307 := n1_; have BK330 := n2_; have HB := n3_; have BK338 := n4_; have GW338 := n5_; have GE338 := n6_; have NB307_338 := n7_; have NB338_307 := n8_; have NB330_338 := n9_; have NB338_330 := n10_; clear n0_ n1_ n2_ n3_ n4_ n5_ n6_ n7_ n8_ n9_ n10_; clear hb hbox hg; have hnb43 := NB338_307.out; have hnc43 := NB307_338.out; have hnb44 := NB338_330.out; have hnc44 := NB330_338.out; have hcz45_0 : w42.cell? ⟨gb338, 0, none⟩ = some (.int .i64 0) := (blk_cell BK338.out 0).trans rfl; have hcz45_1 : w42.cell? ⟨gb338, 1, none⟩ = some (.int .i64 0) := (blk_cell BK338.out 1).trans rfl; have hcz45_2 : w42.cell? ⟨gb338, 2, none⟩ = some (.int .i64 0) := (blk_cell BK338.out 2).trans rfl; have hcz45_3 : w42.cell? ⟨gb338, 3, none⟩ = some (.int .i64 0) := (blk_cell BK338.out 3).trans rfl; have hcz45_4 : w42.cell? ⟨gb338, 4, none⟩ = some (.int .i64 0) := (blk_cell BK338.out 4).trans rfl; have hcz45_5 : w42.cell? ⟨gb338, 5, none⟩ = some (.int .i64 0) := (blk_cell BK338.out 5).trans rfl; have hfz45_0 := blk_frozen BK338.out 0; have hfz45_1 := blk_frozen BK338.out 1; have hfz45_2 := blk_frozen BK338.out 2; have hfz45_3 := blk_frozen BK338.out 3; have hfz45_4 := blk_frozen BK338.out 4; have hfz45_5 := blk_frozen BK338.out 5; have hcz46_0 : w42.cell? ⟨gb330, 0, none⟩ = some (.int .i64 t323) := (blk_cell BK330.out 0).trans rfl; have hcz46_1 : w42.cell? ⟨gb330, 1, none⟩ = some (.int .i64 t324) := (blk_cell BK330.out 1).trans rfl; have hcz46_2 : w42.cell? ⟨gb330, 2, none⟩ = some (.int .i64 t325) := (blk_cell BK330.out 2).trans rfl; have hcz46_3 : w42.cell? ⟨gb330, 3, none⟩ = some (.int .i64 t326) := (blk_cell BK330.out 3).trans rfl; have hcz46_4 : w42.cell? ⟨gb330, 4, none⟩ = some (.int .i64 t327) := (blk_cell BK330.out 4).trans rfl; have hcz46_5 : w42.cell? ⟨gb330, 5, none⟩ = some (.int .i64 t328) := (blk_cell BK330.out 5).trans rfl; have hfz46_0 := blk_frozen BK330.out 0; have hfz46_1 := blk_frozen BK330.out 1; have hfz46_2 := blk_frozen BK330.out 2; have hfz46_3 := blk_frozen BK330.out 3; have hfz46_4 := blk_frozen BK330.out 4; have hfz46_5 := blk_frozen BK330.out 5))
           go_ret
           exact ⟨by first | rfl | (simp [errW_none, errW_some] <;> rfl) | (simp [*, errW_none, errW_some] <;> rfl), by repeat (first | (with_reducible first | exact HB.out | apply below_alloc | apply pw_below_drewN | apply below_drew1 | refine below_set ?_ GE307.out | refine below_set ?_ GE330.out | refine below_set ?_ GE338.out) | exact HB.out)⟩
          ·rw [if_neg c35] at H
           have c35b0 : (t323 == t331 && (t324 == t332 && (t325 == t333 && (t326 == t334 && (t327 == t335 && (t328 == t336)))))) = false := by simpa using c35
           (try (have c35b1 : decide (t323 = t331 && (t324 == t332 && (t325 == t333 && (t326 == t334 && (t327 == t335 && (t328 == t336)))))) = false := by simpa using c35))
           (try (have c35b2 : (t323 == t331 && (t324 == t332 && (t325 == t333 && (t326 == t334 && (t327 == t335 && (t328 == t336)))))) = false := by simpa using c35))
           (try (have c35b3 : ¬ (t323 = t331 && (t324 == t332 && (t325 == t333 && (t326 == t334 && (t327 == t335 && (t328 == t336)))))) := by simpa using c35))
           clear c35
           exact absurd ((Option.some.inj H).trans hT.out) (by decide)
      ·rw [if_neg c14] at H
       exact absurd H (by simp)
     ·rw [if_neg c13] at H
      exact absurd H (by simp)
 ·replace c5 := Bool.eq_false_iff.mpr c5
  subst c5
  have H1 : (some false) = some r := by rw [if_neg (show ¬ (false = true) by decide)] at H; exact H
  clear H
  have H := H1
  clear H1
  exact absurd ((Option.some.inj H).trans hT.out) (by decide)

end Go.Proofs.YtaibmobjpheaiaaDoor.Q
