/- The calls of these Go functions answer what the Lean functions beside them answer; written by a program (wip/pr2.py, out of the print of the loaded program); under no condition but those that stand in the theorems. -/
import Derived.Test.YtigkjbaclpklpaaDoorQx0
import Derived.Test.YtigkjbaclpklpaaDoorQx12
import Derived.Test.YtigkjbaclpklpaaDoorQx17
import Derived.Test.YtigkjbaclpklpaaDoorQx18
import Derived.Test.YtigkjbaclpklpaaDoorQx19
namespace Go.Proofs.YtigkjbaclpklpaaDoor.Q
open Go.RowKit Go.Proofs.YtigkjbaclpklpaaDoorW.PrintWords Go.Proofs.YtigkjbaclpklpaaDoorW.PrintLast Go.Proofs.YtigkjbaclpklpaaDoorW.PrintMore
attribute [local go_sem] max2_int min2_int max_two min_two max_three min_three max_four min_four   -- for this text's walks alone
set_option linter.unusedVariables false
set_option linter.unusedSimpArgs false

/-! ### leap_ToLabel: function 21 -/
mutual
def leap_ToLabel.j0 : Nat → List (S82) → Int → Bool → Option (Int × Int × Int × Int × Int × Int × Int)
  | 0, _, _, _ => none
  | k + 1, x0, x1, x24 => if x24 = true then (some (0, 0, 0, 0, 0, 0, 30)) else ((leap_at.f k x0 x1).bind fun bt266 => (if bt266.2 = true then (leap_ToLabel.j1 k (wrap64 (x1 - 1)) bt266.1 bt266.2) else (leap_ToLabel.j1 k x1 bt266.1 bt266.2)))
def leap_ToLabel.j1 : Nat → Int → Int → Bool → Option (Int × Int × Int × Int × Int × Int × Int)
  | 0, _, _, _ => none
  | k + 1, x1, x6, x7 => (wide_Div.f k (wrap64 (x1 - x6)) 86400).bind fun bt268 => ((civil_Date.f k bt268.1).bind fun bt270 => (if x7 = true then (some (bt270.1, bt270.2.1, bt270.2.2.1, wrap64 (Int.tdiv bt268.2 3600), Int.tmod (wrap64 (Int.tdiv bt268.2 60)) 60, wrap64 ((Int.tmod bt268.2 60) + 1), 0)) else (some (bt270.1, bt270.2.1, bt270.2.2.1, wrap64 (Int.tdiv bt268.2 3600), Int.tmod (wrap64 (Int.tdiv bt268.2 60)) 60, Int.tmod bt268.2 60, 0))))
end
def leap_ToLabel.f (k : Nat) (l0 : List (S82)) (a1 : Int) : Option (Int × Int × Int × Int × Int × Int × Int) := (leap_Good.f k l0).bind fun t265 => (if t265 = true then (if a1 > 4398046511104 then (leap_ToLabel.j0 k l0 a1 true) else (leap_ToLabel.j0 k l0 a1 (decide (a1 < (-4398046511104))))) else (some (0, 0, 0, 0, 0, 0, 31)))
theorem leap_ToLabel.mono_l : ∀ k, (∀ y0 y1 y2, LeO (leap_ToLabel.j0 k y0 y1 y2) (leap_ToLabel.j0 (k + 1) y0 y1 y2)) ∧ (∀ y0 y1 y2, LeO (leap_ToLabel.j1 k y0 y1 y2) (leap_ToLabel.j1 (k + 1) y0 y1 y2))
  | 0 => ⟨fun _ _ _ r h => by simp [leap_ToLabel.j0] at h, fun _ _ _ r h => by simp [leap_ToLabel.j1] at h⟩
  | k + 1 => by
    obtain ⟨ih0, ih1⟩ := leap_ToLabel.mono_l k
    refine ⟨?_, ?_⟩
    · intro y0 y1 y2
      unfold leap_ToLabel.j0
      repeat' first
      | (with_reducible exact ih0 _ _ _)
      | (with_reducible exact ih1 _ _ _)
      | (with_reducible exact civil_Date.mono _ _)
      | (with_reducible exact leap_Good.mono _ _)
      | (with_reducible exact leap_at.mono _ _ _)
      | (with_reducible exact wide_Div.mono _ _ _)
      | (with_reducible exact LeO.refl _)
      | (with_reducible exact LeO.none _)
      | (with_reducible refine LeO.ite ?_ ?_)
      | (with_reducible refine LeO.bind ?_ (fun _ => ?_))
      | exact ih0 _ _ _
      | exact ih1 _ _ _
      | exact civil_Date.mono _ _
      | exact leap_Good.mono _ _
      | exact leap_at.mono _ _ _
      | exact wide_Div.mono _ _ _
      | exact LeO.none _
      | refine LeO.ite ?_ ?_
      | refine LeO.bind ?_ (fun _ => ?_)
    · intro y0 y1 y2
      unfold leap_ToLabel.j1
      repeat' first
      | (with_reducible exact ih0 _ _ _)
      | (with_reducible exact ih1 _ _ _)
      | (with_reducible exact civil_Date.mono _ _)
      | (with_reducible exact leap_Good.mono _ _)
      | (with_reducible exact leap_at.mono _ _ _)
      | (with_reducible exact wide_Div.mono _ _ _)
      | (with_reducible exact LeO.refl _)
      | (with_reducible exact LeO.none _)
      | (with_reducible refine LeO.ite ?_ ?_)
      | (with_reducible refine LeO.bind ?_ (fun _ => ?_))
      | exact ih0 _ _ _
      | exact ih1 _ _ _
      | exact civil_Date.mono _ _
      | exact leap_Good.mono _ _
      | exact leap_at.mono _ _ _
      | exact wide_Div.mono _ _ _
      | exact LeO.none _
      | refine LeO.ite ?_ ?_
      | refine LeO.bind ?_ (fun _ => ?_)
theorem leap_ToLabel.mono : ∀ a0 a1 k, LeO (leap_ToLabel.f k a0 a1) (leap_ToLabel.f (k + 1) a0 a1) := by
  intro a0 a1 k
  obtain ⟨ih0, ih1⟩ := leap_ToLabel.mono_l k
  unfold leap_ToLabel.f
  repeat' first
      | (with_reducible exact ih0 _ _ _)
      | (with_reducible exact ih1 _ _ _)
      | (with_reducible exact civil_Date.mono _ _)
      | (with_reducible exact leap_Good.mono _ _)
      | (with_reducible exact leap_at.mono _ _ _)
      | (with_reducible exact wide_Div.mono _ _ _)
      | (with_reducible exact LeO.refl _)
      | (with_reducible exact LeO.none _)
      | (with_reducible refine LeO.ite ?_ ?_)
      | (with_reducible refine LeO.bind ?_ (fun _ => ?_))
      | exact ih0 _ _ _
      | exact ih1 _ _ _
      | exact civil_Date.mono _ _
      | exact leap_Good.mono _ _
      | exact leap_at.mono _ _ _
      | exact wide_Div.mono _ _ _
      | exact LeO.none _
      | refine LeO.ite ?_ ?_
      | refine LeO.bind ?_ (fun _ => ?_)
set_option maxHeartbeats 8000000 in
set_option maxRecDepth 100000 in
theorem leap_ToLabel.calls (k : Nat) (A0 : Option Addr) (c0 : Nat) (l0 : List (S82)) (a1 : Int) (r1 : Int) (r2 : Int) (r3 : Int) (r4 : Int) (r5 : Int) (r6 : Int) (r7 : Int) (w : World) (hM : GM w) (hr0 : Kd.C k82 w A0 l0.length l0) (hc0 : l0.length ≤ c0) (h : leap_ToLabel.f k l0 a1 = some (r1, r2, r3, r4, r5, r6, r7)) :
    Calls Tryd.prog 21 #[.slice A0 l0.length c0, .int .i64 a1] w fun e w' => e = .returned (.tuple #[.agg #[.int .i64 r1, .int .i64 r2, .int .i64 r3, .int .i64 r4, .int .i64 r5, .int .i64 r6], .int .i64 r7]) ∧ Below w.heap.size w w' := by
  have hu43 := Tryd.underlying43
  have HR0 := Aside0.mk hr0
  have HC0 := Aside0.mk hc0
  clear hr0 hc0
  have HB := Aside0.mk (Below.refl w.heap.size w)
  have H : ((leap_Good.f k l0).bind fun t265 => (if t265 = true then (if a1 > 4398046511104 then (leap_ToLabel.j0 k l0 a1 true) else (leap_ToLabel.j0 k l0 a1 (decide (a1 < (-4398046511104))))) else (some (0, 0, 0, 0, 0, 0, 31)))) = some (r1, r2, r3, r4, r5, r6, r7) := h
  clear h
  replace H := Option.bind_eq_some_iff.mp H
  obtain ⟨t265, A30, H⟩ := H
  replace H : (if t265 = true then (if a1 > 4398046511104 then (leap_ToLabel.j0 k l0 a1 true) else (leap_ToLabel.j0 k l0 a1 (decide (a1 < (-4398046511104))))) else (some (0, 0, 0, 0, 0, 0, 31))) = some (r1, r2, r3, r4, r5, r6, r7) := H
  have A3 := Aside0.mk A30
  clear A30
  by_cases c4 : t265 = true
  · subst c4
    have H1 : (if a1 > 4398046511104 then (leap_ToLabel.j0 k l0 a1 true) else (leap_ToLabel.j0 k l0 a1 (decide (a1 < (-4398046511104))))) = some (r1, r2, r3, r4, r5, r6, r7) := by rw [if_pos rfl] at H; exact H
    clear H
    have H := H1
    clear H1
    have HC5 := Aside0.mk H
    clear H
    go_enter Tryd.func21, Tryd.ntmps21
    go_upto_region 3 with (first | ((with_reducible refine gate_dst (N := 4) rfl ?_); refine bx 4 #[.int .i64 0, .int .i64 0, .int .i64 0, .int .i64 0, .int .i64 0, .int .i64 0] 43 ?_; intro gb264 hg w6 hbox hb; have BK264 := Aside0.mk (hbox); have GW264 := Aside0.mk ((by rw [hg]; exact (below_size (by repeat (first | (with_reducible first | exact HB.1 | apply below_alloc | apply pw_below_drewN | apply below_drew1) | exact HB.1))) : w.heap.size ≤ gb264)); have GE264 := Aside0.mk ((by rw [hg]; exact (below_size (by repeat (first | (with_reducible first | exact HB.1 | apply below_alloc | apply pw_below_drewN | apply below_drew1) | exact HB.1))) : w.heap.size ≤ gb264)); replace HB := Aside0.mk (below_step (by repeat (first | (with_reducible first | exact HB.1 | apply below_alloc | apply pw_below_drewN | apply below_drew1) | exact HB.1)) hb); clear hb hbox hg) | ((with_reducible refine gate_callee (f := 41) rfl ?_); refine goesL_ (some 16) rfl rfl Tryd.func41 (by kernel_rfl) rfl #[.slice A0 l0.length c0] rfl (by (try simp only [List.map_toArray, List.map_cons, List.map_nil]); first | done | rfl | (simp only [List.length_drop, List.length_take]; rfl)) ?_; (with_reducible refine (leap_Good.calls k _ _ l0 true _ ?side1 ?side2 A3.out).mono ?_); (case side1 => repeat (first | exact (Kd.C_below HR0.1 HB.1) | (with_reducible refine Kd.C_alloc ?_ _) | (with_reducible refine Kd.C_drewN ?_ _) | (with_reducible refine Kd.C_drew ?_))); (case side2 => exact HC0.1); rintro e w7 ⟨rfl, hb⟩; refine ⟨_, rfl, ?_⟩; replace BK264 := Aside0.mk (blk_below (g := gb264) (o := .cells #[.int .i64 0, .int .i64 0, .int .i64 0, .int .i64 0, .int .i64 0, .int .i64 0] 43 (0, 0)) (by (with_reducible repeat (first | refine blk_drewN ?_ _ | refine blk_drew ?_ | refine blk_alloc ?_ _)); exact BK264.1) hb); replace HB := Aside0.mk (below_step (by repeat (first | (with_reducible first | exact HB.1 | apply below_alloc | apply pw_below_drewN | apply below_drew1 | refine below_set ?_ GE264.out) | exact HB.1)) hb); (try clear hb); (try clear hb2); (try clear hk); (try clear hi)))
    (try simp only [Act.put, zA, zB, zC])
    go_cut [24] (fun v24 wc => ∃ (kq : Nat) (x24_4 : Bool), v24 = .bool x24_4 ∧ Aside0 (leap_ToLabel.j0 kq l0 a1 x24_4 = some (r1, r2, r3, r4, r5, r6, r7)) ∧ Aside0 (kq ≤ k) ∧ Aside0 (wc.heap[gb264]? = some (.cells #[.int .i64 0, .int .i64 0, .int .i64 0, .int .i64 0, .int .i64 0, .int .i64 0] 43 (0, 0))) ∧ Aside0 (Below w.heap.size w wc))
    case first =>
      have H := HC5.1
      clear HC5
      by_cases c8 : a1 > 4398046511104
      · rw [if_pos c8] at H
        have c8b0 : decide (4398046511104 < a1) = true := decide_eq_true c8
        clear c8
        (first | rw [c8b0] | (simp only [i64_w, i32_w]; rw [c8b0]) | skip)
        have H' := Aside0.mk H
        clear H
        go_wp2
        go_meet
        case rel => exact ⟨_, (true), zs, H', ⟨by first | omega | exact Nat.le_refl _⟩, ⟨by (with_reducible repeat (first | refine blk_drewN ?_ _ | refine blk_drew ?_ | refine blk_alloc ?_ _)); exact BK264.1⟩, ⟨by repeat (first | (with_reducible first | exact HB.1 | apply below_alloc | apply pw_below_drewN | apply below_drew1 | refine below_set ?_ GE264.out) | exact HB.1)⟩⟩
      · rw [if_neg c8] at H
        have c8b0 : decide (4398046511104 < a1) = false := decide_eq_false c8
        clear c8
        (first | rw [c8b0] | (simp only [i64_w, i32_w]; rw [c8b0]) | skip)
        have H' := Aside0.mk H
        clear H
        go_wp2
        go_meet
        case rel => exact ⟨_, (decide (a1 < (-4398046511104))), zs, H', ⟨by first | omega | exact Nat.le_refl _⟩, ⟨by (with_reducible repeat (first | refine blk_drewN ?_ _ | refine blk_drew ?_ | refine blk_alloc ?_ _)); exact BK264.1⟩, ⟨by repeat (first | (with_reducible first | exact HB.1 | apply below_alloc | apply pw_below_drewN | apply below_drew1 | refine below_set ?_ GE264.out) | exact HB.1)⟩⟩
    case rest =>
      clear HC5
      try clear c2
      try clear p2
      try clear c4
      try clear c8
      try clear c8b0
      obtain ⟨kq, x24_4, rfl, HA, HJ4, BK264, HB⟩ := hcut
      cases kq with
      | zero => exact absurd HA.1 (by simp [leap_ToLabel.j0])
      | succ kj4 =>
        have H := HA.1
        clear HA
        simp only [leap_ToLabel.j0] at H
        by_cases c9 : x24_4 = true
        · subst c9
          have H1 : (some (0, 0, 0, 0, 0, 0, 30)) = some (r1, r2, r3, r4, r5, r6, r7) := by rw [if_pos rfl] at H; exact H
          clear H
          have H := H1
          clear H1
          simp only [Option.some.injEq, Prod.mk.injEq] at H
          obtain ⟨rfl, rfl, rfl, rfl, rfl, rfl, rfl⟩ := H
          obtain ⟨hcz10_0, hcz10_1, hcz10_2, hcz10_3, hcz10_4, hcz10_5⟩ := cc6 BK264.1
          obtain ⟨hfz10_0, hfz10_1, hfz10_2, hfz10_3, hfz10_4, hfz10_5⟩ := cf6 BK264.1
          go_wp2
          refine bodyPost_ret (results_ct rfl _ _ gb264 43 #[.int .i64 0, .int .i64 0, .int .i64 0, .int .i64 0, .int .i64 0, .int .i64 0] (0, 0) _ rfl (by (with_reducible repeat (first | refine blk_drewN ?_ _ | refine blk_drew ?_ | refine blk_alloc ?_ _)); refine blk_put (cs := #[.int .i64 0, .int .i64 0, .int .i64 0, .int .i64 0, .int .i64 0, .int .i64 0]) ?_ 5 _ rfl; (with_reducible repeat (first | refine blk_drewN ?_ _ | refine blk_drew ?_ | refine blk_alloc ?_ _)); refine blk_put (cs := #[.int .i64 0, .int .i64 0, .int .i64 0, .int .i64 0, .int .i64 0, .int .i64 0]) ?_ 4 _ rfl; (with_reducible repeat (first | refine blk_drewN ?_ _ | refine blk_drew ?_ | refine blk_alloc ?_ _)); refine blk_put (cs := #[.int .i64 0, .int .i64 0, .int .i64 0, .int .i64 0, .int .i64 0, .int .i64 0]) ?_ 3 _ rfl; (with_reducible repeat (first | refine blk_drewN ?_ _ | refine blk_drew ?_ | refine blk_alloc ?_ _)); refine blk_put (cs := #[.int .i64 0, .int .i64 0, .int .i64 0, .int .i64 0, .int .i64 0, .int .i64 0]) ?_ 2 _ rfl; (with_reducible repeat (first | refine blk_drewN ?_ _ | refine blk_drew ?_ | refine blk_alloc ?_ _)); refine blk_put (cs := #[.int .i64 0, .int .i64 0, .int .i64 0, .int .i64 0, .int .i64 0, .int .i64 0]) ?_ 1 _ rfl; (with_reducible repeat (first | refine blk_drewN ?_ _ | refine blk_drew ?_ | refine blk_alloc ?_ _)); refine blk_put (cs := #[.int .i64 0, .int .i64 0, .int .i64 0, .int .i64 0, .int .i64 0, .int .i64 0]) ?_ 0 _ rfl; (with_reducible repeat (first | refine blk_drewN ?_ _ | refine blk_drew ?_ | refine blk_alloc ?_ _)); exact BK264.1) Tryd.underlying43 rfl (by kernel_rfl)) rfl ?_
          exact ⟨by first | rfl | (simp [errW_none, errW_some] <;> rfl) | (simp [*, errW_none, errW_some] <;> rfl), by repeat (first | (with_reducible first | exact HB.1 | apply below_alloc | apply pw_below_drewN | apply below_drew1 | refine below_set ?_ GE264.out) | exact HB.1)⟩
        · replace c9 := Bool.eq_false_iff.mpr c9
          subst c9
          have H1 : ((leap_at.f kj4 l0 a1).bind fun bt266 => (if bt266.2 = true then (leap_ToLabel.j1 kj4 (wrap64 (a1 - 1)) bt266.1 bt266.2) else (leap_ToLabel.j1 kj4 a1 bt266.1 bt266.2))) = some (r1, r2, r3, r4, r5, r6, r7) := by rw [if_neg (show ¬ (false = true) by decide)] at H; exact H
          clear H
          have H := H1
          clear H1
          replace H := Option.bind_eq_some_iff.mp H
          obtain ⟨⟨t266, t267⟩, A110, H⟩ := H
          replace H : (if t267 = true then (leap_ToLabel.j1 kj4 (wrap64 (a1 - 1)) t266 t267) else (leap_ToLabel.j1 kj4 a1 t266 t267)) = some (r1, r2, r3, r4, r5, r6, r7) := H
          have A11 := Aside0.mk A110
          clear A110
          have HC12 := Aside0.mk H
          clear H
          go_upto_if 32 with (first | ((with_reducible refine gate_callee (f := 42) rfl ?_); refine goesL_ (some 29) rfl rfl Tryd.func42 (by kernel_rfl) rfl #[.slice A0 l0.length c0, .int .i64 a1] rfl (by (try simp only [List.map_toArray, List.map_cons, List.map_nil]); first | done | rfl | (simp only [List.length_drop, List.length_take]; rfl)) ?_; (with_reducible refine (leap_at.calls kj4 _ _ l0 a1 t266 t267 _ ?side1 ?side2 A11.out).mono ?_); (case side1 => repeat (first | exact (Kd.C_below HR0.1 HB.1) | (with_reducible refine Kd.C_alloc ?_ _) | (with_reducible refine Kd.C_drewN ?_ _) | (with_reducible refine Kd.C_drew ?_))); (case side2 => exact HC0.1); rintro e w13 ⟨rfl, hb⟩; refine ⟨_, rfl, ?_⟩; replace BK264 := Aside0.mk (blk_below (g := gb264) (o := .cells #[.int .i64 0, .int .i64 0, .int .i64 0, .int .i64 0, .int .i64 0, .int .i64 0] 43 (0, 0)) (by (with_reducible repeat (first | refine blk_drewN ?_ _ | refine blk_drew ?_ | refine blk_alloc ?_ _)); exact BK264.1) hb); replace HB := Aside0.mk (below_step (by repeat (first | (with_reducible first | exact HB.1 | apply below_alloc | apply pw_below_drewN | apply below_drew1 | refine below_set ?_ GE264.out) | exact HB.1)) hb); (try clear hb); (try clear hb2); (try clear hk); (try clear hi)))
          (try simp only [Act.put, zA, zB, zC])
          go_cut [1] (fun v1 wc => ∃ (kq : Nat) (x1_11 : Int), v1 = .int .i64 x1_11 ∧ Aside0 (leap_ToLabel.j1 kq x1_11 t266 t267 = some (r1, r2, r3, r4, r5, r6, r7)) ∧ Aside0 (kq ≤ kj4) ∧ Aside0 (wc.heap[gb264]? = some (.cells #[.int .i64 0, .int .i64 0, .int .i64 0, .int .i64 0, .int .i64 0, .int .i64 0] 43 (0, 0))) ∧ Aside0 (Below w.heap.size w wc))
          case first =>
            have H := HC12.1
            clear HC12
            by_cases c14 : t267 = true
            · subst c14
              have H1 : (leap_ToLabel.j1 kj4 (wrap64 (a1 - 1)) t266 true) = some (r1, r2, r3, r4, r5, r6, r7) := by rw [if_pos rfl] at H; exact H
              clear H
              have H := H1
              clear H1
              have H' := Aside0.mk H
              clear H
              go_wp2
              go_meet
              case rel => exact ⟨_, (wrap64 (a1 - 1)), zs, H', ⟨by have := HJ4.1; first | omega | exact Nat.le_refl _⟩, ⟨by (with_reducible repeat (first | refine blk_drewN ?_ _ | refine blk_drew ?_ | refine blk_alloc ?_ _)); exact BK264.1⟩, ⟨by repeat (first | (with_reducible first | exact HB.1 | apply below_alloc | apply pw_below_drewN | apply below_drew1 | refine below_set ?_ GE264.out) | exact HB.1)⟩⟩
            · replace c14 := Bool.eq_false_iff.mpr c14
              subst c14
              have H1 : (leap_ToLabel.j1 kj4 a1 t266 false) = some (r1, r2, r3, r4, r5, r6, r7) := by rw [if_neg (show ¬ (false = true) by decide)] at H; exact H
              clear H
              have H := H1
              clear H1
              have H' := Aside0.mk H
              clear H
              go_wp2
              go_meet
              case rel => exact ⟨_, (a1), zs, H', ⟨by have := HJ4.1; first | omega | exact Nat.le_refl _⟩, ⟨by (with_reducible repeat (first | refine blk_drewN ?_ _ | refine blk_drew ?_ | refine blk_alloc ?_ _)); exact BK264.1⟩, ⟨by repeat (first | (with_reducible first | exact HB.1 | apply below_alloc | apply pw_below_drewN | apply below_drew1 | refine below_set ?_ GE264.out) | exact HB.1)⟩⟩
          case rest =>
            clear HC12
            try clear c1
            try clear c2
            try clear p2
            try clear c4
            try clear p6
            try clear c8
            try clear c8b0
            try clear c9
            try clear c14
            try clear hcz10_0
            try clear hcz10_1
            try clear hcz10_2
            try clear hcz10_3
            try clear hcz10_4
            try clear hcz10_5
            try clear hfz10_0
            try clear hfz10_1
            try clear hfz10_2
            try clear hfz10_3
            try clear hfz10_4
            try clear hfz10_5
            try clear p2
            obtain ⟨kq, x1_11, rfl, HA, HJ11, BK264, HB⟩ := hcut
            cases kq with
            | zero => exact absurd HA.1 (by simp [leap_ToLabel.j1])
            | succ kj11 =>
              have H := HA.1
              clear HA
              simp only [leap_ToLabel.j1] at H
              replace H := Option.bind_eq_some_iff.mp H
              obtain ⟨⟨t268, t269⟩, A150, H⟩ := H
              replace H : ((civil_Date.f kj11 t268).bind fun bt270 => (if t267 = true then (some (bt270.1, bt270.2.1, bt270.2.2.1, wrap64 (Int.tdiv t269 3600), Int.tmod (wrap64 (Int.tdiv t269 60)) 60, wrap64 ((Int.tmod t269 60) + 1), 0)) else (some (bt270.1, bt270.2.1, bt270.2.2.1, wrap64 (Int.tdiv t269 3600), Int.tmod (wrap64 (Int.tdiv t269 60)) 60, Int.tmod t269 60, 0)))) = some (r1, r2, r3, r4, r5, r6, r7) := H
              have A15 := Aside0.mk A150
              clear A150
              replace H := Option.bind_eq_some_iff.mp H
              obtain ⟨⟨t270, t271, t272, t273⟩, A160, H⟩ := H
              replace H : (if t267 = true then (some (t270, t271, t272, wrap64 (Int.tdiv t269 3600), Int.tmod (wrap64 (Int.tdiv t269 60)) 60, wrap64 ((Int.tmod t269 60) + 1), 0)) else (some (t270, t271, t272, wrap64 (Int.tdiv t269 3600), Int.tmod (wrap64 (Int.tdiv t269 60)) 60, Int.tmod t269 60, 0))) = some (r1, r2, r3, r4, r5, r6, r7) := H
              have A16 := Aside0.mk A160
              clear A160
              by_cases c17 : t267 = true
              · subst c17
                have H1 : (some (t270, t271, t272, wrap64 (Int.tdiv t269 3600), Int.tmod (wrap64 (Int.tdiv t269 60)) 60, wrap64 ((Int.tmod t269 60) + 1), 0)) = some (r1, r2, r3, r4, r5, r6, r7) := by rw [if_pos rfl] at H; exact H
                clear H
                have H := H1
                clear H1
                simp only [Option.some.injEq, Prod.mk.injEq] at H
                have NH := Aside0.mk H
                clear H
                go_upto_region 11 with (first | ((with_reducible refine gate_callee (f := 20) rfl ?_); refine goesL_ (some 39) rfl rfl Tryd.func20 (by kernel_rfl) rfl #[.int .i64 (wrap64 (x1_11 - t266)), .int .i64 86400] rfl (by (try simp only [List.map_toArray, List.map_cons, List.map_nil]); first | done | rfl | (simp only [List.length_drop, List.length_take]; rfl)) ?_; (with_reducible refine (wide_Div.calls kj11 (wrap64 (x1_11 - t266)) 86400 t268 t269 _ A15.out).mono ?_); rintro e w18 ⟨rfl, hb⟩; refine ⟨_, rfl, ?_⟩; replace BK264 := Aside0.mk (blk_below (g := gb264) (o := .cells #[.int .i64 0, .int .i64 0, .int .i64 0, .int .i64 0, .int .i64 0, .int .i64 0] 43 (0, 0)) (by (with_reducible repeat (first | refine blk_drewN ?_ _ | refine blk_drew ?_ | refine blk_alloc ?_ _)); exact BK264.1) hb); replace HB := Aside0.mk (below_step (by repeat (first | (with_reducible first | exact HB.1 | apply below_alloc | apply pw_below_drewN | apply below_drew1 | refine below_set ?_ GE264.out) | exact HB.1)) hb); (try clear hb); (try clear hb2); (try clear hk); (try clear hi)) | ((with_reducible refine gate_callee (f := 43) rfl ?_); refine goesL_ (some 44) rfl rfl Tryd.func43 (by kernel_rfl) rfl #[.int .i64 t268] rfl (by (try simp only [List.map_toArray, List.map_cons, List.map_nil]); first | done | rfl | (simp only [List.length_drop, List.length_take]; rfl)) ?_; (with_reducible refine (civil_Date.calls kj11 t268 t270 t271 t272 t273 _ (by first | exact hM | exact hM.below HB.1 | repeat (first | exact hM | exact hM.below HB.1 | apply GM.drewN | apply GM.drew)) A16.out).mono ?_); rintro e w19 ⟨rfl, hb⟩; refine ⟨_, rfl, ?_⟩; replace BK264 := Aside0.mk (blk_below (g := gb264) (o := .cells #[.int .i64 0, .int .i64 0, .int .i64 0, .int .i64 0, .int .i64 0, .int .i64 0] 43 (0, 0)) (by (with_reducible repeat (first | refine blk_drewN ?_ _ | refine blk_drew ?_ | refine blk_alloc ?_ _)); exact BK264.1) hb); replace HB := Aside0.mk (below_step (by repeat (first | (with_reducible first | exact HB.1 | apply below_alloc | apply pw_below_drewN | apply below_drew1 | refine below_set ?_ GE264.out) | exact HB.1)) hb); (try clear hb); (try clear hb2); (try clear hk); (try clear hi)) | ((with_reducible refine gate_dst (N := 14) rfl ?_); refine bx 14 #[.int .i64 0, .int .i64 0, .int .i64 0, .int .i64 0, .int .i64 0, .int .i64 0] 43 ?_; intro gb274 hg w20 hbox hb; have BK274 := Aside0.mk (hbox); have GW274 := Aside0.mk ((by rw [hg]; exact (below_size (by repeat (first | (with_reducible first | exact HB.1 | apply below_alloc | apply pw_below_drewN | apply below_drew1 | refine below_set ?_ GE264.out) | exact HB.1))) : w.heap.size ≤ gb274)); have GE274 := Aside0.mk ((by rw [hg]; exact (below_size (by repeat (first | (with_reducible first | exact HB.1 | apply below_alloc | apply pw_below_drewN | apply below_drew1 | refine below_set ?_ GE264.out) | exact HB.1))) : w.heap.size ≤ gb274)); replace HB := Aside0.mk (below_step (by repeat (first | (with_reducible first | exact HB.1 | apply below_alloc | apply pw_below_drewN | apply below_drew1 | refine below_set ?_ GE264.out) | exact HB.1)) hb); have NB264_274 := Aside0.mk ((by rw [hg]; exact Nat.ne_of_lt (blk_lt (g := gb264) (o := .cells #[.int .i64 0, .int .i64 0, .int .i64 0, .int .i64 0, .int .i64 0, .int .i64 0] 43 (0, 0)) (by (with_reducible repeat (first | refine blk_drewN ?_ _ | refine blk_drew ?_ | refine blk_alloc ?_ _)); exact BK264.1)) : gb264 ≠ gb274)); have NB274_264 := Aside0.mk ((by rw [hg]; exact Nat.ne_of_gt (blk_lt (g := gb264) (o := .cells #[.int .i64 0, .int .i64 0, .int .i64 0, .int .i64 0, .int .i64 0, .int .i64 0] 43 (0, 0)) (by (with_reducible repeat (first | refine blk_drewN ?_ _ | refine blk_drew ?_ | refine blk_alloc ?_ _)); exact BK264.1)) : gb274 ≠ gb264)); replace BK264 := Aside0.mk (blk_below (g := gb264) (o := .cells #[.int .i64 0, .int .i64 0, .int .i64 0, .int .i64 0, .int .i64 0, .int .i64 0] 43 (0, 0)) (by (with_reducible repeat (first | refine blk_drewN ?_ _ | refine blk_drew ?_ | refine blk_alloc ?_ _)); exact BK264.1) hb); clear hb hbox hg; have hnb21 := NB274_264.1; have hnc21 := NB264_274.1; obtain ⟨hcz22_0, hcz22_1, hcz22_2, hcz22_3, hcz22_4, hcz22_5⟩ := cc6 BK274.1; obtain ⟨hfz22_0, hfz22_1, hfz22_2, hfz22_3, hfz22_4, hfz22_5⟩ := cf6 BK274.1; obtain ⟨hcz23_0, hcz23_1, hcz23_2, hcz23_3, hcz23_4, hcz23_5⟩ := cc6 BK264.1; obtain ⟨hfz23_0, hfz23_1, hfz23_2, hfz23_3, hfz23_4, hfz23_5⟩ := cf6 BK264.1))
                obtain ⟨v0, hv0⟩ : ∃ v, v = wrap64 (Int.tdiv t269 3600) := ⟨_, rfl⟩
                obtain ⟨v1, hv1⟩ : ∃ v, v = Int.tmod (wrap64 (Int.tdiv t269 60)) 60 := ⟨_, rfl⟩
                obtain ⟨v2, hv2⟩ : ∃ v, v = Int.tmod t269 60 := ⟨_, rfl⟩
                obtain ⟨h1_, h2_, h3_, h4_, h5_, h6_, h7_⟩ := NH.1
                clear NH
                rw [← hv0] at h4_
                rw [← hv1] at h5_
                rw [← hv2] at h6_
                subst h1_ h2_ h3_ h4_ h5_ h6_ h7_
                rw [← hv0, ← hv1, ← hv2]
                clear hv0 hv1 hv2
                have m0_ : Aside0 (((((((w20.setCell ⟨gb274, 0, none⟩ (.int .i64 t270)).setCell ⟨gb274, 1, none⟩ (.int .i64 t271)).setCell ⟨gb274, 2, none⟩ (.int .i64 t272)).setCell ⟨gb274, 3, none⟩ (.int .i64 v0)).setCell ⟨gb274, 4, none⟩ (.int .i64 v1)).setCell ⟨gb274, 5, none⟩ (.int .i64 v2)).heap[gb274]? = some (.cells #[.int .i64 t270, .int .i64 t271, .int .i64 t272, .int .i64 v0, .int .i64 v1, .int .i64 v2] 43 (0, 0))) := ⟨by refine blk_put (cs := #[.int .i64 t270, .int .i64 t271, .int .i64 t272, .int .i64 v0, .int .i64 v1, .int .i64 0]) ?_ 5 _ rfl; refine blk_put (cs := #[.int .i64 t270, .int .i64 t271, .int .i64 t272, .int .i64 v0, .int .i64 0, .int .i64 0]) ?_ 4 _ rfl; refine blk_put (cs := #[.int .i64 t270, .int .i64 t271, .int .i64 t272, .int .i64 0, .int .i64 0, .int .i64 0]) ?_ 3 _ rfl; refine blk_put (cs := #[.int .i64 t270, .int .i64 t271, .int .i64 0, .int .i64 0, .int .i64 0, .int .i64 0]) ?_ 2 _ rfl; refine blk_put (cs := #[.int .i64 t270, .int .i64 0, .int .i64 0, .int .i64 0, .int .i64 0, .int .i64 0]) ?_ 1 _ rfl; refine blk_put (cs := #[.int .i64 0, .int .i64 0, .int .i64 0, .int .i64 0, .int .i64 0, .int .i64 0]) ?_ 0 _ rfl; exact BK274.1⟩
                have m1_ : Aside0 (((((((w20.setCell ⟨gb274, 0, none⟩ (.int .i64 t270)).setCell ⟨gb274, 1, none⟩ (.int .i64 t271)).setCell ⟨gb274, 2, none⟩ (.int .i64 t272)).setCell ⟨gb274, 3, none⟩ (.int .i64 v0)).setCell ⟨gb274, 4, none⟩ (.int .i64 v1)).setCell ⟨gb274, 5, none⟩ (.int .i64 v2)).heap[gb264]? = some (.cells #[.int .i64 0, .int .i64 0, .int .i64 0, .int .i64 0, .int .i64 0, .int .i64 0] 43 (0, 0))) := ⟨by refine blk_far ?_ NB264_274.1 _; refine blk_far ?_ NB264_274.1 _; refine blk_far ?_ NB264_274.1 _; refine blk_far ?_ NB264_274.1 _; refine blk_far ?_ NB264_274.1 _; refine blk_far ?_ NB264_274.1 _; exact BK264.1⟩
                have m2_ : Aside0 (Below w.heap.size w ((((((w20.setCell ⟨gb274, 0, none⟩ (.int .i64 t270)).setCell ⟨gb274, 1, none⟩ (.int .i64 t271)).setCell ⟨gb274, 2, none⟩ (.int .i64 t272)).setCell ⟨gb274, 3, none⟩ (.int .i64 v0)).setCell ⟨gb274, 4, none⟩ (.int .i64 v1)).setCell ⟨gb274, 5, none⟩ (.int .i64 v2))) := ⟨by refine below_set ?_ GE274.out; refine below_set ?_ GE274.out; refine below_set ?_ GE274.out; refine below_set ?_ GE274.out; refine below_set ?_ GE274.out; refine below_set ?_ GE274.out; exact HB.1⟩
                clear hcz22_0 hcz22_1 hcz22_2 hcz22_3 hcz22_4 hcz22_5 hfz22_0 hfz22_1 hfz22_2 hfz22_3 hfz22_4 hfz22_5 hcz23_0 hcz23_1 hcz23_2 hcz23_3 hcz23_4 hcz23_5 hfz23_0 hfz23_1 hfz23_2 hfz23_3 hfz23_4 hfz23_5
                clear BK274 BK264 HB
                generalize ((((((w20.setCell ⟨gb274, 0, none⟩ (.int .i64 t270)).setCell ⟨gb274, 1, none⟩ (.int .i64 t271)).setCell ⟨gb274, 2, none⟩ (.int .i64 t272)).setCell ⟨gb274, 3, none⟩ (.int .i64 v0)).setCell ⟨gb274, 4, none⟩ (.int .i64 v1)).setCell ⟨gb274, 5, none⟩ (.int .i64 v2)) = wz at m0_ m1_ m2_ ⊢
                have hcg_0 : wz.cell? ⟨gb274, 0, none⟩ = some (.int .i64 t270) := (blk_cell m0_.out 0).trans rfl
                have hfg_0 := blk_frozen m0_.out 0
                have hcg_1 : wz.cell? ⟨gb274, 1, none⟩ = some (.int .i64 t271) := (blk_cell m0_.out 1).trans rfl
                have hfg_1 := blk_frozen m0_.out 1
                have hcg_2 : wz.cell? ⟨gb274, 2, none⟩ = some (.int .i64 t272) := (blk_cell m0_.out 2).trans rfl
                have hfg_2 := blk_frozen m0_.out 2
                have hcg_3 : wz.cell? ⟨gb274, 3, none⟩ = some (.int .i64 v0) := (blk_cell m0_.out 3).trans rfl
                have hfg_3 := blk_frozen m0_.out 3
                have hcg_4 : wz.cell? ⟨gb274, 4, none⟩ = some (.int .i64 v1) := (blk_cell m0_.out 4).trans rfl
                have hfg_4 := blk_frozen m0_.out 4
                have hcg_5 : wz.cell? ⟨gb274, 5, none⟩ = some (.int .i64 v2) := (blk_cell m0_.out 5).trans rfl
                have hfg_5 := blk_frozen m0_.out 5
                have hcr_0 : wz.cell? ⟨gb264, 0, none⟩ = some (.int .i64 0) := (blk_cell m1_.out 0).trans rfl
                have hfr_0 := blk_frozen m1_.out 0
                have hcr_1 : wz.cell? ⟨gb264, 1, none⟩ = some (.int .i64 0) := (blk_cell m1_.out 1).trans rfl
                have hfr_1 := blk_frozen m1_.out 1
                have hcr_2 : wz.cell? ⟨gb264, 2, none⟩ = some (.int .i64 0) := (blk_cell m1_.out 2).trans rfl
                have hfr_2 := blk_frozen m1_.out 2
                have hcr_3 : wz.cell? ⟨gb264, 3, none⟩ = some (.int .i64 0) := (blk_cell m1_.out 3).trans rfl
                have hfr_3 := blk_frozen m1_.out 3
                have hcr_4 : wz.cell? ⟨gb264, 4, none⟩ = some (.int .i64 0) := (blk_cell m1_.out 4).trans rfl
                have hfr_4 := blk_frozen m1_.out 4
                have hcr_5 : wz.cell? ⟨gb264, 5, none⟩ = some (.int .i64 0) := (blk_cell m1_.out 5).trans rfl
                have hfr_5 := blk_frozen m1_.out 5
                go_wp2
                refine bodyPost_ret (results_ct rfl _ _ gb264 43 #[.int .i64 t270, .int .i64 t271, .int .i64 t272, .int .i64 v0, .int .i64 v1, .int .i64 (wrap64 (v2 + 1))] (0, 0) _ rfl (by refine blk_put (cs := #[.int .i64 t270, .int .i64 t271, .int .i64 t272, .int .i64 v0, .int .i64 v1, .int .i64 0]) ?_ 5 _ rfl; refine blk_put (cs := #[.int .i64 t270, .int .i64 t271, .int .i64 t272, .int .i64 v0, .int .i64 0, .int .i64 0]) ?_ 4 _ rfl; refine blk_put (cs := #[.int .i64 t270, .int .i64 t271, .int .i64 t272, .int .i64 0, .int .i64 0, .int .i64 0]) ?_ 3 _ rfl; refine blk_put (cs := #[.int .i64 t270, .int .i64 t271, .int .i64 0, .int .i64 0, .int .i64 0, .int .i64 0]) ?_ 2 _ rfl; refine blk_put (cs := #[.int .i64 t270, .int .i64 0, .int .i64 0, .int .i64 0, .int .i64 0, .int .i64 0]) ?_ 1 _ rfl; refine blk_put (cs := #[.int .i64 0, .int .i64 0, .int .i64 0, .int .i64 0, .int .i64 0, .int .i64 0]) ?_ 0 _ rfl; refine blk_far ?_ NB264_274.1 _; exact m1_.out) Tryd.underlying43 rfl (by kernel_rfl)) rfl ?_
                exact ⟨rfl, by refine below_set ?_ GE264.out; refine below_set ?_ GE264.out; refine below_set ?_ GE264.out; refine below_set ?_ GE264.out; refine below_set ?_ GE264.out; refine below_set ?_ GE264.out; refine below_set ?_ GE274.out; exact m2_.out⟩
              · replace c17 := Bool.eq_false_iff.mpr c17
                subst c17
                have H1 : (some (t270, t271, t272, wrap64 (Int.tdiv t269 3600), Int.tmod (wrap64 (Int.tdiv t269 60)) 60, Int.tmod t269 60, 0)) = some (r1, r2, r3, r4, r5, r6, r7) := by rw [if_neg (show ¬ (false = true) by decide)] at H; exact H
                clear H
                have H := H1
                clear H1
                simp only [Option.some.injEq, Prod.mk.injEq] at H
                have NH := Aside0.mk H
                clear H
                go_upto_region 11 with (first | ((with_reducible refine gate_callee (f := 20) rfl ?_); refine goesL_ (some 39) rfl rfl Tryd.func20 (by kernel_rfl) rfl #[.int .i64 (wrap64 (x1_11 - t266)), .int .i64 86400] rfl (by (try simp only [List.map_toArray, List.map_cons, List.map_nil]); first | done | rfl | (simp only [List.length_drop, List.length_take]; rfl)) ?_; (with_reducible refine (wide_Div.calls kj11 (wrap64 (x1_11 - t266)) 86400 t268 t269 _ A15.out).mono ?_); rintro e w24 ⟨rfl, hb⟩; refine ⟨_, rfl, ?_⟩; replace BK264 := Aside0.mk (blk_below (g := gb264) (o := .cells #[.int .i64 0, .int .i64 0, .int .i64 0, .int .i64 0, .int .i64 0, .int .i64 0] 43 (0, 0)) (by (with_reducible repeat (first | refine blk_drewN ?_ _ | refine blk_drew ?_ | refine blk_alloc ?_ _)); exact BK264.1) hb); replace HB := Aside0.mk (below_step (by repeat (first | (with_reducible first | exact HB.1 | apply below_alloc | apply pw_below_drewN | apply below_drew1 | refine below_set ?_ GE264.out) | exact HB.1)) hb); (try clear hb); (try clear hb2); (try clear hk); (try clear hi)) | ((with_reducible refine gate_callee (f := 43) rfl ?_); refine goesL_ (some 44) rfl rfl Tryd.func43 (by kernel_rfl) rfl #[.int .i64 t268] rfl (by (try simp only [List.map_toArray, List.map_cons, List.map_nil]); first | done | rfl | (simp only [List.length_drop, List.length_take]; rfl)) ?_; (with_reducible refine (civil_Date.calls kj11 t268 t270 t271 t272 t273 _ (by first | exact hM | exact hM.below HB.1 | repeat (first | exact hM | exact hM.below HB.1 | apply GM.drewN | apply GM.drew)) A16.out).mono ?_); rintro e w25 ⟨rfl, hb⟩; refine ⟨_, rfl, ?_⟩; replace BK264 := Aside0.mk (blk_below (g := gb264) (o := .cells #[.int .i64 0, .int .i64 0, .int .i64 0, .int .i64 0, .int .i64 0, .int .i64 0] 43 (0, 0)) (by (with_reducible repeat (first | refine blk_drewN ?_ _ | refine blk_drew ?_ | refine blk_alloc ?_ _)); exact BK264.1) hb); replace HB := Aside0.mk (below_step (by repeat (first | (with_reducible first | exact HB.1 | apply below_alloc | apply pw_below_drewN | apply below_drew1 | refine below_set ?_ GE264.out) | exact HB.1)) hb); (try clear hb); (try clear hb2); (try clear hk); (try clear hi)) | ((with_reducible refine gate_dst (N := 14) rfl ?_); refine bx 14 #[.int .i64 0, .int .i64 0, .int .i64 0, .int .i64 0, .int .i64 0, .int .i64 0] 43 ?_; intro gb274 hg w26 hbox hb; have BK274 := Aside0.mk (hbox); have GW274 := Aside0.mk ((by rw [hg]; exact (below_size (by repeat (first | (with_reducible first | exact HB.1 | apply below_alloc | apply pw_below_drewN | apply below_drew1 | refine below_set ?_ GE264.out) | exact HB.1))) : w.heap.size ≤ gb274)); have GE274 := Aside0.mk ((by rw [hg]; exact (below_size (by repeat (first | (with_reducible first | exact HB.1 | apply below_alloc | apply pw_below_drewN | apply below_drew1 | refine below_set ?_ GE264.out) | exact HB.1))) : w.heap.size ≤ gb274)); replace HB := Aside0.mk (below_step (by repeat (first | (with_reducible first | exact HB.1 | apply below_alloc | apply pw_below_drewN | apply below_drew1 | refine below_set ?_ GE264.out) | exact HB.1)) hb); have NB264_274 := Aside0.mk ((by rw [hg]; exact Nat.ne_of_lt (blk_lt (g := gb264) (o := .cells #[.int .i64 0, .int .i64 0, .int .i64 0, .int .i64 0, .int .i64 0, .int .i64 0] 43 (0, 0)) (by (with_reducible repeat (first | refine blk_drewN ?_ _ | refine blk_drew ?_ | refine blk_alloc ?_ _)); exact BK264.1)) : gb264 ≠ gb274)); have NB274_264 := Aside0.mk ((by rw [hg]; exact Nat.ne_of_gt (blk_lt (g := gb264) (o := .cells #[.int .i64 0, .int .i64 0, .int .i64 0, .int .i64 0, .int .i64 0, .int .i64 0] 43 (0, 0)) (by (with_reducible repeat (first | refine blk_drewN ?_ _ | refine blk_drew ?_ | refine blk_alloc ?_ _)); exact BK264.1)) : gb274 ≠ gb264)); replace BK264 := Aside0.mk (blk_below (g := gb264) (o := .cells #[.int .i64 0, .int .i64 0, .int .i64 0, .int .i64 0, .int .i64 0, .int .i64 0] 43 (0, 0)) (by (with_reducible repeat (first | refine blk_drewN ?_ _ | refine blk_drew ?_ | refine blk_alloc ?_ _)); exact BK264.1) hb); clear hb hbox hg; have hnb27 := NB274_264.1; have hnc27 := NB264_274.1; obtain ⟨hcz28_0, hcz28_1, hcz28_2, hcz28_3, hcz28_4, hcz28_5⟩ := cc6 BK274.1; obtain ⟨hfz28_0, hfz28_1, hfz28_2, hfz28_3, hfz28_4, hfz28_5⟩ := cf6 BK274.1; obtain ⟨hcz29_0, hcz29_1, hcz29_2, hcz29_3, hcz29_4, hcz29_5⟩ := cc6 BK264.1; obtain ⟨hfz29_0, hfz29_1, hfz29_2, hfz29_3, hfz29_4, hfz29_5⟩ := cf6 BK264.1))
                obtain ⟨v0, hv0⟩ : ∃ v, v = wrap64 (Int.tdiv t269 3600) := ⟨_, rfl⟩
                obtain ⟨v1, hv1⟩ : ∃ v, v = Int.tmod (wrap64 (Int.tdiv t269 60)) 60 := ⟨_, rfl⟩
                obtain ⟨v2, hv2⟩ : ∃ v, v = Int.tmod t269 60 := ⟨_, rfl⟩
                obtain ⟨h1_, h2_, h3_, h4_, h5_, h6_, h7_⟩ := NH.1
                clear NH
                rw [← hv0] at h4_
                rw [← hv1] at h5_
                rw [← hv2] at h6_
                subst h1_ h2_ h3_ h4_ h5_ h6_ h7_
                rw [← hv0, ← hv1, ← hv2]
                clear hv0 hv1 hv2
                have m0_ : Aside0 (((((((w26.setCell ⟨gb274, 0, none⟩ (.int .i64 t270)).setCell ⟨gb274, 1, none⟩ (.int .i64 t271)).setCell ⟨gb274, 2, none⟩ (.int .i64 t272)).setCell ⟨gb274, 3, none⟩ (.int .i64 v0)).setCell ⟨gb274, 4, none⟩ (.int .i64 v1)).setCell ⟨gb274, 5, none⟩ (.int .i64 v2)).heap[gb274]? = some (.cells #[.int .i64 t270, .int .i64 t271, .int .i64 t272, .int .i64 v0, .int .i64 v1, .int .i64 v2] 43 (0, 0))) := ⟨by refine blk_put (cs := #[.int .i64 t270, .int .i64 t271, .int .i64 t272, .int .i64 v0, .int .i64 v1, .int .i64 0]) ?_ 5 _ rfl; refine blk_put (cs := #[.int .i64 t270, .int .i64 t271, .int .i64 t272, .int .i64 v0, .int .i64 0, .int .i64 0]) ?_ 4 _ rfl; refine blk_put (cs := #[.int .i64 t270, .int .i64 t271, .int .i64 t272, .int .i64 0, .int .i64 0, .int .i64 0]) ?_ 3 _ rfl; refine blk_put (cs := #[.int .i64 t270, .int .i64 t271, .int .i64 0, .int .i64 0, .int .i64 0, .int .i64 0]) ?_ 2 _ rfl; refine blk_put (cs := #[.int .i64 t270, .int .i64 0, .int .i64 0, .int .i64 0, .int .i64 0, .int .i64 0]) ?_ 1 _ rfl; refine blk_put (cs := #[.int .i64 0, .int .i64 0, .int .i64 0, .int .i64 0, .int .i64 0, .int .i64 0]) ?_ 0 _ rfl; exact BK274.1⟩
                have m1_ : Aside0 (((((((w26.setCell ⟨gb274, 0, none⟩ (.int .i64 t270)).setCell ⟨gb274, 1, none⟩ (.int .i64 t271)).setCell ⟨gb274, 2, none⟩ (.int .i64 t272)).setCell ⟨gb274, 3, none⟩ (.int .i64 v0)).setCell ⟨gb274, 4, none⟩ (.int .i64 v1)).setCell ⟨gb274, 5, none⟩ (.int .i64 v2)).heap[gb264]? = some (.cells #[.int .i64 0, .int .i64 0, .int .i64 0, .int .i64 0, .int .i64 0, .int .i64 0] 43 (0, 0))) := ⟨by refine blk_far ?_ NB264_274.1 _; refine blk_far ?_ NB264_274.1 _; refine blk_far ?_ NB264_274.1 _; refine blk_far ?_ NB264_274.1 _; refine blk_far ?_ NB264_274.1 _; refine blk_far ?_ NB264_274.1 _; exact BK264.1⟩
                have m2_ : Aside0 (Below w.heap.size w ((((((w26.setCell ⟨gb274, 0, none⟩ (.int .i64 t270)).setCell ⟨gb274, 1, none⟩ (.int .i64 t271)).setCell ⟨gb274, 2, none⟩ (.int .i64 t272)).setCell ⟨gb274, 3, none⟩ (.int .i64 v0)).setCell ⟨gb274, 4, none⟩ (.int .i64 v1)).setCell ⟨gb274, 5, none⟩ (.int .i64 v2))) := ⟨by refine below_set ?_ GE274.out; refine below_set ?_ GE274.out; refine below_set ?_ GE274.out; refine below_set ?_ GE274.out; refine below_set ?_ GE274.out; refine below_set ?_ GE274.out; exact HB.1⟩
                clear hcz28_0 hcz28_1 hcz28_2 hcz28_3 hcz28_4 hcz28_5 hfz28_0 hfz28_1 hfz28_2 hfz28_3 hfz28_4 hfz28_5 hcz29_0 hcz29_1 hcz29_2 hcz29_3 hcz29_4 hcz29_5 hfz29_0 hfz29_1 hfz29_2 hfz29_3 hfz29_4 hfz29_5
                clear BK274 BK264 HB
                generalize ((((((w26.setCell ⟨gb274, 0, none⟩ (.int .i64 t270)).setCell ⟨gb274, 1, none⟩ (.int .i64 t271)).setCell ⟨gb274, 2, none⟩ (.int .i64 t272)).setCell ⟨gb274, 3, none⟩ (.int .i64 v0)).setCell ⟨gb274, 4, none⟩ (.int .i64 v1)).setCell ⟨gb274, 5, none⟩ (.int .i64 v2)) = wz at m0_ m1_ m2_ ⊢
                have hcg_0 : wz.cell? ⟨gb274, 0, none⟩ = some (.int .i64 t270) := (blk_cell m0_.out 0).trans rfl
                have hfg_0 := blk_frozen m0_.out 0
                have hcg_1 : wz.cell? ⟨gb274, 1, none⟩ = some (.int .i64 t271) := (blk_cell m0_.out 1).trans rfl
                have hfg_1 := blk_frozen m0_.out 1
                have hcg_2 : wz.cell? ⟨gb274, 2, none⟩ = some (.int .i64 t272) := (blk_cell m0_.out 2).trans rfl
                have hfg_2 := blk_frozen m0_.out 2
                have hcg_3 : wz.cell? ⟨gb274, 3, none⟩ = some (.int .i64 v0) := (blk_cell m0_.out 3).trans rfl
                have hfg_3 := blk_frozen m0_.out 3
                have hcg_4 : wz.cell? ⟨gb274, 4, none⟩ = some (.int .i64 v1) := (blk_cell m0_.out 4).trans rfl
                have hfg_4 := blk_frozen m0_.out 4
                have hcg_5 : wz.cell? ⟨gb274, 5, none⟩ = some (.int .i64 v2) := (blk_cell m0_.out 5).trans rfl
                have hfg_5 := blk_frozen m0_.out 5
                have hcr_0 : wz.cell? ⟨gb264, 0, none⟩ = some (.int .i64 0) := (blk_cell m1_.out 0).trans rfl
                have hfr_0 := blk_frozen m1_.out 0
                have hcr_1 : wz.cell? ⟨gb264, 1, none⟩ = some (.int .i64 0) := (blk_cell m1_.out 1).trans rfl
                have hfr_1 := blk_frozen m1_.out 1
                have hcr_2 : wz.cell? ⟨gb264, 2, none⟩ = some (.int .i64 0) := (blk_cell m1_.out 2).trans rfl
                have hfr_2 := blk_frozen m1_.out 2
                have hcr_3 : wz.cell? ⟨gb264, 3, none⟩ = some (.int .i64 0) := (blk_cell m1_.out 3).trans rfl
                have hfr_3 := blk_frozen m1_.out 3
                have hcr_4 : wz.cell? ⟨gb264, 4, none⟩ = some (.int .i64 0) := (blk_cell m1_.out 4).trans rfl
                have hfr_4 := blk_frozen m1_.out 4
                have hcr_5 : wz.cell? ⟨gb264, 5, none⟩ = some (.int .i64 0) := (blk_cell m1_.out 5).trans rfl
                have hfr_5 := blk_frozen m1_.out 5
                go_wp2
                refine bodyPost_ret (results_ct rfl _ _ gb264 43 #[.int .i64 t270, .int .i64 t271, .int .i64 t272, .int .i64 v0, .int .i64 v1, .int .i64 v2] (0, 0) _ rfl (by refine blk_put (cs := #[.int .i64 t270, .int .i64 t271, .int .i64 t272, .int .i64 v0, .int .i64 v1, .int .i64 0]) ?_ 5 _ rfl; refine blk_put (cs := #[.int .i64 t270, .int .i64 t271, .int .i64 t272, .int .i64 v0, .int .i64 0, .int .i64 0]) ?_ 4 _ rfl; refine blk_put (cs := #[.int .i64 t270, .int .i64 t271, .int .i64 t272, .int .i64 0, .int .i64 0, .int .i64 0]) ?_ 3 _ rfl; refine blk_put (cs := #[.int .i64 t270, .int .i64 t271, .int .i64 0, .int .i64 0, .int .i64 0, .int .i64 0]) ?_ 2 _ rfl; refine blk_put (cs := #[.int .i64 t270, .int .i64 0, .int .i64 0, .int .i64 0, .int .i64 0, .int .i64 0]) ?_ 1 _ rfl; refine blk_put (cs := #[.int .i64 0, .int .i64 0, .int .i64 0, .int .i64 0, .int .i64 0, .int .i64 0]) ?_ 0 _ rfl; exact m1_.out) Tryd.underlying43 rfl (by kernel_rfl)) rfl ?_
                exact ⟨rfl, by refine below_set ?_ GE264.out; refine below_set ?_ GE264.out; refine below_set ?_ GE264.out; refine below_set ?_ GE264.out; refine below_set ?_ GE264.out; refine below_set ?_ GE264.out; exact m2_.out⟩
  · replace c4 := Bool.eq_false_iff.mpr c4
    subst c4
    have H1 : (some (0, 0, 0, 0, 0, 0, 31)) = some (r1, r2, r3, r4, r5, r6, r7) := by rw [if_neg (show ¬ (false = true) by decide)] at H; exact H
    clear H
    have H := H1
    clear H1
    simp only [Option.some.injEq, Prod.mk.injEq] at H
    obtain ⟨rfl, rfl, rfl, rfl, rfl, rfl, rfl⟩ := H
    go_enter Tryd.func21, Tryd.ntmps21
    go_wp2_with (first | ((with_reducible refine gate_dst (N := 4) rfl ?_); refine bx 4 #[.int .i64 0, .int .i64 0, .int .i64 0, .int .i64 0, .int .i64 0, .int .i64 0] 43 ?_; intro gb264 hg w30 hbox hb; have BK264 := Aside0.mk (hbox); have GW264 := Aside0.mk ((by rw [hg]; exact (below_size (by repeat (first | (with_reducible first | exact HB.1 | apply below_alloc | apply pw_below_drewN | apply below_drew1) | exact HB.1))) : w.heap.size ≤ gb264)); have GE264 := Aside0.mk ((by rw [hg]; exact (below_size (by repeat (first | (with_reducible first | exact HB.1 | apply below_alloc | apply pw_below_drewN | apply below_drew1) | exact HB.1))) : w.heap.size ≤ gb264)); replace HB := Aside0.mk (below_step (by repeat (first | (with_reducible first | exact HB.1 | apply below_alloc | apply pw_below_drewN | apply below_drew1) | exact HB.1)) hb); clear hb hbox hg) | ((with_reducible refine gate_callee (f := 41) rfl ?_); refine goesL_ (some 16) rfl rfl Tryd.func41 (by kernel_rfl) rfl #[.slice A0 l0.length c0] rfl (by (try simp only [List.map_toArray, List.map_cons, List.map_nil]); first | done | rfl | (simp only [List.length_drop, List.length_take]; rfl)) ?_; (with_reducible refine (leap_Good.calls k _ _ l0 false _ ?side1 ?side2 A3.out).mono ?_); (case side1 => repeat (first | exact (Kd.C_below HR0.1 HB.1) | (with_reducible refine Kd.C_alloc ?_ _) | (with_reducible refine Kd.C_drewN ?_ _) | (with_reducible refine Kd.C_drew ?_))); (case side2 => exact HC0.1); rintro e w31 ⟨rfl, hb⟩; refine ⟨_, rfl, ?_⟩; replace BK264 := Aside0.mk (blk_below (g := gb264) (o := .cells #[.int .i64 0, .int .i64 0, .int .i64 0, .int .i64 0, .int .i64 0, .int .i64 0] 43 (0, 0)) (by (with_reducible repeat (first | refine blk_drewN ?_ _ | refine blk_drew ?_ | refine blk_alloc ?_ _)); exact BK264.1) hb); replace HB := Aside0.mk (below_step (by repeat (first | (with_reducible first | exact HB.1 | apply below_alloc | apply pw_below_drewN | apply below_drew1 | refine below_set ?_ GE264.out) | exact HB.1)) hb); (try clear hb); (try clear hb2); (try clear hk); (try clear hi); obtain ⟨hcz32_0, hcz32_1, hcz32_2, hcz32_3, hcz32_4, hcz32_5⟩ := cc6 BK264.1; obtain ⟨hfz32_0, hfz32_1, hfz32_2, hfz32_3, hfz32_4, hfz32_5⟩ := cf6 BK264.1))
    refine bodyPost_ret (results_ct rfl _ _ gb264 43 #[.int .i64 0, .int .i64 0, .int .i64 0, .int .i64 0, .int .i64 0, .int .i64 0] (0, 0) _ rfl (by (with_reducible repeat (first | refine blk_drewN ?_ _ | refine blk_drew ?_ | refine blk_alloc ?_ _)); refine blk_put (cs := #[.int .i64 0, .int .i64 0, .int .i64 0, .int .i64 0, .int .i64 0, .int .i64 0]) ?_ 5 _ rfl; (with_reducible repeat (first | refine blk_drewN ?_ _ | refine blk_drew ?_ | refine blk_alloc ?_ _)); refine blk_put (cs := #[.int .i64 0, .int .i64 0, .int .i64 0, .int .i64 0, .int .i64 0, .int .i64 0]) ?_ 4 _ rfl; (with_reducible repeat (first | refine blk_drewN ?_ _ | refine blk_drew ?_ | refine blk_alloc ?_ _)); refine blk_put (cs := #[.int .i64 0, .int .i64 0, .int .i64 0, .int .i64 0, .int .i64 0, .int .i64 0]) ?_ 3 _ rfl; (with_reducible repeat (first | refine blk_drewN ?_ _ | refine blk_drew ?_ | refine blk_alloc ?_ _)); refine blk_put (cs := #[.int .i64 0, .int .i64 0, .int .i64 0, .int .i64 0, .int .i64 0, .int .i64 0]) ?_ 2 _ rfl; (with_reducible repeat (first | refine blk_drewN ?_ _ | refine blk_drew ?_ | refine blk_alloc ?_ _)); refine blk_put (cs := #[.int .i64 0, .int .i64 0, .int .i64 0, .int .i64 0, .int .i64 0, .int .i64 0]) ?_ 1 _ rfl; (with_reducible repeat (first | refine blk_drewN ?_ _ | refine blk_drew ?_ | refine blk_alloc ?_ _)); refine blk_put (cs := #[.int .i64 0, .int .i64 0, .int .i64 0, .int .i64 0, .int .i64 0, .int .i64 0]) ?_ 0 _ rfl; (with_reducible repeat (first | refine blk_drewN ?_ _ | refine blk_drew ?_ | refine blk_alloc ?_ _)); exact BK264.1) Tryd.underlying43 rfl (by kernel_rfl)) rfl ?_
    exact ⟨by first | rfl | (simp [errW_none, errW_some] <;> rfl) | (simp [*, errW_none, errW_some] <;> rfl), by repeat (first | (with_reducible first | exact HB.1 | apply below_alloc | apply pw_below_drewN | apply below_drew1 | refine below_set ?_ GE264.out) | exact HB.1)⟩

-- NOT PRINTED: function 9 (health_Front_UTC)

/-! ### clepsydraref01_Clip: function 44 -/
def clepsydraref01_Clip.f (a0 : Int) : Option (Int) := if a0 > 2305843009213693952 then (some 2305843009213693952) else (if a0 < (-2305843009213693952) then (some (-2305843009213693952)) else (some a0))
set_option maxHeartbeats 8000000 in
set_option maxRecDepth 100000 in
theorem clepsydraref01_Clip.calls (a0 : Int) (r : Int) (w : World) (h : clepsydraref01_Clip.f a0 = some r) :
    Calls Tryd.prog 44 #[.int .i64 a0] w fun e w' => e = .returned (.int .i64 r) ∧ Drawn0 w w' := by
  have H : (if a0 > 2305843009213693952 then (some 2305843009213693952) else (if a0 < (-2305843009213693952) then (some (-2305843009213693952)) else (some a0))) = some r := h
  clear h
  by_cases c2 : a0 > 2305843009213693952
  · rw [if_pos c2] at H
    have c2b0 : decide (2305843009213693952 < a0) = true := decide_eq_true c2
    clear c2
    obtain rfl := Option.some.inj H
    go_enter Tryd.func44, Tryd.ntmps44
    go_wp2
    go_ret
    exact ⟨by first | rfl | (simp; done) | (simp [*]; done) | (simp [Int.tdiv_eq_ediv_of_nonneg]; done) | (simp [Go.RowKit.wrap64]; done) | (simp [*, Go.RowKit.wrap64]; done), by repeat (first | exact Drawn0.refl _ | apply Drawn0.step)⟩
  · rw [if_neg c2] at H
    have c2b0 : decide (2305843009213693952 < a0) = false := decide_eq_false c2
    clear c2
    by_cases c3 : a0 < (-2305843009213693952)
    · rw [if_pos c3] at H
      have c3b0 : decide (a0 < (-2305843009213693952)) = true := decide_eq_true c3
      clear c3
      obtain rfl := Option.some.inj H
      go_enter Tryd.func44, Tryd.ntmps44
      go_wp2
      go_ret
      exact ⟨by first | rfl | (simp; done) | (simp [*]; done) | (simp [Int.tdiv_eq_ediv_of_nonneg]; done) | (simp [Go.RowKit.wrap64]; done) | (simp [*, Go.RowKit.wrap64]; done), by repeat (first | exact Drawn0.refl _ | apply Drawn0.step)⟩
    · rw [if_neg c3] at H
      have c3b0 : decide (a0 < (-2305843009213693952)) = false := decide_eq_false c3
      clear c3
      obtain rfl := Option.some.inj H
      go_enter Tryd.func44, Tryd.ntmps44
      go_wp2
      go_ret
      exact ⟨by first | rfl | (simp; done) | (simp [*]; done) | (simp [Int.tdiv_eq_ediv_of_nonneg]; done) | (simp [Go.RowKit.wrap64]; done) | (simp [*, Go.RowKit.wrap64]; done), by repeat (first | exact Drawn0.refl _ | apply Drawn0.step)⟩

/-! ### clepsydraref02_one: function 45 -/
def clepsydraref02_one.f (a0 : Int) : Option (Int) := (clepsydraref01_Clip.f a0).bind fun t276 => (if t276 < 1 then (some 1) else (some t276))
set_option maxHeartbeats 8000000 in
set_option maxRecDepth 100000 in
theorem clepsydraref02_one.calls (a0 : Int) (r : Int) (w : World) (h : clepsydraref02_one.f a0 = some r) :
  Calls Tryd.prog 45 #[.int .i64 a0] w fun e w' => e = .returned (.int .i64 r) ∧ Drawn0 w w' := by
 have H : ((clepsydraref01_Clip.f a0).bind fun t276 => (if t276 < 1 then (some 1) else (some t276))) = some r := h
 clear h
 replace H := Option.bind_eq_some_iff.mp H
 obtain ⟨t276, A20, H⟩ := H
 replace H : (if t276 < 1 then (some 1) else (some t276)) = some r := H
 have A2 := Aside0.mk A20
 clear A20
 by_cases c3 : t276 < 1
 ·rw [if_pos c3] at H
  have c3b0 : decide (t276 < 1) = true := decide_eq_true c3
  clear c3
  obtain rfl := Option.some.inj H
  go_enter Tryd.func45, Tryd.ntmps45
  go_wp2_with (first | ((with_reducible refine gate_callee (f := 44) rfl ?_); refine goesL_ (some 4) rfl rfl Tryd.func44 (by kernel_rfl) rfl #[.int .i64 a0] rfl (by (try simp only [List.map_toArray, List.map_cons, List.map_nil]); first | done | rfl | (simp only [List.length_drop, List.length_take]; rfl)) ?_; (with_reducible refine (clepsydraref01_Clip.calls a0 t276 _ A2.out).mono ?_); rintro e w' ⟨rfl, ⟨nd, rfl⟩⟩; refine ⟨_, rfl, ?_⟩))
  go_ret
  exact ⟨by first | rfl | (simp; done) | (simp [*]; done) | (simp [Int.tdiv_eq_ediv_of_nonneg]; done) | (simp [Go.RowKit.wrap64]; done) | (simp [*, Go.RowKit.wrap64]; done), by repeat (first | exact Drawn0.refl _ | apply Drawn0.step)⟩
 ·rw [if_neg c3] at H
  have c3b0 : decide (t276 < 1) = false := decide_eq_false c3
  clear c3
  obtain rfl := Option.some.inj H
  go_enter Tryd.func45, Tryd.ntmps45
  go_wp2_with (first | ((with_reducible refine gate_callee (f := 44) rfl ?_); refine goesL_ (some 4) rfl rfl Tryd.func44 (by kernel_rfl) rfl #[.int .i64 a0] rfl (by (try simp only [List.map_toArray, List.map_cons, List.map_nil]); first | done | rfl | (simp only [List.length_drop, List.length_take]; rfl)) ?_; (with_reducible refine (clepsydraref01_Clip.calls a0 t276 _ A2.out).mono ?_); rintro e w' ⟨rfl, ⟨nd, rfl⟩⟩; refine ⟨_, rfl, ?_⟩))
  go_ret
  exact ⟨by first | rfl | (simp; done) | (simp [*]; done) | (simp [Int.tdiv_eq_ediv_of_nonneg]; done) | (simp [Go.RowKit.wrap64]; done) | (simp [*, Go.RowKit.wrap64]; done), by repeat (first | exact Drawn0.refl _ | apply Drawn0.step)⟩

/-! ### clepsydraref02_Div: function 22 -/
def clepsydraref02_Div.f (a0 : Int) (a1 : Int) : Option (Int × Int) := (clepsydraref01_Clip.f a0).bind fun t277 => ((clepsydraref02_one.f a1).bind fun t278 => (if t278 = 0 then (none) else (if (Int.tmod t277 t278) < 0 then (some (wrap64 (Int.tdiv (wrap64 (t277 - (wrap64 ((Int.tmod t277 t278) + t278)))) t278), wrap64 ((Int.tmod t277 t278) + t278))) else (some (wrap64 (Int.tdiv (wrap64 (t277 - (Int.tmod t277 t278))) t278), Int.tmod t277 t278)))))
set_option maxHeartbeats 8000000 in
set_option maxRecDepth 100000 in
theorem clepsydraref02_Div.calls (a0 : Int) (a1 : Int) (r1 : Int) (r2 : Int) (w : World) (h : clepsydraref02_Div.f a0 a1 = some (r1, r2)) :
  Calls Tryd.prog 22 #[.int .i64 a0, .int .i64 a1] w fun e w' => e = .returned (.tuple #[.int .i64 r1, .int .i64 r2]) ∧ Drawn0 w w' := by
 have H : ((clepsydraref01_Clip.f a0).bind fun t277 => ((clepsydraref02_one.f a1).bind fun t278 => (if t278 = 0 then (none) else (if (Int.tmod t277 t278) < 0 then (some (wrap64 (Int.tdiv (wrap64 (t277 - (wrap64 ((Int.tmod t277 t278) + t278)))) t278), wrap64 ((Int.tmod t277 t278) + t278))) else (some (wrap64 (Int.tdiv (wrap64 (t277 - (Int.tmod t277 t278))) t278), Int.tmod t277 t278)))))) = some (r1, r2) := h
 clear h
 replace H := Option.bind_eq_some_iff.mp H
 obtain ⟨t277, A30, H⟩ := H
 replace H : ((clepsydraref02_one.f a1).bind fun t278 => (if t278 = 0 then (none) else (if (Int.tmod t277 t278) < 0 then (some (wrap64 (Int.tdiv (wrap64 (t277 - (wrap64 ((Int.tmod t277 t278) + t278)))) t278), wrap64 ((Int.tmod t277 t278) + t278))) else (some (wrap64 (Int.tdiv (wrap64 (t277 - (Int.tmod t277 t278))) t278), Int.tmod t277 t278))))) = some (r1, r2) := H
 have A3 := Aside0.mk A30
 clear A30
 replace H := Option.bind_eq_some_iff.mp H
 obtain ⟨t278, A40, H⟩ := H
 replace H : (if t278 = 0 then (none) else (if (Int.tmod t277 t278) < 0 then (some (wrap64 (Int.tdiv (wrap64 (t277 - (wrap64 ((Int.tmod t277 t278) + t278)))) t278), wrap64 ((Int.tmod t277 t278) + t278))) else (some (wrap64 (Int.tdiv (wrap64 (t277 - (Int.tmod t277 t278))) t278), Int.tmod t277 t278)))) = some (r1, r2) := H
 have A4 := Aside0.mk A40
 clear A40
 by_cases c5 : t278 = 0
 ·rw [if_pos c5] at H
  exact absurd H (by simp)
 ·rw [if_neg c5] at H
  have c5b0 : (t278 == 0) = false := beq_eq_false_iff_ne.mpr c5
  have c5b1 : (t278 != 0) = true := bne_iff_ne.mpr c5
  by_cases c6 : (Int.tmod t277 t278) < 0
  ·rw [if_pos c6] at H
   have c6b0 : decide ((Int.tmod t277 t278) < 0) = true := decide_eq_true c6
   clear c6
   simp only [Option.some.injEq, Prod.mk.injEq] at H
   obtain ⟨rfl, rfl⟩ := H
   go_enter Tryd.func22, Tryd.ntmps22
   go_wp2_with (first | ((with_reducible refine gate_callee (f := 44) rfl ?_); refine goesL_ (some 8) rfl rfl Tryd.func44 (by kernel_rfl) rfl #[.int .i64 a0] rfl (by (try simp only [List.map_toArray, List.map_cons, List.map_nil]); first | done | rfl | (simp only [List.length_drop, List.length_take]; rfl)) ?_; (with_reducible refine (clepsydraref01_Clip.calls a0 t277 _ A3.out).mono ?_); rintro e w' ⟨rfl, ⟨nd, rfl⟩⟩; refine ⟨_, rfl, ?_⟩) | ((with_reducible refine gate_callee (f := 45) rfl ?_); refine goesL_ (some 10) rfl rfl Tryd.func45 (by kernel_rfl) rfl #[.int .i64 a1] rfl (by (try simp only [List.map_toArray, List.map_cons, List.map_nil]); first | done | rfl | (simp only [List.length_drop, List.length_take]; rfl)) ?_; (with_reducible refine (clepsydraref02_one.calls a1 t278 _ A4.out).mono ?_); rintro e w' ⟨rfl, ⟨nd, rfl⟩⟩; refine ⟨_, rfl, ?_⟩))
   go_ret2
   exact ⟨by first | rfl | (simp; done) | (simp [*]; done) | (simp [Int.tdiv_eq_ediv_of_nonneg]; done) | (simp [Go.RowKit.wrap64]; done) | (simp [*, Go.RowKit.wrap64]; done), by repeat (first | exact Drawn0.refl _ | apply Drawn0.step)⟩
  ·rw [if_neg c6] at H
   have c6b0 : decide ((Int.tmod t277 t278) < 0) = false := decide_eq_false c6
   clear c6
   simp only [Option.some.injEq, Prod.mk.injEq] at H
   obtain ⟨rfl, rfl⟩ := H
   go_enter Tryd.func22, Tryd.ntmps22
   go_wp2_with (first | ((with_reducible refine gate_callee (f := 44) rfl ?_); refine goesL_ (some 8) rfl rfl Tryd.func44 (by kernel_rfl) rfl #[.int .i64 a0] rfl (by (try simp only [List.map_toArray, List.map_cons, List.map_nil]); first | done | rfl | (simp only [List.length_drop, List.length_take]; rfl)) ?_; (with_reducible refine (clepsydraref01_Clip.calls a0 t277 _ A3.out).mono ?_); rintro e w' ⟨rfl, ⟨nd, rfl⟩⟩; refine ⟨_, rfl, ?_⟩) | ((with_reducible refine gate_callee (f := 45) rfl ?_); refine goesL_ (some 10) rfl rfl Tryd.func45 (by kernel_rfl) rfl #[.int .i64 a1] rfl (by (try simp only [List.map_toArray, List.map_cons, List.map_nil]); first | done | rfl | (simp only [List.length_drop, List.length_take]; rfl)) ?_; (with_reducible refine (clepsydraref02_one.calls a1 t278 _ A4.out).mono ?_); rintro e w' ⟨rfl, ⟨nd, rfl⟩⟩; refine ⟨_, rfl, ?_⟩))
   go_ret2
   exact ⟨by first | rfl | (simp; done) | (simp [*]; done) | (simp [Int.tdiv_eq_ediv_of_nonneg]; done) | (simp [Go.RowKit.wrap64]; done) | (simp [*, Go.RowKit.wrap64]; done), by repeat (first | exact Drawn0.refl _ | apply Drawn0.step)⟩

end Go.Proofs.YtigkjbaclpklpaaDoor.Q
