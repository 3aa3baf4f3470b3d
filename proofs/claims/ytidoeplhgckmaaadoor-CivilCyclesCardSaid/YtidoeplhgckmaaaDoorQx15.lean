/- The calls of these Go functions answer what the Lean functions beside them answer; written by a program (wip/pr2.py, out of the print of the loaded program); under no condition but those that stand in the theorems. -/
import Derived.Test.YtidoeplhgckmaaaDoorQx0
import Derived.Test.YtidoeplhgckmaaaDoorQx1
import Derived.Test.YtidoeplhgckmaaaDoorQx6
import Derived.Test.YtidoeplhgckmaaaDoorQx7
import Derived.Test.YtidoeplhgckmaaaDoorQx13
namespace Go.Proofs.YtidoeplhgckmaaaDoor.Q
open Go.RowKit Go.Proofs.YtidoeplhgckmaaaDoorW.PrintWords Go.Proofs.YtidoeplhgckmaaaDoorW.PrintLast Go.Proofs.YtidoeplhgckmaaaDoorW.PrintMore
attribute [local go_sem] max2_int min2_int max_two min_two max_three min_three max_four min_four   -- for this text's walks alone
set_option linter.unusedVariables false
set_option linter.unusedSimpArgs false

/-! ### clepsydralaw17_CivilCycles: function 8 -/
def clepsydralaw17_CivilCycles.j0 : Nat → Int → Int → Bool → Option (Bool)
  | 0, _, _, _ => none
  | k + 1, x0, x1, x28 => if x28 = true then (some true) else ((civil_Date.f k x0).bind fun bt190 => ((civil_Date.f k (wrap64 (x0 + (wrap64 (146097 * x1))))).bind fun bt194 => (if bt190.2.2.2 = true then (if bt194.2.2.2 = true then (if bt194.1 = (wrap64 (bt190.1 + (wrap64 (400 * x1)))) then (if bt194.2.1 = bt190.2.1 then (if bt194.2.2.1 = bt190.2.2.1 then ((civil_Weekday.f k x0).bind fun t198 => ((civil_Weekday.f k (wrap64 (x0 + (wrap64 (146097 * x1))))).bind fun t199 => (if t198 = t199 then ((civil_Leap.f bt190.1).bind fun t200 => ((civil_Leap.f bt194.1).bind fun t201 => (some (t200 == t201)))) else (some false)))) else (some false)) else (some false)) else (some false)) else (some false)) else (some false))))
def clepsydralaw17_CivilCycles.f (k : Nat) (a0 : Int) (a1 : Int) : Option (Bool) := (clepsydralaw17_alive.f k).bind fun t189 => (if t189 = true then (if a0 > 2147483648 then (clepsydralaw17_CivilCycles.j0 k a0 a1 true) else (if a0 < (-2147483648) then (clepsydralaw17_CivilCycles.j0 k a0 a1 true) else (if a1 > 1000 then (clepsydralaw17_CivilCycles.j0 k a0 a1 true) else (clepsydralaw17_CivilCycles.j0 k a0 a1 (decide (a1 < (-1000))))))) else (some false))
theorem clepsydralaw17_CivilCycles.mono_l : ∀ k, (∀ y0 y1 y2, LeO (clepsydralaw17_CivilCycles.j0 k y0 y1 y2) (clepsydralaw17_CivilCycles.j0 (k + 1) y0 y1 y2))
  | 0 => fun _ _ _ r h => by simp [clepsydralaw17_CivilCycles.j0] at h
  | k + 1 => by
    have ih0 := clepsydralaw17_CivilCycles.mono_l k
    · intro y0 y1 y2
      unfold clepsydralaw17_CivilCycles.j0
      repeat' first
      | (with_reducible exact ih0 _ _ _)
      | (with_reducible exact civil_Date.mono _ _)
      | (with_reducible exact civil_Weekday.mono _ _)
      | (with_reducible exact clepsydralaw17_alive.mono _)
      | (with_reducible exact LeO.refl _)
      | (with_reducible exact LeO.none _)
      | (with_reducible refine LeO.ite ?_ ?_)
      | (with_reducible refine LeO.bind ?_ (fun _ => ?_))
      | exact ih0 _ _ _
      | exact civil_Date.mono _ _
      | exact civil_Weekday.mono _ _
      | exact clepsydralaw17_alive.mono _
      | exact LeO.none _
      | refine LeO.ite ?_ ?_
      | refine LeO.bind ?_ (fun _ => ?_)
theorem clepsydralaw17_CivilCycles.mono : ∀ a0 a1 k, LeO (clepsydralaw17_CivilCycles.f k a0 a1) (clepsydralaw17_CivilCycles.f (k + 1) a0 a1) := by
  intro a0 a1 k
  have ih0 := clepsydralaw17_CivilCycles.mono_l k
  unfold clepsydralaw17_CivilCycles.f
  repeat' first
      | (with_reducible exact ih0 _ _ _)
      | (with_reducible exact civil_Date.mono _ _)
      | (with_reducible exact civil_Weekday.mono _ _)
      | (with_reducible exact clepsydralaw17_alive.mono _)
      | (with_reducible exact LeO.refl _)
      | (with_reducible exact LeO.none _)
      | (with_reducible refine LeO.ite ?_ ?_)
      | (with_reducible refine LeO.bind ?_ (fun _ => ?_))
      | exact ih0 _ _ _
      | exact civil_Date.mono _ _
      | exact civil_Weekday.mono _ _
      | exact clepsydralaw17_alive.mono _
      | exact LeO.none _
      | refine LeO.ite ?_ ?_
      | refine LeO.bind ?_ (fun _ => ?_)
set_option maxHeartbeats 8000000 in
set_option maxRecDepth 100000 in
theorem clepsydralaw17_CivilCycles.calls (k : Nat) (a0 : Int) (a1 : Int) (r : Bool) (w : World) (hM : GM w) (hT : Aside0 (r = true)) (h : clepsydralaw17_CivilCycles.f k a0 a1 = some r) :
    Calls Tryd.prog 8 #[.int .i64 a0, .int .i64 a1] w fun e w' => e = .returned (.bool r) ∧ Below w.heap.size w w' := by
  have HB := Aside0.mk (Below.refl w.heap.size w)
  have H : ((clepsydralaw17_alive.f k).bind fun t189 => (if t189 = true then (if a0 > 2147483648 then (clepsydralaw17_CivilCycles.j0 k a0 a1 true) else (if a0 < (-2147483648) then (clepsydralaw17_CivilCycles.j0 k a0 a1 true) else (if a1 > 1000 then (clepsydralaw17_CivilCycles.j0 k a0 a1 true) else (clepsydralaw17_CivilCycles.j0 k a0 a1 (decide (a1 < (-1000))))))) else (some false))) = some r := h
  clear h
  replace H := Option.bind_eq_some_iff.mp H
  obtain ⟨t189, A30, H⟩ := H
  replace H : (if t189 = true then (if a0 > 2147483648 then (clepsydralaw17_CivilCycles.j0 k a0 a1 true) else (if a0 < (-2147483648) then (clepsydralaw17_CivilCycles.j0 k a0 a1 true) else (if a1 > 1000 then (clepsydralaw17_CivilCycles.j0 k a0 a1 true) else (clepsydralaw17_CivilCycles.j0 k a0 a1 (decide (a1 < (-1000))))))) else (some false)) = some r := H
  have A3 := Aside0.mk A30
  clear A30
  by_cases c4 : t189 = true
  · subst c4
    have H1 : (if a0 > 2147483648 then (clepsydralaw17_CivilCycles.j0 k a0 a1 true) else (if a0 < (-2147483648) then (clepsydralaw17_CivilCycles.j0 k a0 a1 true) else (if a1 > 1000 then (clepsydralaw17_CivilCycles.j0 k a0 a1 true) else (clepsydralaw17_CivilCycles.j0 k a0 a1 (decide (a1 < (-1000))))))) = some r := by rw [if_pos rfl] at H; exact H
    clear H
    have H := H1
    clear H1
    have HC5 := Aside0.mk H
    clear H
    go_enter Tryd.func8, Tryd.ntmps8
    go_upto_region 3 with (first | ((with_reducible refine gate_callee (f := 13) rfl ?_); refine goesL_ (some 13) rfl rfl Tryd.func13 (by kernel_rfl) rfl #[] rfl (by (try simp only [List.map_toArray, List.map_cons, List.map_nil]); first | done | rfl | (simp only [List.length_drop, List.length_take]; rfl)) ?_; (with_reducible refine (clepsydralaw17_alive.calls k  true _ (by first | exact hM | exact hM.below HB.out | repeat (first | exact hM | exact hM.below HB.out | apply GM.drewN | apply GM.drew)) A3.out).mono ?_); rintro e w6 ⟨rfl, hb⟩; refine ⟨_, rfl, ?_⟩; have n0_ := Aside0.mk (below_step (by repeat (first | (with_reducible first | exact HB.out | apply below_alloc | apply pw_below_drewN | apply below_drew1) | exact HB.out)) hb); clear HB; have HB := n0_; clear n0_; (try clear hb); (try clear hb2); (try clear hk); (try clear hi)))
    (try simp only [Act.put, List.setIfInBounds_toArray, List.set_cons_zero, List.set_cons_succ])
    go_cut [28] (fun v28 wc => ∃ (kq : Nat) (x28_4 : Bool), v28 = .bool x28_4 ∧ Aside0 (clepsydralaw17_CivilCycles.j0 kq a0 a1 x28_4 = some r) ∧ Aside0 (kq ≤ k) ∧ Aside0 (Below w.heap.size w wc))
    case first =>
      have H := HC5.out
      clear HC5
      by_cases c7 : a0 > 2147483648
      · rw [if_pos c7] at H
        have c7b0 : decide (2147483648 < a0) = true := decide_eq_true c7
        clear c7
        (first | rw [c7b0] | (simp only [i64_w, i32_w]; rw [c7b0]) | skip)
        have H' := Aside0.mk H
        clear H
        go_wp2
        go_meet
        case rel => exact ⟨_, (true), (by first | rfl | (simp; done) | (simp [*]; done) | (simp [Int.tdiv_eq_ediv_of_nonneg]; done) | (simp [Go.RowKit.wrap64]; done) | (simp [*, Go.RowKit.wrap64]; done)), H', ⟨by first | omega | exact Nat.le_refl _⟩, ⟨by repeat (first | (with_reducible first | exact HB.out | apply below_alloc | apply pw_below_drewN | apply below_drew1) | exact HB.out)⟩⟩
      · rw [if_neg c7] at H
        have c7b0 : decide (2147483648 < a0) = false := decide_eq_false c7
        clear c7
        (first | rw [c7b0] | (simp only [i64_w, i32_w]; rw [c7b0]) | skip)
        by_cases c8 : a0 < (-2147483648)
        · rw [if_pos c8] at H
          have c8b0 : decide (a0 < (-2147483648)) = true := decide_eq_true c8
          clear c8
          have H' := Aside0.mk H
          clear H
          go_wp2
          go_meet
          case rel => exact ⟨_, (true), (by first | rfl | (simp; done) | (simp [*]; done) | (simp [Int.tdiv_eq_ediv_of_nonneg]; done) | (simp [Go.RowKit.wrap64]; done) | (simp [*, Go.RowKit.wrap64]; done)), H', ⟨by first | omega | exact Nat.le_refl _⟩, ⟨by repeat (first | (with_reducible first | exact HB.out | apply below_alloc | apply pw_below_drewN | apply below_drew1) | exact HB.out)⟩⟩
        · rw [if_neg c8] at H
          have c8b0 : decide (a0 < (-2147483648)) = false := decide_eq_false c8
          clear c8
          by_cases c9 : a1 > 1000
          · rw [if_pos c9] at H
            have c9b0 : decide (1000 < a1) = true := decide_eq_true c9
            clear c9
            have H' := Aside0.mk H
            clear H
            go_wp2
            go_meet
            case rel => exact ⟨_, (true), (by first | rfl | (simp; done) | (simp [*]; done) | (simp [Int.tdiv_eq_ediv_of_nonneg]; done) | (simp [Go.RowKit.wrap64]; done) | (simp [*, Go.RowKit.wrap64]; done)), H', ⟨by first | omega | exact Nat.le_refl _⟩, ⟨by repeat (first | (with_reducible first | exact HB.out | apply below_alloc | apply pw_below_drewN | apply below_drew1) | exact HB.out)⟩⟩
          · rw [if_neg c9] at H
            have c9b0 : decide (1000 < a1) = false := decide_eq_false c9
            clear c9
            have H' := Aside0.mk H
            clear H
            go_wp2
            go_meet
            case rel => exact ⟨_, (decide (a1 < (-1000))), (by first | rfl | (simp; done) | (simp [*]; done) | (simp [Int.tdiv_eq_ediv_of_nonneg]; done) | (simp [Go.RowKit.wrap64]; done) | (simp [*, Go.RowKit.wrap64]; done)), H', ⟨by first | omega | exact Nat.le_refl _⟩, ⟨by repeat (first | (with_reducible first | exact HB.out | apply below_alloc | apply pw_below_drewN | apply below_drew1) | exact HB.out)⟩⟩
    case rest =>
      clear HC5
      try clear c1
      try clear p2
      try clear c4
      try clear c7
      try clear c7b0
      try clear c8
      try clear c8b0
      try clear c9
      try clear c9b0
      obtain ⟨kq, x28_4, rfl, HA, HJ4, HB⟩ := hcut
      cases kq with
      | zero => exact absurd HA.out (by simp [clepsydralaw17_CivilCycles.j0])
      | succ kj4 =>
        have H := HA.out
        clear HA
        simp only [clepsydralaw17_CivilCycles.j0] at H
        by_cases c10 : x28_4 = true
        · subst c10
          have H1 : (some true) = some r := by rw [if_pos rfl] at H; exact H
          clear H
          have H := H1
          clear H1
          obtain rfl := Option.some.inj H
          go_wp2
          go_ret
          exact ⟨by first | rfl | (simp [errW_none, errW_some] <;> rfl) | (simp [*, errW_none, errW_some] <;> rfl), by repeat (first | (with_reducible first | exact HB.out | apply below_alloc | apply pw_below_drewN | apply below_drew1) | exact HB.out)⟩
        · replace c10 := Bool.eq_false_iff.mpr c10
          subst c10
          have H1 : ((civil_Date.f kj4 a0).bind fun bt190 => ((civil_Date.f kj4 (wrap64 (a0 + (wrap64 (146097 * a1))))).bind fun bt194 => (if bt190.2.2.2 = true then (if bt194.2.2.2 = true then (if bt194.1 = (wrap64 (bt190.1 + (wrap64 (400 * a1)))) then (if bt194.2.1 = bt190.2.1 then (if bt194.2.2.1 = bt190.2.2.1 then ((civil_Weekday.f kj4 a0).bind fun t198 => ((civil_Weekday.f kj4 (wrap64 (a0 + (wrap64 (146097 * a1))))).bind fun t199 => (if t198 = t199 then ((civil_Leap.f bt190.1).bind fun t200 => ((civil_Leap.f bt194.1).bind fun t201 => (some (t200 == t201)))) else (some false)))) else (some false)) else (some false)) else (some false)) else (some false)) else (some false)))) = some r := by rw [if_neg (show ¬ (false = true) by decide)] at H; exact H
          clear H
          have H := H1
          clear H1
          replace H := Option.bind_eq_some_iff.mp H
          obtain ⟨⟨t190, t191, t192, t193⟩, A110, H⟩ := H
          replace H : ((civil_Date.f kj4 (wrap64 (a0 + (wrap64 (146097 * a1))))).bind fun bt194 => (if t193 = true then (if bt194.2.2.2 = true then (if bt194.1 = (wrap64 (t190 + (wrap64 (400 * a1)))) then (if bt194.2.1 = t191 then (if bt194.2.2.1 = t192 then ((civil_Weekday.f kj4 a0).bind fun t198 => ((civil_Weekday.f kj4 (wrap64 (a0 + (wrap64 (146097 * a1))))).bind fun t199 => (if t198 = t199 then ((civil_Leap.f t190).bind fun t200 => ((civil_Leap.f bt194.1).bind fun t201 => (some (t200 == t201)))) else (some false)))) else (some false)) else (some false)) else (some false)) else (some false)) else (some false))) = some r := H
          have A11 := Aside0.mk A110
          clear A110
          replace H := Option.bind_eq_some_iff.mp H
          obtain ⟨⟨t194, t195, t196, t197⟩, A120, H⟩ := H
          replace H : (if t193 = true then (if t197 = true then (if t194 = (wrap64 (t190 + (wrap64 (400 * a1)))) then (if t195 = t191 then (if t196 = t192 then ((civil_Weekday.f kj4 a0).bind fun t198 => ((civil_Weekday.f kj4 (wrap64 (a0 + (wrap64 (146097 * a1))))).bind fun t199 => (if t198 = t199 then ((civil_Leap.f t190).bind fun t200 => ((civil_Leap.f t194).bind fun t201 => (some (t200 == t201)))) else (some false)))) else (some false)) else (some false)) else (some false)) else (some false)) else (some false)) = some r := H
          have A12 := Aside0.mk A120
          clear A120
          by_cases c13 : t193 = true
          · subst c13
            have H1 : (if t197 = true then (if t194 = (wrap64 (t190 + (wrap64 (400 * a1)))) then (if t195 = t191 then (if t196 = t192 then ((civil_Weekday.f kj4 a0).bind fun t198 => ((civil_Weekday.f kj4 (wrap64 (a0 + (wrap64 (146097 * a1))))).bind fun t199 => (if t198 = t199 then ((civil_Leap.f t190).bind fun t200 => ((civil_Leap.f t194).bind fun t201 => (some (t200 == t201)))) else (some false)))) else (some false)) else (some false)) else (some false)) else (some false)) = some r := by rw [if_pos rfl] at H; exact H
            clear H
            have H := H1
            clear H1
            by_cases c14 : t197 = true
            · subst c14
              have H1 : (if t194 = (wrap64 (t190 + (wrap64 (400 * a1)))) then (if t195 = t191 then (if t196 = t192 then ((civil_Weekday.f kj4 a0).bind fun t198 => ((civil_Weekday.f kj4 (wrap64 (a0 + (wrap64 (146097 * a1))))).bind fun t199 => (if t198 = t199 then ((civil_Leap.f t190).bind fun t200 => ((civil_Leap.f t194).bind fun t201 => (some (t200 == t201)))) else (some false)))) else (some false)) else (some false)) else (some false)) = some r := by rw [if_pos rfl] at H; exact H
              clear H
              have H := H1
              clear H1
              by_cases c15 : t194 = (wrap64 (t190 + (wrap64 (400 * a1))))
              · rw [if_pos c15] at H
                have c15b0 : (t194 == (wrap64 (t190 + (wrap64 (400 * a1))))) = true := beq_iff_eq.mpr c15
                have c15b1 : (t194 != (wrap64 (t190 + (wrap64 (400 * a1))))) = false := bne_eq_false_iff_eq.mpr c15
                clear c15
                by_cases c16 : t195 = t191
                · rw [if_pos c16] at H
                  have c16b0 : (t195 == t191) = true := beq_iff_eq.mpr c16
                  have c16b1 : (t195 != t191) = false := bne_eq_false_iff_eq.mpr c16
                  clear c16
                  by_cases c17 : t196 = t192
                  · rw [if_pos c17] at H
                    have c17b0 : (t196 == t192) = true := beq_iff_eq.mpr c17
                    have c17b1 : (t196 != t192) = false := bne_eq_false_iff_eq.mpr c17
                    clear c17
                    replace H := Option.bind_eq_some_iff.mp H
                    obtain ⟨t198, A180, H⟩ := H
                    replace H : ((civil_Weekday.f kj4 (wrap64 (a0 + (wrap64 (146097 * a1))))).bind fun t199 => (if t198 = t199 then ((civil_Leap.f t190).bind fun t200 => ((civil_Leap.f t194).bind fun t201 => (some (t200 == t201)))) else (some false))) = some r := H
                    have A18 := Aside0.mk A180
                    clear A180
                    replace H := Option.bind_eq_some_iff.mp H
                    obtain ⟨t199, A190, H⟩ := H
                    replace H : (if t198 = t199 then ((civil_Leap.f t190).bind fun t200 => ((civil_Leap.f t194).bind fun t201 => (some (t200 == t201)))) else (some false)) = some r := H
                    have A19 := Aside0.mk A190
                    clear A190
                    by_cases c20 : t198 = t199
                    · rw [if_pos c20] at H
                      have c20b0 : (t198 == t199) = true := beq_iff_eq.mpr c20
                      have c20b1 : (t198 != t199) = false := bne_eq_false_iff_eq.mpr c20
                      clear c20
                      replace H := Option.bind_eq_some_iff.mp H
                      obtain ⟨t200, A210, H⟩ := H
                      replace H : ((civil_Leap.f t194).bind fun t201 => (some (t200 == t201))) = some r := H
                      have A21 := Aside0.mk A210
                      clear A210
                      replace H := Option.bind_eq_some_iff.mp H
                      obtain ⟨t201, A220, H⟩ := H
                      replace H : (some (t200 == t201)) = some r := H
                      have A22 := Aside0.mk A220
                      clear A220
                      obtain rfl := Option.some.inj H
                      go_wp2_with (first | ((with_reducible refine gate_callee (f := 16) rfl ?_); refine goesL_ (some 31) rfl rfl Tryd.func16 (by kernel_rfl) rfl #[.int .i64 a0] rfl (by (try simp only [List.map_toArray, List.map_cons, List.map_nil]); first | done | rfl | (simp only [List.length_drop, List.length_take]; rfl)) ?_; (with_reducible refine (civil_Date.calls kj4 a0 t190 t191 t192 true _ (by first | exact hM | exact hM.below HB.out | repeat (first | exact hM | exact hM.below HB.out | apply GM.drewN | apply GM.drew)) A11.out).mono ?_); rintro e w23 ⟨rfl, hb⟩; refine ⟨_, rfl, ?_⟩; have n0_ := Aside0.mk (below_step (by repeat (first | (with_reducible first | exact HB.out | apply below_alloc | apply pw_below_drewN | apply below_drew1) | exact HB.out)) hb); clear HB; have HB := n0_; clear n0_; (try clear hb); (try clear hb2); (try clear hk); (try clear hi)) | ((with_reducible refine gate_callee (f := 16) rfl ?_); refine goesL_ (some 41) rfl rfl Tryd.func16 (by kernel_rfl) rfl #[.int .i64 (wrap64 (a0 + (wrap64 (146097 * a1))))] rfl (by (try simp only [List.map_toArray, List.map_cons, List.map_nil]); first | done | rfl | (simp only [List.length_drop, List.length_take]; rfl)) ?_; (with_reducible refine (civil_Date.calls kj4 (wrap64 (a0 + (wrap64 (146097 * a1)))) t194 t195 t196 true _ (by first | exact hM | exact hM.below HB.out | repeat (first | exact hM | exact hM.below HB.out | apply GM.drewN | apply GM.drew)) A12.out).mono ?_); rintro e w24 ⟨rfl, hb⟩; refine ⟨_, rfl, ?_⟩; have n0_ := Aside0.mk (below_step (by repeat (first | (with_reducible first | exact HB.out | apply below_alloc | apply pw_below_drewN | apply below_drew1) | exact HB.out)) hb); clear HB; have HB := n0_; clear n0_; (try clear hb); (try clear hb2); (try clear hk); (try clear hi)) | (go_at_call 18; (with_reducible refine (civil_Weekday.calls kj4 a0 t198 _ A18.out).mono ?_); rintro e w25 ⟨rfl, hb⟩; have n0_ := Aside0.mk (below_step (by repeat (first | (with_reducible first | exact HB.out | apply below_alloc | apply pw_below_drewN | apply below_drew1) | exact HB.out)) hb); clear HB; have HB := n0_; clear n0_; (try clear hb); (try clear hb2); (try clear hk); (try clear hi)) | (go_at_call 18; (try simp only [i64_w, i32_w]); (with_reducible refine (civil_Weekday.calls kj4 (wrap64 (a0 + (wrap64 (146097 * a1)))) t199 _ A19.out).mono ?_); rintro e w26 ⟨rfl, hb⟩; have n0_ := Aside0.mk (below_step (by repeat (first | (with_reducible first | exact HB.out | apply below_alloc | apply pw_below_drewN | apply below_drew1) | exact HB.out)) hb); clear HB; have HB := n0_; clear n0_; (try clear hb); (try clear hb2); (try clear hk); (try clear hi)) | (go_at_call 9; (with_reducible refine (civil_Leap.calls t190 t200 _ A21.out).mono ?_); rintro e w' ⟨rfl, ⟨nd, rfl⟩⟩) | (go_at_call 9; (with_reducible refine (civil_Leap.calls t194 t201 _ A22.out).mono ?_); rintro e w' ⟨rfl, ⟨nd, rfl⟩⟩))
                      go_ret
                      exact ⟨by first | rfl | (simp [errW_none, errW_some] <;> rfl) | (simp [*, errW_none, errW_some] <;> rfl), by repeat (first | (with_reducible first | exact HB.out | apply below_alloc | apply pw_below_drewN | apply below_drew1) | exact HB.out)⟩
                    · rw [if_neg c20] at H
                      have c20b0 : (t198 == t199) = false := beq_eq_false_iff_ne.mpr c20
                      have c20b1 : (t198 != t199) = true := bne_iff_ne.mpr c20
                      exact absurd ((Option.some.inj H).trans hT.out) (by decide)
                  · rw [if_neg c17] at H
                    have c17b0 : (t196 == t192) = false := beq_eq_false_iff_ne.mpr c17
                    have c17b1 : (t196 != t192) = true := bne_iff_ne.mpr c17
                    exact absurd ((Option.some.inj H).trans hT.out) (by decide)
                · rw [if_neg c16] at H
                  have c16b0 : (t195 == t191) = false := beq_eq_false_iff_ne.mpr c16
                  have c16b1 : (t195 != t191) = true := bne_iff_ne.mpr c16
                  exact absurd ((Option.some.inj H).trans hT.out) (by decide)
              · rw [if_neg c15] at H
                have c15b0 : (t194 == (wrap64 (t190 + (wrap64 (400 * a1))))) = false := beq_eq_false_iff_ne.mpr c15
                have c15b1 : (t194 != (wrap64 (t190 + (wrap64 (400 * a1))))) = true := bne_iff_ne.mpr c15
                exact absurd ((Option.some.inj H).trans hT.out) (by decide)
            · replace c14 := Bool.eq_false_iff.mpr c14
              subst c14
              have H1 : (some false) = some r := by rw [if_neg (show ¬ (false = true) by decide)] at H; exact H
              clear H
              have H := H1
              clear H1
              exact absurd ((Option.some.inj H).trans hT.out) (by decide)
          · replace c13 := Bool.eq_false_iff.mpr c13
            subst c13
            have H1 : (some false) = some r := by rw [if_neg (show ¬ (false = true) by decide)] at H; exact H
            clear H
            have H := H1
            clear H1
            exact absurd ((Option.some.inj H).trans hT.out) (by decide)
  · replace c4 := Bool.eq_false_iff.mpr c4
    subst c4
    have H1 : (some false) = some r := by rw [if_neg (show ¬ (false = true) by decide)] at H; exact H
    clear H
    have H := H1
    clear H1
    exact absurd ((Option.some.inj H).trans hT.out) (by decide)

end Go.Proofs.YtidoeplhgckmaaaDoor.Q
