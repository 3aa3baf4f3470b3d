/- The calls of these Go functions answer what the Lean functions beside them answer; written by a program (wip/pr2.py, out of the print of the loaded program); under no condition but those that stand in the theorems. -/
import Derived.Test.YtidoeplhgckmaaaDoorQx0
import Derived.Test.YtidoeplhgckmaaaDoorQx1
import Derived.Test.YtidoeplhgckmaaaDoorQx6
import Derived.Test.YtidoeplhgckmaaaDoorQx7
import Derived.Test.YtidoeplhgckmaaaDoorQx13
namespace Go.Proofs.YtidoeplhgckmaaaDoor.Q
open Go.RowKit Go.Proofs.YtidoeplhgckmaaaDoorW.PrintWords Go.Proofs.YtidoeplhgckmaaaDoorW.PrintLast Go.Proofs.YtidoeplhgckmaaaDoorW.PrintMore
attribute [local go_sem] max2_int min2_int max_two min_two max_three min_three max_four min_four   -- for this text's walks alone
set_option linter.unusedVariables false
set_option linter.unusedSimpArgs false

/-! ### clepsydralaw17_CivilNext: function 7 -/
mutual
def clepsydralaw17_CivilNext.j0 : Nat → Int → Bool → Option (Bool)
  | 0, _, _ => none
  | k + 1, x0, x18 => if x18 = true then (some true) else ((civil_Date.f k x0).bind fun bt178 => ((civil_Date.f k (wrap64 (x0 + 1))).bind fun bt182 => (if bt178.2.2.2 = true then (if bt182.2.2.2 = true then ((civil_Weekday.f k x0).bind fun t186 => ((civil_Weekday.f k (wrap64 (x0 + 1))).bind fun t187 => (clepsydralaw17_CivilNext.j1 k bt178.1 bt178.2.1 bt178.2.2.1 bt182.1 bt182.2.1 bt182.2.2.1 ((Int.tmod (wrap64 (t186 + 1)) 7) != t187)))) else (clepsydralaw17_CivilNext.j1 k bt178.1 bt178.2.1 bt178.2.2.1 bt182.1 bt182.2.1 bt182.2.2.1 true)) else (clepsydralaw17_CivilNext.j1 k bt178.1 bt178.2.1 bt178.2.2.1 bt182.1 bt182.2.1 bt182.2.2.1 true))))
def clepsydralaw17_CivilNext.j1 : Nat → Int → Int → Int → Int → Int → Int → Bool → Option (Bool)
  | 0, _, _, _, _, _, _, _ => none
  | k + 1, x3, x4, x5, x7, x8, x9, x49 => if x49 = true then (some false) else ((civil_Days.f k x3 x4).bind fun t188 => (if x5 < t188 then (if x7 = x3 then (if x8 = x4 then (some (x9 == (wrap64 (x5 + 1)))) else (some false)) else (some false)) else (if x4 < 12 then (if x7 = x3 then (if x8 = (wrap64 (x4 + 1)) then (some (x9 == 1)) else (some false)) else (some false)) else (if x7 = (wrap64 (x3 + 1)) then (if x8 = 1 then (some (x9 == 1)) else (some false)) else (some false)))))
end
def clepsydralaw17_CivilNext.f (k : Nat) (a0 : Int) : Option (Bool) := (clepsydralaw17_alive.f k).bind fun t177 => (if t177 = true then (if a0 ≥ 4294967296 then (clepsydralaw17_CivilNext.j0 k a0 true) else (clepsydralaw17_CivilNext.j0 k a0 (decide (a0 < (-4294967296))))) else (some false))
theorem clepsydralaw17_CivilNext.mono_l : ∀ k, (∀ y0 y1, LeO (clepsydralaw17_CivilNext.j0 k y0 y1) (clepsydralaw17_CivilNext.j0 (k + 1) y0 y1)) ∧ (∀ y0 y1 y2 y3 y4 y5 y6, LeO (clepsydralaw17_CivilNext.j1 k y0 y1 y2 y3 y4 y5 y6) (clepsydralaw17_CivilNext.j1 (k + 1) y0 y1 y2 y3 y4 y5 y6))
  | 0 => ⟨fun _ _ r h => by simp [clepsydralaw17_CivilNext.j0] at h, fun _ _ _ _ _ _ _ r h => by simp [clepsydralaw17_CivilNext.j1] at h⟩
  | k + 1 => by
    obtain ⟨ih0, ih1⟩ := clepsydralaw17_CivilNext.mono_l k
    refine ⟨?_, ?_⟩
    · intro y0 y1
      unfold clepsydralaw17_CivilNext.j0
      repeat' first
      | (with_reducible exact ih0 _ _)
      | (with_reducible exact ih1 _ _ _ _ _ _ _)
      | (with_reducible exact civil_Date.mono _ _)
      | (with_reducible exact civil_Days.mono _ _ _)
      | (with_reducible exact civil_Weekday.mono _ _)
      | (with_reducible exact clepsydralaw17_alive.mono _)
      | (with_reducible exact LeO.refl _)
      | (with_reducible exact LeO.none _)
      | (with_reducible refine LeO.ite ?_ ?_)
      | (with_reducible refine LeO.bind ?_ (fun _ => ?_))
      | exact ih0 _ _
      | exact ih1 _ _ _ _ _ _ _
      | exact civil_Date.mono _ _
      | exact civil_Days.mono _ _ _
      | exact civil_Weekday.mono _ _
      | exact clepsydralaw17_alive.mono _
      | exact LeO.none _
      | refine LeO.ite ?_ ?_
      | refine LeO.bind ?_ (fun _ => ?_)
    · intro y0 y1 y2 y3 y4 y5 y6
      unfold clepsydralaw17_CivilNext.j1
      repeat' first
      | (with_reducible exact ih0 _ _)
      | (with_reducible exact ih1 _ _ _ _ _ _ _)
      | (with_reducible exact civil_Date.mono _ _)
      | (with_reducible exact civil_Days.mono _ _ _)
      | (with_reducible exact civil_Weekday.mono _ _)
      | (with_reducible exact clepsydralaw17_alive.mono _)
      | (with_reducible exact LeO.refl _)
      | (with_reducible exact LeO.none _)
      | (with_reducible refine LeO.ite ?_ ?_)
      | (with_reducible refine LeO.bind ?_ (fun _ => ?_))
      | exact ih0 _ _
      | exact ih1 _ _ _ _ _ _ _
      | exact civil_Date.mono _ _
      | exact civil_Days.mono _ _ _
      | exact civil_Weekday.mono _ _
      | exact clepsydralaw17_alive.mono _
      | exact LeO.none _
      | refine LeO.ite ?_ ?_
      | refine LeO.bind ?_ (fun _ => ?_)
theorem clepsydralaw17_CivilNext.mono : ∀ a0 k, LeO (clepsydralaw17_CivilNext.f k a0) (clepsydralaw17_CivilNext.f (k + 1) a0) := by
  intro a0 k
  obtain ⟨ih0, ih1⟩ := clepsydralaw17_CivilNext.mono_l k
  unfold clepsydralaw17_CivilNext.f
  repeat' first
      | (with_reducible exact ih0 _ _)
      | (with_reducible exact ih1 _ _ _ _ _ _ _)
      | (with_reducible exact civil_Date.mono _ _)
      | (with_reducible exact civil_Days.mono _ _ _)
      | (with_reducible exact civil_Weekday.mono _ _)
      | (with_reducible exact clepsydralaw17_alive.mono _)
      | (with_reducible exact LeO.refl _)
      | (with_reducible exact LeO.none _)
      | (with_reducible refine LeO.ite ?_ ?_)
      | (with_reducible refine LeO.bind ?_ (fun _ => ?_))
      | exact ih0 _ _
      | exact ih1 _ _ _ _ _ _ _
      | exact civil_Date.mono _ _
      | exact civil_Days.mono _ _ _
      | exact civil_Weekday.mono _ _
      | exact clepsydralaw17_alive.mono _
      | exact LeO.none _
      | refine LeO.ite ?_ ?_
      | refine LeO.bind ?_ (fun _ => ?_)
set_option maxHeartbeats 8000000 in
set_option maxRecDepth 100000 in
theorem clepsydralaw17_CivilNext.calls (k : Nat) (a0 : Int) (r : Bool) (w : World) (hM : GM w) (hT : Aside0 (r = true)) (h : clepsydralaw17_CivilNext.f k a0 = some r) :
    Calls Tryd.prog 7 #[.int .i64 a0] w fun e w' => e = .returned (.bool r) ∧ Below w.heap.size w w' := by
  have HB := Aside0.mk (Below.refl w.heap.size w)
  have H : ((clepsydralaw17_alive.f k).bind fun t177 => (if t177 = true then (if a0 ≥ 4294967296 then (clepsydralaw17_CivilNext.j0 k a0 true) else (clepsydralaw17_CivilNext.j0 k a0 (decide (a0 < (-4294967296))))) else (some false))) = some r := h
  clear h
  replace H := Option.bind_eq_some_iff.mp H
  obtain ⟨t177, A20, H⟩ := H
  replace H : (if t177 = true then (if a0 ≥ 4294967296 then (clepsydralaw17_CivilNext.j0 k a0 true) else (clepsydralaw17_CivilNext.j0 k a0 (decide (a0 < (-4294967296))))) else (some false)) = some r := H
  have A2 := Aside0.mk A20
  clear A20
  by_cases c3 : t177 = true
  · subst c3
    have H1 : (if a0 ≥ 4294967296 then (clepsydralaw17_CivilNext.j0 k a0 true) else (clepsydralaw17_CivilNext.j0 k a0 (decide (a0 < (-4294967296))))) = some r := by rw [if_pos rfl] at H; exact H
    clear H
    have H := H1
    clear H1
    have HC4 := Aside0.mk H
    clear H
    go_enter Tryd.func7, Tryd.ntmps7
    go_upto_region 3 with (first | ((with_reducible refine gate_callee (f := 13) rfl ?_); refine goesL_ (some 11) rfl rfl Tryd.func13 (by kernel_rfl) rfl #[] rfl (by (try simp only [List.map_toArray, List.map_cons, List.map_nil]); first | done | rfl | (simp only [List.length_drop, List.length_take]; rfl)) ?_; (with_reducible refine (clepsydralaw17_alive.calls k  true _ (by first | exact hM | exact hM.below HB.out | repeat (first | exact hM | exact hM.below HB.out | apply GM.drewN | apply GM.drew)) A2.out).mono ?_); rintro e w5 ⟨rfl, hb⟩; refine ⟨_, rfl, ?_⟩; have n0_ := Aside0.mk (below_step (by repeat (first | (with_reducible first | exact HB.out | apply below_alloc | apply pw_below_drewN | apply below_drew1) | exact HB.out)) hb); clear HB; have HB := n0_; clear n0_; (try clear hb); (try clear hb2); (try clear hk); (try clear hi)))
    (try simp only [Act.put, List.setIfInBounds_toArray, List.set_cons_zero, List.set_cons_succ])
    go_cut [18] (fun v18 wc => ∃ (kq : Nat) (x18_3 : Bool), v18 = .bool x18_3 ∧ Aside0 (clepsydralaw17_CivilNext.j0 kq a0 x18_3 = some r) ∧ Aside0 (kq ≤ k) ∧ Aside0 (Below w.heap.size w wc))
    case first =>
      have H := HC4.out
      clear HC4
      by_cases c6 : a0 ≥ 4294967296
      · rw [if_pos c6] at H
        have c6b0 : decide (4294967296 ≤ a0) = true := decide_eq_true c6
        clear c6
        (first | rw [c6b0] | (simp only [i64_w, i32_w]; rw [c6b0]) | skip)
        have H' := Aside0.mk H
        clear H
        go_wp2
        go_meet
        case rel => exact ⟨_, (true), (by first | rfl | (simp; done) | (simp [*]; done) | (simp [Int.tdiv_eq_ediv_of_nonneg]; done) | (simp [Go.RowKit.wrap64]; done) | (simp [*, Go.RowKit.wrap64]; done)), H', ⟨by first | omega | exact Nat.le_refl _⟩, ⟨by repeat (first | (with_reducible first | exact HB.out | apply below_alloc | apply pw_below_drewN | apply below_drew1) | exact HB.out)⟩⟩
      · rw [if_neg c6] at H
        have c6b0 : decide (4294967296 ≤ a0) = false := decide_eq_false c6
        clear c6
        (first | rw [c6b0] | (simp only [i64_w, i32_w]; rw [c6b0]) | skip)
        have H' := Aside0.mk H
        clear H
        go_wp2
        go_meet
        case rel => exact ⟨_, (decide (a0 < (-4294967296))), (by first | rfl | (simp; done) | (simp [*]; done) | (simp [Int.tdiv_eq_ediv_of_nonneg]; done) | (simp [Go.RowKit.wrap64]; done) | (simp [*, Go.RowKit.wrap64]; done)), H', ⟨by first | omega | exact Nat.le_refl _⟩, ⟨by repeat (first | (with_reducible first | exact HB.out | apply below_alloc | apply pw_below_drewN | apply below_drew1) | exact HB.out)⟩⟩
    case rest =>
      clear HC4
      try clear c1
      try clear p2
      try clear c3
      try clear c6
      try clear c6b0
      obtain ⟨kq, x18_3, rfl, HA, HJ3, HB⟩ := hcut
      cases kq with
      | zero => exact absurd HA.out (by simp [clepsydralaw17_CivilNext.j0])
      | succ kj3 =>
        have H := HA.out
        clear HA
        simp only [clepsydralaw17_CivilNext.j0] at H
        by_cases c7 : x18_3 = true
        · subst c7
          have H1 : (some true) = some r := by rw [if_pos rfl] at H; exact H
          clear H
          have H := H1
          clear H1
          obtain rfl := Option.some.inj H
          go_wp2
          go_ret
          exact ⟨by first | rfl | (simp [errW_none, errW_some] <;> rfl) | (simp [*, errW_none, errW_some] <;> rfl), by repeat (first | (with_reducible first | exact HB.out | apply below_alloc | apply pw_below_drewN | apply below_drew1) | exact HB.out)⟩
        · replace c7 := Bool.eq_false_iff.mpr c7
          subst c7
          have H1 : ((civil_Date.f kj3 a0).bind fun bt178 => ((civil_Date.f kj3 (wrap64 (a0 + 1))).bind fun bt182 => (if bt178.2.2.2 = true then (if bt182.2.2.2 = true then ((civil_Weekday.f kj3 a0).bind fun t186 => ((civil_Weekday.f kj3 (wrap64 (a0 + 1))).bind fun t187 => (clepsydralaw17_CivilNext.j1 kj3 bt178.1 bt178.2.1 bt178.2.2.1 bt182.1 bt182.2.1 bt182.2.2.1 ((Int.tmod (wrap64 (t186 + 1)) 7) != t187)))) else (clepsydralaw17_CivilNext.j1 kj3 bt178.1 bt178.2.1 bt178.2.2.1 bt182.1 bt182.2.1 bt182.2.2.1 true)) else (clepsydralaw17_CivilNext.j1 kj3 bt178.1 bt178.2.1 bt178.2.2.1 bt182.1 bt182.2.1 bt182.2.2.1 true)))) = some r := by rw [if_neg (show ¬ (false = true) by decide)] at H; exact H
          clear H
          have H := H1
          clear H1
          replace H := Option.bind_eq_some_iff.mp H
          obtain ⟨⟨t178, t179, t180, t181⟩, A80, H⟩ := H
          replace H : ((civil_Date.f kj3 (wrap64 (a0 + 1))).bind fun bt182 => (if t181 = true then (if bt182.2.2.2 = true then ((civil_Weekday.f kj3 a0).bind fun t186 => ((civil_Weekday.f kj3 (wrap64 (a0 + 1))).bind fun t187 => (clepsydralaw17_CivilNext.j1 kj3 t178 t179 t180 bt182.1 bt182.2.1 bt182.2.2.1 ((Int.tmod (wrap64 (t186 + 1)) 7) != t187)))) else (clepsydralaw17_CivilNext.j1 kj3 t178 t179 t180 bt182.1 bt182.2.1 bt182.2.2.1 true)) else (clepsydralaw17_CivilNext.j1 kj3 t178 t179 t180 bt182.1 bt182.2.1 bt182.2.2.1 true))) = some r := H
          have A8 := Aside0.mk A80
          clear A80
          replace H := Option.bind_eq_some_iff.mp H
          obtain ⟨⟨t182, t183, t184, t185⟩, A90, H⟩ := H
          replace H : (if t181 = true then (if t185 = true then ((civil_Weekday.f kj3 a0).bind fun t186 => ((civil_Weekday.f kj3 (wrap64 (a0 + 1))).bind fun t187 => (clepsydralaw17_CivilNext.j1 kj3 t178 t179 t180 t182 t183 t184 ((Int.tmod (wrap64 (t186 + 1)) 7) != t187)))) else (clepsydralaw17_CivilNext.j1 kj3 t178 t179 t180 t182 t183 t184 true)) else (clepsydralaw17_CivilNext.j1 kj3 t178 t179 t180 t182 t183 t184 true)) = some r := H
          have A9 := Aside0.mk A90
          clear A90
          have HC10 := Aside0.mk H
          clear H
          go_upto_region 7 with (first | ((with_reducible refine gate_callee (f := 16) rfl ?_); refine goesL_ (some 21) rfl rfl Tryd.func16 (by kernel_rfl) rfl #[.int .i64 a0] rfl (by (try simp only [List.map_toArray, List.map_cons, List.map_nil]); first | done | rfl | (simp only [List.length_drop, List.length_take]; rfl)) ?_; (with_reducible refine (civil_Date.calls kj3 a0 t178 t179 t180 t181 _ (by first | exact hM | exact hM.below HB.out | repeat (first | exact hM | exact hM.below HB.out | apply GM.drewN | apply GM.drew)) A8.out).mono ?_); rintro e w11 ⟨rfl, hb⟩; refine ⟨_, rfl, ?_⟩; have n0_ := Aside0.mk (below_step (by repeat (first | (with_reducible first | exact HB.out | apply below_alloc | apply pw_below_drewN | apply below_drew1) | exact HB.out)) hb); clear HB; have HB := n0_; clear n0_; (try clear hb); (try clear hb2); (try clear hk); (try clear hi)) | ((with_reducible refine gate_callee (f := 16) rfl ?_); refine goesL_ (some 29) rfl rfl Tryd.func16 (by kernel_rfl) rfl #[.int .i64 (wrap64 (a0 + 1))] rfl (by (try simp only [List.map_toArray, List.map_cons, List.map_nil]); first | done | rfl | (simp only [List.length_drop, List.length_take]; rfl)) ?_; (with_reducible refine (civil_Date.calls kj3 (wrap64 (a0 + 1)) t182 t183 t184 t185 _ (by first | exact hM | exact hM.below HB.out | repeat (first | exact hM | exact hM.below HB.out | apply GM.drewN | apply GM.drew)) A9.out).mono ?_); rintro e w12 ⟨rfl, hb⟩; refine ⟨_, rfl, ?_⟩; have n0_ := Aside0.mk (below_step (by repeat (first | (with_reducible first | exact HB.out | apply below_alloc | apply pw_below_drewN | apply below_drew1) | exact HB.out)) hb); clear HB; have HB := n0_; clear n0_; (try clear hb); (try clear hb2); (try clear hk); (try clear hi)))
          (try simp only [Act.put, List.setIfInBounds_toArray, List.set_cons_zero, List.set_cons_succ])
          go_cut [49] (fun v49 wc => ∃ (kq : Nat) (x49_9 : Bool), v49 = .bool x49_9 ∧ Aside0 (clepsydralaw17_CivilNext.j1 kq t178 t179 t180 t182 t183 t184 x49_9 = some r) ∧ Aside0 (kq ≤ kj3) ∧ Aside0 (Below w.heap.size w wc))
          case first =>
            have H := HC10.out
            clear HC10
            by_cases c13 : t181 = true
            · subst c13
              have H1 : (if t185 = true then ((civil_Weekday.f kj3 a0).bind fun t186 => ((civil_Weekday.f kj3 (wrap64 (a0 + 1))).bind fun t187 => (clepsydralaw17_CivilNext.j1 kj3 t178 t179 t180 t182 t183 t184 ((Int.tmod (wrap64 (t186 + 1)) 7) != t187)))) else (clepsydralaw17_CivilNext.j1 kj3 t178 t179 t180 t182 t183 t184 true)) = some r := by rw [if_pos rfl] at H; exact H
              clear H
              have H := H1
              clear H1
              by_cases c14 : t185 = true
              · subst c14
                have H1 : ((civil_Weekday.f kj3 a0).bind fun t186 => ((civil_Weekday.f kj3 (wrap64 (a0 + 1))).bind fun t187 => (clepsydralaw17_CivilNext.j1 kj3 t178 t179 t180 t182 t183 t184 ((Int.tmod (wrap64 (t186 + 1)) 7) != t187)))) = some r := by rw [if_pos rfl] at H; exact H
                clear H
                have H := H1
                clear H1
                replace H := Option.bind_eq_some_iff.mp H
                obtain ⟨t186, A150, H⟩ := H
                replace H : ((civil_Weekday.f kj3 (wrap64 (a0 + 1))).bind fun t187 => (clepsydralaw17_CivilNext.j1 kj3 t178 t179 t180 t182 t183 t184 ((Int.tmod (wrap64 (t186 + 1)) 7) != t187))) = some r := H
                have A15 := Aside0.mk A150
                clear A150
                replace H := Option.bind_eq_some_iff.mp H
                obtain ⟨t187, A160, H⟩ := H
                replace H : (clepsydralaw17_CivilNext.j1 kj3 t178 t179 t180 t182 t183 t184 ((Int.tmod (wrap64 (t186 + 1)) 7) != t187)) = some r := H
                have A16 := Aside0.mk A160
                clear A160
                have H' := Aside0.mk H
                clear H
                go_wp2_with (first | (go_at_call 18; (with_reducible refine (civil_Weekday.calls kj3 a0 t186 _ A15.out).mono ?_); rintro e w17 ⟨rfl, hb⟩; have n0_ := Aside0.mk (below_step (by repeat (first | (with_reducible first | exact HB.out | apply below_alloc | apply pw_below_drewN | apply below_drew1) | exact HB.out)) hb); clear HB; have HB := n0_; clear n0_; (try clear hb); (try clear hb2); (try clear hk); (try clear hi)) | (go_at_call 18; (try simp only [i64_w, i32_w]); (with_reducible refine (civil_Weekday.calls kj3 (wrap64 (a0 + 1)) t187 _ A16.out).mono ?_); rintro e w18 ⟨rfl, hb⟩; have n0_ := Aside0.mk (below_step (by repeat (first | (with_reducible first | exact HB.out | apply below_alloc | apply pw_below_drewN | apply below_drew1) | exact HB.out)) hb); clear HB; have HB := n0_; clear n0_; (try clear hb); (try clear hb2); (try clear hk); (try clear hi)))
                go_meet
                case rel => exact ⟨_, (((Int.tmod (wrap64 (t186 + 1)) 7) != t187)), (by first | rfl | (simp; done) | (simp [*]; done) | (simp [Int.tdiv_eq_ediv_of_nonneg]; done) | (simp [Go.RowKit.wrap64]; done) | (simp [*, Go.RowKit.wrap64]; done)), H', ⟨by have := HJ3.out; first | omega | exact Nat.le_refl _⟩, ⟨by repeat (first | (with_reducible first | exact HB.out | apply below_alloc | apply pw_below_drewN | apply below_drew1) | exact HB.out)⟩⟩
              · replace c14 := Bool.eq_false_iff.mpr c14
                subst c14
                have H1 : (clepsydralaw17_CivilNext.j1 kj3 t178 t179 t180 t182 t183 t184 true) = some r := by rw [if_neg (show ¬ (false = true) by decide)] at H; exact H
                clear H
                have H := H1
                clear H1
                have H' := Aside0.mk H
                clear H
                go_wp2
                go_meet
                case rel => exact ⟨_, (true), (by first | rfl | (simp; done) | (simp [*]; done) | (simp [Int.tdiv_eq_ediv_of_nonneg]; done) | (simp [Go.RowKit.wrap64]; done) | (simp [*, Go.RowKit.wrap64]; done)), H', ⟨by have := HJ3.out; first | omega | exact Nat.le_refl _⟩, ⟨by repeat (first | (with_reducible first | exact HB.out | apply below_alloc | apply pw_below_drewN | apply below_drew1) | exact HB.out)⟩⟩
            · replace c13 := Bool.eq_false_iff.mpr c13
              subst c13
              have H1 : (clepsydralaw17_CivilNext.j1 kj3 t178 t179 t180 t182 t183 t184 true) = some r := by rw [if_neg (show ¬ (false = true) by decide)] at H; exact H
              clear H
              have H := H1
              clear H1
              have H' := Aside0.mk H
              clear H
              go_wp2
              go_meet
              case rel => exact ⟨_, (true), (by first | rfl | (simp; done) | (simp [*]; done) | (simp [Int.tdiv_eq_ediv_of_nonneg]; done) | (simp [Go.RowKit.wrap64]; done) | (simp [*, Go.RowKit.wrap64]; done)), H', ⟨by have := HJ3.out; first | omega | exact Nat.le_refl _⟩, ⟨by repeat (first | (with_reducible first | exact HB.out | apply below_alloc | apply pw_below_drewN | apply below_drew1) | exact HB.out)⟩⟩
          case rest =>
            clear HC10
            try clear c1
            try clear p2
            try clear c3
            try clear c6
            try clear c6b0
            try clear p6
            try clear c7
            try clear c13
            try clear c14
            try clear c16
            try clear p2
            obtain ⟨kq, x49_9, rfl, HA, HJ9, HB⟩ := hcut
            cases kq with
            | zero => exact absurd HA.out (by simp [clepsydralaw17_CivilNext.j1])
            | succ kj9 =>
              have H := HA.out
              clear HA
              simp only [clepsydralaw17_CivilNext.j1] at H
              by_cases c19 : x49_9 = true
              · subst c19
                have H1 : (some false) = some r := by rw [if_pos rfl] at H; exact H
                clear H
                have H := H1
                clear H1
                exact absurd ((Option.some.inj H).trans hT.out) (by decide)
              · replace c19 := Bool.eq_false_iff.mpr c19
                subst c19
                have H1 : ((civil_Days.f kj9 t178 t179).bind fun t188 => (if t180 < t188 then (if t182 = t178 then (if t183 = t179 then (some (t184 == (wrap64 (t180 + 1)))) else (some false)) else (some false)) else (if t179 < 12 then (if t182 = t178 then (if t183 = (wrap64 (t179 + 1)) then (some (t184 == 1)) else (some false)) else (some false)) else (if t182 = (wrap64 (t178 + 1)) then (if t183 = 1 then (some (t184 == 1)) else (some false)) else (some false))))) = some r := by rw [if_neg (show ¬ (false = true) by decide)] at H; exact H
                clear H
                have H := H1
                clear H1
                replace H := Option.bind_eq_some_iff.mp H
                obtain ⟨t188, A200, H⟩ := H
                replace H : (if t180 < t188 then (if t182 = t178 then (if t183 = t179 then (some (t184 == (wrap64 (t180 + 1)))) else (some false)) else (some false)) else (if t179 < 12 then (if t182 = t178 then (if t183 = (wrap64 (t179 + 1)) then (some (t184 == 1)) else (some false)) else (some false)) else (if t182 = (wrap64 (t178 + 1)) then (if t183 = 1 then (some (t184 == 1)) else (some false)) else (some false)))) = some r := H
                have A20 := Aside0.mk A200
                clear A200
                by_cases c21 : t180 < t188
                · rw [if_pos c21] at H
                  have c21b0 : decide (t180 < t188) = true := decide_eq_true c21
                  clear c21
                  by_cases c22 : t182 = t178
                  · rw [if_pos c22] at H
                    have c22b0 : (t182 == t178) = true := beq_iff_eq.mpr c22
                    have c22b1 : (t182 != t178) = false := bne_eq_false_iff_eq.mpr c22
                    clear c22
                    by_cases c23 : t183 = t179
                    · rw [if_pos c23] at H
                      have c23b0 : (t183 == t179) = true := beq_iff_eq.mpr c23
                      have c23b1 : (t183 != t179) = false := bne_eq_false_iff_eq.mpr c23
                      clear c23
                      obtain rfl := Option.some.inj H
                      go_wp2_with (first | ((with_reducible refine gate_callee (f := 10) rfl ?_); refine goesL_ (some 53) rfl rfl Tryd.func10 (by kernel_rfl) rfl #[.int .i64 t178, .int .i64 t179] rfl (by (try simp only [List.map_toArray, List.map_cons, List.map_nil]); first | done | rfl | (simp only [List.length_drop, List.length_take]; rfl)) ?_; (with_reducible refine (civil_Days.calls kj9 t178 t179 t188 _ (by first | exact hM | exact hM.below HB.out | repeat (first | exact hM | exact hM.below HB.out | apply GM.drewN | apply GM.drew)) A20.out).mono ?_); rintro e w' ⟨rfl, ⟨nd, rfl⟩⟩; refine ⟨_, rfl, ?_⟩))
                      go_ret
                      exact ⟨by first | rfl | (simp [errW_none, errW_some] <;> rfl) | (simp [*, errW_none, errW_some] <;> rfl), by repeat (first | (with_reducible first | exact HB.out | apply below_alloc | apply pw_below_drewN | apply below_drew1) | exact HB.out)⟩
                    · rw [if_neg c23] at H
                      have c23b0 : (t183 == t179) = false := beq_eq_false_iff_ne.mpr c23
                      have c23b1 : (t183 != t179) = true := bne_iff_ne.mpr c23
                      exact absurd ((Option.some.inj H).trans hT.out) (by decide)
                  · rw [if_neg c22] at H
                    have c22b0 : (t182 == t178) = false := beq_eq_false_iff_ne.mpr c22
                    have c22b1 : (t182 != t178) = true := bne_iff_ne.mpr c22
                    exact absurd ((Option.some.inj H).trans hT.out) (by decide)
                · rw [if_neg c21] at H
                  have c21b0 : decide (t180 < t188) = false := decide_eq_false c21
                  clear c21
                  by_cases c24 : t179 < 12
                  · rw [if_pos c24] at H
                    have c24b0 : decide (t179 < 12) = true := decide_eq_true c24
                    clear c24
                    by_cases c25 : t182 = t178
                    · rw [if_pos c25] at H
                      have c25b0 : (t182 == t178) = true := beq_iff_eq.mpr c25
                      have c25b1 : (t182 != t178) = false := bne_eq_false_iff_eq.mpr c25
                      clear c25
                      by_cases c26 : t183 = (wrap64 (t179 + 1))
                      · rw [if_pos c26] at H
                        have c26b0 : (t183 == (wrap64 (t179 + 1))) = true := beq_iff_eq.mpr c26
                        have c26b1 : (t183 != (wrap64 (t179 + 1))) = false := bne_eq_false_iff_eq.mpr c26
                        clear c26
                        obtain rfl := Option.some.inj H
                        go_wp2_with (first | ((with_reducible refine gate_callee (f := 10) rfl ?_); refine goesL_ (some 53) rfl rfl Tryd.func10 (by kernel_rfl) rfl #[.int .i64 t178, .int .i64 t179] rfl (by (try simp only [List.map_toArray, List.map_cons, List.map_nil]); first | done | rfl | (simp only [List.length_drop, List.length_take]; rfl)) ?_; (with_reducible refine (civil_Days.calls kj9 t178 t179 t188 _ (by first | exact hM | exact hM.below HB.out | repeat (first | exact hM | exact hM.below HB.out | apply GM.drewN | apply GM.drew)) A20.out).mono ?_); rintro e w' ⟨rfl, ⟨nd, rfl⟩⟩; refine ⟨_, rfl, ?_⟩))
                        go_ret
                        exact ⟨by first | rfl | (simp [errW_none, errW_some] <;> rfl) | (simp [*, errW_none, errW_some] <;> rfl), by repeat (first | (with_reducible first | exact HB.out | apply below_alloc | apply pw_below_drewN | apply below_drew1) | exact HB.out)⟩
                      · rw [if_neg c26] at H
                        have c26b0 : (t183 == (wrap64 (t179 + 1))) = false := beq_eq_false_iff_ne.mpr c26
                        have c26b1 : (t183 != (wrap64 (t179 + 1))) = true := bne_iff_ne.mpr c26
                        exact absurd ((Option.some.inj H).trans hT.out) (by decide)
                    · rw [if_neg c25] at H
                      have c25b0 : (t182 == t178) = false := beq_eq_false_iff_ne.mpr c25
                      have c25b1 : (t182 != t178) = true := bne_iff_ne.mpr c25
                      exact absurd ((Option.some.inj H).trans hT.out) (by decide)
                  · rw [if_neg c24] at H
                    have c24b0 : decide (t179 < 12) = false := decide_eq_false c24
                    clear c24
                    by_cases c27 : t182 = (wrap64 (t178 + 1))
                    · rw [if_pos c27] at H
                      have c27b0 : (t182 == (wrap64 (t178 + 1))) = true := beq_iff_eq.mpr c27
                      have c27b1 : (t182 != (wrap64 (t178 + 1))) = false := bne_eq_false_iff_eq.mpr c27
                      clear c27
                      by_cases c28 : t183 = 1
                      · rw [if_pos c28] at H
                        have c28b0 : (t183 == 1) = true := beq_iff_eq.mpr c28
                        have c28b1 : (t183 != 1) = false := bne_eq_false_iff_eq.mpr c28
                        clear c28
                        obtain rfl := Option.some.inj H
                        go_wp2_with (first | ((with_reducible refine gate_callee (f := 10) rfl ?_); refine goesL_ (some 53) rfl rfl Tryd.func10 (by kernel_rfl) rfl #[.int .i64 t178, .int .i64 t179] rfl (by (try simp only [List.map_toArray, List.map_cons, List.map_nil]); first | done | rfl | (simp only [List.length_drop, List.length_take]; rfl)) ?_; (with_reducible refine (civil_Days.calls kj9 t178 t179 t188 _ (by first | exact hM | exact hM.below HB.out | repeat (first | exact hM | exact hM.below HB.out | apply GM.drewN | apply GM.drew)) A20.out).mono ?_); rintro e w' ⟨rfl, ⟨nd, rfl⟩⟩; refine ⟨_, rfl, ?_⟩))
                        go_ret
                        exact ⟨by first | rfl | (simp [errW_none, errW_some] <;> rfl) | (simp [*, errW_none, errW_some] <;> rfl), by repeat (first | (with_reducible first | exact HB.out | apply below_alloc | apply pw_below_drewN | apply below_drew1) | exact HB.out)⟩
                      · rw [if_neg c28] at H
                        have c28b0 : (t183 == 1) = false := beq_eq_false_iff_ne.mpr c28
                        have c28b1 : (t183 != 1) = true := bne_iff_ne.mpr c28
                        exact absurd ((Option.some.inj H).trans hT.out) (by decide)
                    · rw [if_neg c27] at H
                      have c27b0 : (t182 == (wrap64 (t178 + 1))) = false := beq_eq_false_iff_ne.mpr c27
                      have c27b1 : (t182 != (wrap64 (t178 + 1))) = true := bne_iff_ne.mpr c27
                      exact absurd ((Option.some.inj H).trans hT.out) (by decide)
  · replace c3 := Bool.eq_false_iff.mpr c3
    subst c3
    have H1 : (some false) = some r := by rw [if_neg (show ¬ (false = true) by decide)] at H; exact H
    clear H
    have H := H1
    clear H1
    exact absurd ((Option.some.inj H).trans hT.out) (by decide)

end Go.Proofs.YtidoeplhgckmaaaDoor.Q
