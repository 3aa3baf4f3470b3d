/- The calls of these Go functions answer what the Lean functions beside them answer; written by a program (wip/pr2.py, out of the print of the loaded program); under no condition but those that stand in the theorems. -/
import Derived.Test.YtopaldkmgaflmaaQx0
import Derived.Test.YtopaldkmgaflmaaQx7
import Derived.Test.YtopaldkmgaflmaaQx9
namespace Go.Proofs.Ytopaldkmgaflmaa.Q
open Go.RowKit Go.Proofs.YtopaldkmgaflmaaW.PrintWords Go.Proofs.YtopaldkmgaflmaaW.PrintLast Go.Proofs.YtopaldkmgaflmaaW.PrintMore
attribute [local go_sem] max2_int min2_int max_two min_two max_three min_three max_four min_four   -- for this text's walks alone
set_option linter.unusedVariables false
set_option linter.unusedSimpArgs false

/-! ### clepsydralaw01_SatClips: function 5 -/
mutual
def clepsydralaw01_SatClips.j0 : Nat → Int → Int → Int → Bool → Option (Bool)
  | 0, _, _, _, _ => none
  | k + 1, x0, x1, x2, x14 => if x14 = true then (some false) else ((clepsydraref01_Clip.f x0).bind fun t147 => (if t147 < 0 then (clepsydralaw01_SatClips.j1 k x0 x1 x2 t147 (wrap64 (-t147))) else (clepsydralaw01_SatClips.j1 k x0 x1 x2 t147 t147)))
def clepsydralaw01_SatClips.j1 : Nat → Int → Int → Int → Int → Int → Option (Bool)
  | 0, _, _, _, _, _ => none
  | k + 1, x0, x1, x2, x7, x8 => (sat_Clip.f k x0).bind fun t148 => (if t148 = x7 then ((sat_Neg.f k x0).bind fun t149 => (if t149 = (wrap64 (-x7)) then ((sat_Abs.f k x0).bind fun t150 => (if t150 = x8 then ((sat_Bound.f k x0 x1 x2).bind fun t151 => ((clepsydraref01_Bound.f k x0 x1 x2).bind fun t152 => (some (t151 == t152)))) else (some false))) else (some false))) else (some false))
end
def clepsydralaw01_SatClips.f (k : Nat) (a0 : Int) (a1 : Int) (a2 : Int) : Option (Bool) := (sat_Clip.f k 7).bind fun t145 => (if t145 = 7 then ((sat_Neg.f k 7).bind fun t146 => (clepsydralaw01_SatClips.j0 k a0 a1 a2 (t146 != (-7)))) else (clepsydralaw01_SatClips.j0 k a0 a1 a2 true))
theorem clepsydralaw01_SatClips.mono_l : ∀ k, (∀ y0 y1 y2 y3, LeO (clepsydralaw01_SatClips.j0 k y0 y1 y2 y3) (clepsydralaw01_SatClips.j0 (k + 1) y0 y1 y2 y3)) ∧ (∀ y0 y1 y2 y3 y4, LeO (clepsydralaw01_SatClips.j1 k y0 y1 y2 y3 y4) (clepsydralaw01_SatClips.j1 (k + 1) y0 y1 y2 y3 y4))
  | 0 => ⟨fun _ _ _ _ r h => by simp [clepsydralaw01_SatClips.j0] at h, fun _ _ _ _ _ r h => by simp [clepsydralaw01_SatClips.j1] at h⟩
  | k + 1 => by
    obtain ⟨ih0, ih1⟩ := clepsydralaw01_SatClips.mono_l k
    refine ⟨?_, ?_⟩
    · intro y0 y1 y2 y3
      unfold clepsydralaw01_SatClips.j0
      repeat' first
      | (with_reducible exact ih0 _ _ _ _)
      | (with_reducible exact ih1 _ _ _ _ _)
      | (with_reducible exact clepsydraref01_Bound.mono _ _ _ _)
      | (with_reducible exact sat_Abs.mono _ _)
      | (with_reducible exact sat_Bound.mono _ _ _ _)
      | (with_reducible exact sat_Clip.mono _ _)
      | (with_reducible exact sat_Neg.mono _ _)
      | (with_reducible exact LeO.refl _)
      | (with_reducible exact LeO.none _)
      | (with_reducible refine LeO.ite ?_ ?_)
      | (with_reducible refine LeO.bind ?_ (fun _ => ?_))
      | exact ih0 _ _ _ _
      | exact ih1 _ _ _ _ _
      | exact clepsydraref01_Bound.mono _ _ _ _
      | exact sat_Abs.mono _ _
      | exact sat_Bound.mono _ _ _ _
      | exact sat_Clip.mono _ _
      | exact sat_Neg.mono _ _
      | exact LeO.none _
      | refine LeO.ite ?_ ?_
      | refine LeO.bind ?_ (fun _ => ?_)
    · intro y0 y1 y2 y3 y4
      unfold clepsydralaw01_SatClips.j1
      repeat' first
      | (with_reducible exact ih0 _ _ _ _)
      | (with_reducible exact ih1 _ _ _ _ _)
      | (with_reducible exact clepsydraref01_Bound.mono _ _ _ _)
      | (with_reducible exact sat_Abs.mono _ _)
      | (with_reducible exact sat_Bound.mono _ _ _ _)
      | (with_reducible exact sat_Clip.mono _ _)
      | (with_reducible exact sat_Neg.mono _ _)
      | (with_reducible exact LeO.refl _)
      | (with_reducible exact LeO.none _)
      | (with_reducible refine LeO.ite ?_ ?_)
      | (with_reducible refine LeO.bind ?_ (fun _ => ?_))
      | exact ih0 _ _ _ _
      | exact ih1 _ _ _ _ _
      | exact clepsydraref01_Bound.mono _ _ _ _
      | exact sat_Abs.mono _ _
      | exact sat_Bound.mono _ _ _ _
      | exact sat_Clip.mono _ _
      | exact sat_Neg.mono _ _
      | exact LeO.none _
      | refine LeO.ite ?_ ?_
      | refine LeO.bind ?_ (fun _ => ?_)
theorem clepsydralaw01_SatClips.mono : ∀ a0 a1 a2 k, LeO (clepsydralaw01_SatClips.f k a0 a1 a2) (clepsydralaw01_SatClips.f (k + 1) a0 a1 a2) := by
  intro a0 a1 a2 k
  obtain ⟨ih0, ih1⟩ := clepsydralaw01_SatClips.mono_l k
  unfold clepsydralaw01_SatClips.f
  repeat' first
      | (with_reducible exact ih0 _ _ _ _)
      | (with_reducible exact ih1 _ _ _ _ _)
      | (with_reducible exact clepsydraref01_Bound.mono _ _ _ _)
      | (with_reducible exact sat_Abs.mono _ _)
      | (with_reducible exact sat_Bound.mono _ _ _ _)
      | (with_reducible exact sat_Clip.mono _ _)
      | (with_reducible exact sat_Neg.mono _ _)
      | (with_reducible exact LeO.refl _)
      | (with_reducible exact LeO.none _)
      | (with_reducible refine LeO.ite ?_ ?_)
      | (with_reducible refine LeO.bind ?_ (fun _ => ?_))
      | exact ih0 _ _ _ _
      | exact ih1 _ _ _ _ _
      | exact clepsydraref01_Bound.mono _ _ _ _
      | exact sat_Abs.mono _ _
      | exact sat_Bound.mono _ _ _ _
      | exact sat_Clip.mono _ _
      | exact sat_Neg.mono _ _
      | exact LeO.none _
      | refine LeO.ite ?_ ?_
      | refine LeO.bind ?_ (fun _ => ?_)
set_option maxHeartbeats 8000000 in
set_option maxRecDepth 100000 in
theorem clepsydralaw01_SatClips.calls (k : Nat) (a0 : Int) (a1 : Int) (a2 : Int) (r : Bool) (w : World) (hT : Aside0 (r = true)) (h : clepsydralaw01_SatClips.f k a0 a1 a2 = some r) :
    Calls Try.prog 5 #[.int .i64 a0, .int .i64 a1, .int .i64 a2] w fun e w' => e = .returned (.bool r) ∧ Drawn0 w w' := by
  have H : ((sat_Clip.f k 7).bind fun t145 => (if t145 = 7 then ((sat_Neg.f k 7).bind fun t146 => (clepsydralaw01_SatClips.j0 k a0 a1 a2 (t146 != (-7)))) else (clepsydralaw01_SatClips.j0 k a0 a1 a2 true))) = some r := h
  clear h
  have HC4 := Aside0.mk H
  clear H
  go_enter Try.func5, Try.ntmps5
  go_upto_region 1 with (fail)
  go_cut [14] (fun v14 wc => ∃ (kq : Nat) (x14_3 : Bool), v14 = .bool x14_3 ∧ Aside0 (clepsydralaw01_SatClips.j0 kq a0 a1 a2 x14_3 = some r) ∧ Aside0 (kq ≤ k) ∧ Drawn0 w wc)
  case first =>
    have H := HC4.out
    clear HC4
    replace H := Option.bind_eq_some_iff.mp H
    obtain ⟨t145, A50, H⟩ := H
    replace H : (if t145 = 7 then ((sat_Neg.f k 7).bind fun t146 => (clepsydralaw01_SatClips.j0 k a0 a1 a2 (t146 != (-7)))) else (clepsydralaw01_SatClips.j0 k a0 a1 a2 true)) = some r := H
    have A5 := Aside0.mk A50
    clear A50
    by_cases c6 : t145 = 7
    · rw [if_pos c6] at H
      have c6b0 : (t145 == 7) = true := beq_iff_eq.mpr c6
      have c6b1 : (t145 != 7) = false := bne_eq_false_iff_eq.mpr c6
      clear c6
      (first | rw [c6b0] | (simp only [i64_w, i32_w]; rw [c6b0]) | skip)
      replace H := Option.bind_eq_some_iff.mp H
      obtain ⟨t146, A70, H⟩ := H
      replace H : (clepsydralaw01_SatClips.j0 k a0 a1 a2 (t146 != (-7))) = some r := H
      have A7 := Aside0.mk A70
      clear A70
      have H' := Aside0.mk H
      clear H
      go_wp2_with (first | ((with_reducible refine gate_callee (f := 19) rfl ?_); refine goesL_ (some 9) rfl rfl Try.func19 (by kernel_rfl) rfl #[.int .i64 7] rfl (by (try simp only [List.map_toArray, List.map_cons, List.map_nil]); first | done | rfl | (simp only [List.length_drop, List.length_take]; rfl)) ?_; (with_reducible refine (sat_Clip.calls k 7 t145 _ A5.out).mono ?_); rintro e w' ⟨rfl, ⟨nd, rfl⟩⟩; refine ⟨_, rfl, ?_⟩) | (go_at_call 20; (with_reducible refine (sat_Neg.calls k 7 t146 _ A7.out).mono ?_); rintro e w' ⟨rfl, ⟨nd, rfl⟩⟩))
      go_meet
      case rel => exact ⟨_, ((t146 != (-7))), (by first | rfl | (simp; done) | (simp [*]; done) | (simp [Int.tdiv_eq_ediv_of_nonneg]; done) | (simp [Go.RowKit.wrap64]; done) | (simp [*, Go.RowKit.wrap64]; done)), H', ⟨by first | omega | exact Nat.le_refl _⟩, by repeat (first | exact Drawn0.refl _ | apply Drawn0.step)⟩
    · rw [if_neg c6] at H
      have c6b0 : (t145 == 7) = false := beq_eq_false_iff_ne.mpr c6
      have c6b1 : (t145 != 7) = true := bne_iff_ne.mpr c6
      (first | rw [c6b0] | (simp only [i64_w, i32_w]; rw [c6b0]) | skip)
      have H' := Aside0.mk H
      clear H
      go_wp2_with (first | ((with_reducible refine gate_callee (f := 19) rfl ?_); refine goesL_ (some 9) rfl rfl Try.func19 (by kernel_rfl) rfl #[.int .i64 7] rfl (by (try simp only [List.map_toArray, List.map_cons, List.map_nil]); first | done | rfl | (simp only [List.length_drop, List.length_take]; rfl)) ?_; (with_reducible refine (sat_Clip.calls k 7 t145 _ A5.out).mono ?_); rintro e w' ⟨rfl, ⟨nd, rfl⟩⟩; refine ⟨_, rfl, ?_⟩))
      go_meet
      case rel => exact ⟨_, (true), (by first | rfl | (simp; done) | (simp [*]; done) | (simp [Int.tdiv_eq_ediv_of_nonneg]; done) | (simp [Go.RowKit.wrap64]; done) | (simp [*, Go.RowKit.wrap64]; done)), H', ⟨by first | omega | exact Nat.le_refl _⟩, by repeat (first | exact Drawn0.refl _ | apply Drawn0.step)⟩
  case rest =>
    clear HC4
    try clear c1
    try clear p2
    try clear c5
    try clear c6
    try clear c6b0
    try clear c6b1
    obtain ⟨kq, x14_3, rfl, HA, HJ3, ⟨mc3, rfl⟩⟩ := hcut
    cases kq with
    | zero => exact absurd HA.out (by simp [clepsydralaw01_SatClips.j0])
    | succ kj3 =>
      have H := HA.out
      clear HA
      simp only [clepsydralaw01_SatClips.j0] at H
      by_cases c8 : x14_3 = true
      · subst c8
        have H1 : (some false) = some r := by rw [if_pos rfl] at H; exact H
        clear H
        have H := H1
        clear H1
        exact absurd ((Option.some.inj H).trans hT.out) (by decide)
      · replace c8 := Bool.eq_false_iff.mpr c8
        subst c8
        have H1 : ((clepsydraref01_Clip.f a0).bind fun t147 => (if t147 < 0 then (clepsydralaw01_SatClips.j1 kj3 a0 a1 a2 t147 (wrap64 (-t147))) else (clepsydralaw01_SatClips.j1 kj3 a0 a1 a2 t147 t147))) = some r := by rw [if_neg (show ¬ (false = true) by decide)] at H; exact H
        clear H
        have H := H1
        clear H1
        replace H := Option.bind_eq_some_iff.mp H
        obtain ⟨t147, A90, H⟩ := H
        replace H : (if t147 < 0 then (clepsydralaw01_SatClips.j1 kj3 a0 a1 a2 t147 (wrap64 (-t147))) else (clepsydralaw01_SatClips.j1 kj3 a0 a1 a2 t147 t147)) = some r := H
        have A9 := Aside0.mk A90
        clear A90
        have HC10 := Aside0.mk H
        clear H
        go_upto_if 19 with (first | ((with_reducible refine gate_callee (f := 21) rfl ?_); refine goesL_ (some 16) rfl rfl Try.func21 (by kernel_rfl) rfl #[.int .i64 a0] rfl (by (try simp only [List.map_toArray, List.map_cons, List.map_nil]); first | done | rfl | (simp only [List.length_drop, List.length_take]; rfl)) ?_; (with_reducible refine (clepsydraref01_Clip.calls a0 t147 _ A9.out).mono ?_); rintro e w' ⟨rfl, ⟨nd, rfl⟩⟩; refine ⟨_, rfl, ?_⟩))
        (try simp only [Act.put, List.setIfInBounds_toArray, List.set_cons_zero, List.set_cons_succ])
        go_cut [8] (fun v8 wc => ∃ (kq : Nat) (x8_9 : Int), v8 = .int .i64 x8_9 ∧ Aside0 (clepsydralaw01_SatClips.j1 kq a0 a1 a2 t147 x8_9 = some r) ∧ Aside0 (kq ≤ kj3) ∧ Drawn0 w wc)
        case first =>
          have H := HC10.out
          clear HC10
          by_cases c11 : t147 < 0
          · rw [if_pos c11] at H
            have c11b0 : decide (t147 < 0) = true := decide_eq_true c11
            clear c11
            (first | rw [c11b0] | (simp only [i64_w, i32_w]; rw [c11b0]) | skip)
            have H' := Aside0.mk H
            clear H
            go_wp2
            go_meet
            case rel => exact ⟨_, (wrap64 (-t147)), (by first | rfl | (simp; done) | (simp [*]; done) | (simp [Int.tdiv_eq_ediv_of_nonneg]; done) | (simp [Go.RowKit.wrap64]; done) | (simp [*, Go.RowKit.wrap64]; done)), H', ⟨by have := HJ3.out; first | omega | exact Nat.le_refl _⟩, by repeat (first | exact Drawn0.refl _ | apply Drawn0.step)⟩
          · rw [if_neg c11] at H
            have c11b0 : decide (t147 < 0) = false := decide_eq_false c11
            clear c11
            (first | rw [c11b0] | (simp only [i64_w, i32_w]; rw [c11b0]) | skip)
            have H' := Aside0.mk H
            clear H
            go_wp2
            go_meet
            case rel => exact ⟨_, (t147), (by first | rfl | (simp; done) | (simp [*]; done) | (simp [Int.tdiv_eq_ediv_of_nonneg]; done) | (simp [Go.RowKit.wrap64]; done) | (simp [*, Go.RowKit.wrap64]; done)), H', ⟨by have := HJ3.out; first | omega | exact Nat.le_refl _⟩, by repeat (first | exact Drawn0.refl _ | apply Drawn0.step)⟩
        case rest =>
          clear HC10
          try clear c1
          try clear c2
          try clear p2
          try clear c3
          try clear c5
          try clear c6
          try clear c6b0
          try clear c6b1
          try clear p6
          try clear c8
          try clear c11
          try clear c11b0
          try clear p2
          obtain ⟨kq, x8_9, rfl, HA, HJ9, ⟨mc9, rfl⟩⟩ := hcut
          cases kq with
          | zero => exact absurd HA.out (by simp [clepsydralaw01_SatClips.j1])
          | succ kj9 =>
            have H := HA.out
            clear HA
            simp only [clepsydralaw01_SatClips.j1] at H
            replace H := Option.bind_eq_some_iff.mp H
            obtain ⟨t148, A120, H⟩ := H
            replace H : (if t148 = t147 then ((sat_Neg.f kj9 a0).bind fun t149 => (if t149 = (wrap64 (-t147)) then ((sat_Abs.f kj9 a0).bind fun t150 => (if t150 = x8_9 then ((sat_Bound.f kj9 a0 a1 a2).bind fun t151 => ((clepsydraref01_Bound.f kj9 a0 a1 a2).bind fun t152 => (some (t151 == t152)))) else (some false))) else (some false))) else (some false)) = some r := H
            have A12 := Aside0.mk A120
            clear A120
            by_cases c13 : t148 = t147
            · rw [if_pos c13] at H
              have c13b0 : (t148 == t147) = true := beq_iff_eq.mpr c13
              have c13b1 : (t148 != t147) = false := bne_eq_false_iff_eq.mpr c13
              clear c13
              replace H := Option.bind_eq_some_iff.mp H
              obtain ⟨t149, A140, H⟩ := H
              replace H : (if t149 = (wrap64 (-t147)) then ((sat_Abs.f kj9 a0).bind fun t150 => (if t150 = x8_9 then ((sat_Bound.f kj9 a0 a1 a2).bind fun t151 => ((clepsydraref01_Bound.f kj9 a0 a1 a2).bind fun t152 => (some (t151 == t152)))) else (some false))) else (some false)) = some r := H
              have A14 := Aside0.mk A140
              clear A140
              by_cases c15 : t149 = (wrap64 (-t147))
              · rw [if_pos c15] at H
                have c15b0 : (t149 == (wrap64 (-t147))) = true := beq_iff_eq.mpr c15
                have c15b1 : (t149 != (wrap64 (-t147))) = false := bne_eq_false_iff_eq.mpr c15
                clear c15
                replace H := Option.bind_eq_some_iff.mp H
                obtain ⟨t150, A160, H⟩ := H
                replace H : (if t150 = x8_9 then ((sat_Bound.f kj9 a0 a1 a2).bind fun t151 => ((clepsydraref01_Bound.f kj9 a0 a1 a2).bind fun t152 => (some (t151 == t152)))) else (some false)) = some r := H
                have A16 := Aside0.mk A160
                clear A160
                by_cases c17 : t150 = x8_9
                · rw [if_pos c17] at H
                  have c17b0 : (t150 == x8_9) = true := beq_iff_eq.mpr c17
                  have c17b1 : (t150 != x8_9) = false := bne_eq_false_iff_eq.mpr c17
                  clear c17
                  replace H := Option.bind_eq_some_iff.mp H
                  obtain ⟨t151, A180, H⟩ := H
                  replace H : ((clepsydraref01_Bound.f kj9 a0 a1 a2).bind fun t152 => (some (t151 == t152))) = some r := H
                  have A18 := Aside0.mk A180
                  clear A180
                  replace H := Option.bind_eq_some_iff.mp H
                  obtain ⟨t152, A190, H⟩ := H
                  replace H : (some (t151 == t152)) = some r := H
                  have A19 := Aside0.mk A190
                  clear A190
                  obtain rfl := Option.some.inj H
                  go_wp2_with (first | ((with_reducible refine gate_callee (f := 19) rfl ?_); refine goesL_ (some 23) rfl rfl Try.func19 (by kernel_rfl) rfl #[.int .i64 a0] rfl (by (try simp only [List.map_toArray, List.map_cons, List.map_nil]); first | done | rfl | (simp only [List.length_drop, List.length_take]; rfl)) ?_; (with_reducible refine (sat_Clip.calls kj9 a0 t148 _ A12.out).mono ?_); rintro e w' ⟨rfl, ⟨nd, rfl⟩⟩; refine ⟨_, rfl, ?_⟩) | (go_at_call 20; (with_reducible refine (sat_Neg.calls kj9 a0 t149 _ A14.out).mono ?_); rintro e w' ⟨rfl, ⟨nd, rfl⟩⟩) | (go_at_call 22; (with_reducible refine (sat_Abs.calls kj9 a0 t150 _ A16.out).mono ?_); rintro e w' ⟨rfl, ⟨nd, rfl⟩⟩) | (go_at_call 18; (with_reducible refine (sat_Bound.calls kj9 a0 a1 a2 t151 _ A18.out).mono ?_); rintro e w' ⟨rfl, ⟨nd, rfl⟩⟩) | (go_at_call 23; (with_reducible refine (clepsydraref01_Bound.calls kj9 a0 a1 a2 t152 _ A19.out).mono ?_); rintro e w' ⟨rfl, ⟨nd, rfl⟩⟩))
                  go_ret
                  exact ⟨by first | rfl | (simp; done) | (simp [*]; done) | (simp [Int.tdiv_eq_ediv_of_nonneg]; done) | (simp [Go.RowKit.wrap64]; done) | (simp [*, Go.RowKit.wrap64]; done), by repeat (first | exact Drawn0.refl _ | apply Drawn0.step)⟩
                · rw [if_neg c17] at H
                  have c17b0 : (t150 == x8_9) = false := beq_eq_false_iff_ne.mpr c17
                  have c17b1 : (t150 != x8_9) = true := bne_iff_ne.mpr c17
                  exact absurd ((Option.some.inj H).trans hT.out) (by decide)
              · rw [if_neg c15] at H
                have c15b0 : (t149 == (wrap64 (-t147))) = false := beq_eq_false_iff_ne.mpr c15
                have c15b1 : (t149 != (wrap64 (-t147))) = true := bne_iff_ne.mpr c15
                exact absurd ((Option.some.inj H).trans hT.out) (by decide)
            · rw [if_neg c13] at H
              have c13b0 : (t148 == t147) = false := beq_eq_false_iff_ne.mpr c13
              have c13b1 : (t148 != t147) = true := bne_iff_ne.mpr c13
              exact absurd ((Option.some.inj H).trans hT.out) (by decide)

end Go.Proofs.Ytopaldkmgaflmaa.Q
