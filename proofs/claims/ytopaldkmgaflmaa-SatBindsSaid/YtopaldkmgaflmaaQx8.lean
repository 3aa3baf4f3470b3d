/- The calls of these Go functions answer what the Lean functions beside them answer; written by a program (wip/pr2.py, out of the print of the loaded program); under no condition but those that stand in the theorems. -/
import Derived.Test.YtopaldkmgaflmaaQx0
import Derived.Test.YtopaldkmgaflmaaQx7
namespace Go.Proofs.Ytopaldkmgaflmaa.Q
open Go.RowKit Go.Proofs.YtopaldkmgaflmaaW.PrintWords Go.Proofs.YtopaldkmgaflmaaW.PrintLast Go.Proofs.YtopaldkmgaflmaaW.PrintMore
attribute [local go_sem] max2_int min2_int max_two min_two max_three min_three max_four min_four   -- for this text's walks alone
set_option linter.unusedVariables false
set_option linter.unusedSimpArgs false

/-! ### clepsydralaw01_SatBinds: function 4 -/
def clepsydralaw01_SatBinds.f (k : Nat) (a0 : Int) (a1 : Int) (a2 : Int) : Option (Bool) := (sat_Bound.f k 9 1 5).bind fun t134 => (if t134 = 5 then ((sat_Bound.f k a0 a1 a2).bind fun t135 => ((sat_Bound.f k t135 a1 a2).bind fun t136 => (if t136 = t135 then ((sat_Clip.f k a0).bind fun t137 => ((sat_Bound.f k a0 (-2305843009213693952) 2305843009213693952).bind fun t138 => (if t137 = t138 then ((sat_Clip.f k a0).bind fun t139 => ((sat_Clip.f k t139).bind fun t140 => ((sat_Clip.f k a0).bind fun t141 => (if t140 = t141 then (if a1 > a2 then (if t135 = a1 then (some true) else (if a1 ≤ t135 then (some (decide (t135 ≤ a2))) else (some false))) else (if a1 ≤ t135 then (some (decide (t135 ≤ a2))) else (some false))) else (some false))))) else (some false)))) else (some false)))) else (some false))
theorem clepsydralaw01_SatBinds.mono : ∀ a0 a1 a2 k, LeO (clepsydralaw01_SatBinds.f k a0 a1 a2) (clepsydralaw01_SatBinds.f (k + 1) a0 a1 a2) := by
  intro a0 a1 a2 k
  unfold clepsydralaw01_SatBinds.f
  repeat' first
      | (with_reducible exact sat_Bound.mono _ _ _ _)
      | (with_reducible exact sat_Clip.mono _ _)
      | (with_reducible exact LeO.refl _)
      | (with_reducible exact LeO.none _)
      | (with_reducible refine LeO.ite ?_ ?_)
      | (with_reducible refine LeO.bind ?_ (fun _ => ?_))
      | exact sat_Bound.mono _ _ _ _
      | exact sat_Clip.mono _ _
      | exact LeO.none _
      | refine LeO.ite ?_ ?_
      | refine LeO.bind ?_ (fun _ => ?_)
set_option maxHeartbeats 8000000 in
set_option maxRecDepth 100000 in
theorem clepsydralaw01_SatBinds.calls (k : Nat) (a0 : Int) (a1 : Int) (a2 : Int) (r : Bool) (w : World) (hT : Aside0 (r = true)) (h : clepsydralaw01_SatBinds.f k a0 a1 a2 = some r) :
    Calls Try.prog 4 #[.int .i64 a0, .int .i64 a1, .int .i64 a2] w fun e w' => e = .returned (.bool r) ∧ Drawn0 w w' := by
  have H : ((sat_Bound.f k 9 1 5).bind fun t134 => (if t134 = 5 then ((sat_Bound.f k a0 a1 a2).bind fun t135 => ((sat_Bound.f k t135 a1 a2).bind fun t136 => (if t136 = t135 then ((sat_Clip.f k a0).bind fun t137 => ((sat_Bound.f k a0 (-2305843009213693952) 2305843009213693952).bind fun t138 => (if t137 = t138 then ((sat_Clip.f k a0).bind fun t139 => ((sat_Clip.f k t139).bind fun t140 => ((sat_Clip.f k a0).bind fun t141 => (if t140 = t141 then (if a1 > a2 then (if t135 = a1 then (some true) else (if a1 ≤ t135 then (some (decide (t135 ≤ a2))) else (some false))) else (if a1 ≤ t135 then (some (decide (t135 ≤ a2))) else (some false))) else (some false))))) else (some false)))) else (some false)))) else (some false))) = some r := h
  clear h
  replace H := Option.bind_eq_some_iff.mp H
  obtain ⟨t134, A40, H⟩ := H
  replace H : (if t134 = 5 then ((sat_Bound.f k a0 a1 a2).bind fun t135 => ((sat_Bound.f k t135 a1 a2).bind fun t136 => (if t136 = t135 then ((sat_Clip.f k a0).bind fun t137 => ((sat_Bound.f k a0 (-2305843009213693952) 2305843009213693952).bind fun t138 => (if t137 = t138 then ((sat_Clip.f k a0).bind fun t139 => ((sat_Clip.f k t139).bind fun t140 => ((sat_Clip.f k a0).bind fun t141 => (if t140 = t141 then (if a1 > a2 then (if t135 = a1 then (some true) else (if a1 ≤ t135 then (some (decide (t135 ≤ a2))) else (some false))) else (if a1 ≤ t135 then (some (decide (t135 ≤ a2))) else (some false))) else (some false))))) else (some false)))) else (some false)))) else (some false)) = some r := H
  have A4 := Aside0.mk A40
  clear A40
  by_cases c5 : t134 = 5
  · rw [if_pos c5] at H
    have c5b0 : (t134 == 5) = true := beq_iff_eq.mpr c5
    have c5b1 : (t134 != 5) = false := bne_eq_false_iff_eq.mpr c5
    clear c5
    replace H := Option.bind_eq_some_iff.mp H
    obtain ⟨t135, A60, H⟩ := H
    replace H : ((sat_Bound.f k t135 a1 a2).bind fun t136 => (if t136 = t135 then ((sat_Clip.f k a0).bind fun t137 => ((sat_Bound.f k a0 (-2305843009213693952) 2305843009213693952).bind fun t138 => (if t137 = t138 then ((sat_Clip.f k a0).bind fun t139 => ((sat_Clip.f k t139).bind fun t140 => ((sat_Clip.f k a0).bind fun t141 => (if t140 = t141 then (if a1 > a2 then (if t135 = a1 then (some true) else (if a1 ≤ t135 then (some (decide (t135 ≤ a2))) else (some false))) else (if a1 ≤ t135 then (some (decide (t135 ≤ a2))) else (some false))) else (some false))))) else (some false)))) else (some false))) = some r := H
    have A6 := Aside0.mk A60
    clear A60
    replace H := Option.bind_eq_some_iff.mp H
    obtain ⟨t136, A70, H⟩ := H
    replace H : (if t136 = t135 then ((sat_Clip.f k a0).bind fun t137 => ((sat_Bound.f k a0 (-2305843009213693952) 2305843009213693952).bind fun t138 => (if t137 = t138 then ((sat_Clip.f k a0).bind fun t139 => ((sat_Clip.f k t139).bind fun t140 => ((sat_Clip.f k a0).bind fun t141 => (if t140 = t141 then (if a1 > a2 then (if t135 = a1 then (some true) else (if a1 ≤ t135 then (some (decide (t135 ≤ a2))) else (some false))) else (if a1 ≤ t135 then (some (decide (t135 ≤ a2))) else (some false))) else (some false))))) else (some false)))) else (some false)) = some r := H
    have A7 := Aside0.mk A70
    clear A70
    by_cases c8 : t136 = t135
    · rw [if_pos c8] at H
      have c8b0 : (t136 == t135) = true := beq_iff_eq.mpr c8
      have c8b1 : (t136 != t135) = false := bne_eq_false_iff_eq.mpr c8
      clear c8
      replace H := Option.bind_eq_some_iff.mp H
      obtain ⟨t137, A90, H⟩ := H
      replace H : ((sat_Bound.f k a0 (-2305843009213693952) 2305843009213693952).bind fun t138 => (if t137 = t138 then ((sat_Clip.f k a0).bind fun t139 => ((sat_Clip.f k t139).bind fun t140 => ((sat_Clip.f k a0).bind fun t141 => (if t140 = t141 then (if a1 > a2 then (if t135 = a1 then (some true) else (if a1 ≤ t135 then (some (decide (t135 ≤ a2))) else (some false))) else (if a1 ≤ t135 then (some (decide (t135 ≤ a2))) else (some false))) else (some false))))) else (some false))) = some r := H
      have A9 := Aside0.mk A90
      clear A90
      replace H := Option.bind_eq_some_iff.mp H
      obtain ⟨t138, A100, H⟩ := H
      replace H : (if t137 = t138 then ((sat_Clip.f k a0).bind fun t139 => ((sat_Clip.f k t139).bind fun t140 => ((sat_Clip.f k a0).bind fun t141 => (if t140 = t141 then (if a1 > a2 then (if t135 = a1 then (some true) else (if a1 ≤ t135 then (some (decide (t135 ≤ a2))) else (some false))) else (if a1 ≤ t135 then (some (decide (t135 ≤ a2))) else (some false))) else (some false))))) else (some false)) = some r := H
      have A10 := Aside0.mk A100
      clear A100
      by_cases c11 : t137 = t138
      · rw [if_pos c11] at H
        have c11b0 : (t137 == t138) = true := beq_iff_eq.mpr c11
        have c11b1 : (t137 != t138) = false := bne_eq_false_iff_eq.mpr c11
        clear c11
        replace H := Option.bind_eq_some_iff.mp H
        obtain ⟨t139, A120, H⟩ := H
        replace H : ((sat_Clip.f k t139).bind fun t140 => ((sat_Clip.f k a0).bind fun t141 => (if t140 = t141 then (if a1 > a2 then (if t135 = a1 then (some true) else (if a1 ≤ t135 then (some (decide (t135 ≤ a2))) else (some false))) else (if a1 ≤ t135 then (some (decide (t135 ≤ a2))) else (some false))) else (some false)))) = some r := H
        have A12 := Aside0.mk A120
        clear A120
        obtain rfl : t137 = t139 := Option.some.inj (A9.out.symm.trans A12.out)
        replace H := Option.bind_eq_some_iff.mp H
        obtain ⟨t140, A130, H⟩ := H
        replace H : ((sat_Clip.f k a0).bind fun t141 => (if t140 = t141 then (if a1 > a2 then (if t135 = a1 then (some true) else (if a1 ≤ t135 then (some (decide (t135 ≤ a2))) else (some false))) else (if a1 ≤ t135 then (some (decide (t135 ≤ a2))) else (some false))) else (some false))) = some r := H
        have A13 := Aside0.mk A130
        clear A130
        replace H := Option.bind_eq_some_iff.mp H
        obtain ⟨t141, A140, H⟩ := H
        replace H : (if t140 = t141 then (if a1 > a2 then (if t135 = a1 then (some true) else (if a1 ≤ t135 then (some (decide (t135 ≤ a2))) else (some false))) else (if a1 ≤ t135 then (some (decide (t135 ≤ a2))) else (some false))) else (some false)) = some r := H
        have A14 := Aside0.mk A140
        clear A140
        obtain rfl : t137 = t141 := Option.some.inj (A9.out.symm.trans A14.out)
        by_cases c15 : t140 = t137
        · rw [if_pos c15] at H
          have c15b0 : (t140 == t137) = true := beq_iff_eq.mpr c15
          have c15b1 : (t140 != t137) = false := bne_eq_false_iff_eq.mpr c15
          clear c15
          by_cases c16 : a1 > a2
          · rw [if_pos c16] at H
            have c16b0 : decide (a2 < a1) = true := decide_eq_true c16
            clear c16
            by_cases c17 : t135 = a1
            · rw [if_pos c17] at H
              have c17b0 : (t135 == a1) = true := beq_iff_eq.mpr c17
              have c17b1 : (t135 != a1) = false := bne_eq_false_iff_eq.mpr c17
              clear c17
              obtain rfl := Option.some.inj H
              go_enter Try.func4, Try.ntmps4
              go_wp2_with (first | ((with_reducible refine gate_callee (f := 18) rfl ?_); refine goesL_ (some 8) rfl rfl Try.func18 (by kernel_rfl) rfl #[.int .i64 9, .int .i64 1, .int .i64 5] rfl (by (try simp only [List.map_toArray, List.map_cons, List.map_nil]); first | done | rfl | (simp only [List.length_drop, List.length_take]; rfl)) ?_; (with_reducible refine (sat_Bound.calls k 9 1 5 t134 _ A4.out).mono ?_); rintro e w' ⟨rfl, ⟨nd, rfl⟩⟩; refine ⟨_, rfl, ?_⟩) | ((with_reducible refine gate_callee (f := 18) rfl ?_); refine goesL_ (some 13) rfl rfl Try.func18 (by kernel_rfl) rfl #[.int .i64 a0, .int .i64 a1, .int .i64 a2] rfl (by (try simp only [List.map_toArray, List.map_cons, List.map_nil]); first | done | rfl | (simp only [List.length_drop, List.length_take]; rfl)) ?_; (with_reducible refine (sat_Bound.calls k a0 a1 a2 t135 _ A6.out).mono ?_); rintro e w' ⟨rfl, ⟨nd, rfl⟩⟩; refine ⟨_, rfl, ?_⟩) | ((with_reducible refine gate_callee (f := 18) rfl ?_); refine goesL_ (some 17) rfl rfl Try.func18 (by kernel_rfl) rfl #[.int .i64 t135, .int .i64 a1, .int .i64 a2] rfl (by (try simp only [List.map_toArray, List.map_cons, List.map_nil]); first | done | rfl | (simp only [List.length_drop, List.length_take]; rfl)) ?_; (with_reducible refine (sat_Bound.calls k t135 a1 a2 t136 _ A7.out).mono ?_); rintro e w' ⟨rfl, ⟨nd, rfl⟩⟩; refine ⟨_, rfl, ?_⟩) | (go_at_call 19; (with_reducible refine (sat_Clip.calls k a0 t137 _ A9.out).mono ?_); rintro e w' ⟨rfl, ⟨nd, rfl⟩⟩) | (go_at_call 18; (with_reducible refine (sat_Bound.calls k a0 (-2305843009213693952) 2305843009213693952 t138 _ A10.out).mono ?_); rintro e w' ⟨rfl, ⟨nd, rfl⟩⟩) | (go_at_call 19; (with_reducible refine (sat_Clip.calls k a0 t137 _ A12.out).mono ?_); rintro e w' ⟨rfl, ⟨nd, rfl⟩⟩) | (go_at_call 19; (with_reducible refine (sat_Clip.calls k t137 t140 _ A13.out).mono ?_); rintro e w' ⟨rfl, ⟨nd, rfl⟩⟩) | (go_at_call 19; (with_reducible refine (sat_Clip.calls k a0 t137 _ A14.out).mono ?_); rintro e w' ⟨rfl, ⟨nd, rfl⟩⟩))
              go_ret
              exact ⟨by first | rfl | (simp; done) | (simp [*]; done) | (simp [Int.tdiv_eq_ediv_of_nonneg]; done) | (simp [Go.RowKit.wrap64]; done) | (simp [*, Go.RowKit.wrap64]; done), by repeat (first | exact Drawn0.refl _ | apply Drawn0.step)⟩
            · rw [if_neg c17] at H
              have c17b0 : (t135 == a1) = false := beq_eq_false_iff_ne.mpr c17
              have c17b1 : (t135 != a1) = true := bne_iff_ne.mpr c17
              by_cases c18 : a1 ≤ t135
              · rw [if_pos c18] at H
                have c18b0 : decide (a1 ≤ t135) = true := decide_eq_true c18
                clear c18
                obtain rfl := Option.some.inj H
                go_enter Try.func4, Try.ntmps4
                go_wp2_with (first | ((with_reducible refine gate_callee (f := 18) rfl ?_); refine goesL_ (some 8) rfl rfl Try.func18 (by kernel_rfl) rfl #[.int .i64 9, .int .i64 1, .int .i64 5] rfl (by (try simp only [List.map_toArray, List.map_cons, List.map_nil]); first | done | rfl | (simp only [List.length_drop, List.length_take]; rfl)) ?_; (with_reducible refine (sat_Bound.calls k 9 1 5 t134 _ A4.out).mono ?_); rintro e w' ⟨rfl, ⟨nd, rfl⟩⟩; refine ⟨_, rfl, ?_⟩) | ((with_reducible refine gate_callee (f := 18) rfl ?_); refine goesL_ (some 13) rfl rfl Try.func18 (by kernel_rfl) rfl #[.int .i64 a0, .int .i64 a1, .int .i64 a2] rfl (by (try simp only [List.map_toArray, List.map_cons, List.map_nil]); first | done | rfl | (simp only [List.length_drop, List.length_take]; rfl)) ?_; (with_reducible refine (sat_Bound.calls k a0 a1 a2 t135 _ A6.out).mono ?_); rintro e w' ⟨rfl, ⟨nd, rfl⟩⟩; refine ⟨_, rfl, ?_⟩) | ((with_reducible refine gate_callee (f := 18) rfl ?_); refine goesL_ (some 17) rfl rfl Try.func18 (by kernel_rfl) rfl #[.int .i64 t135, .int .i64 a1, .int .i64 a2] rfl (by (try simp only [List.map_toArray, List.map_cons, List.map_nil]); first | done | rfl | (simp only [List.length_drop, List.length_take]; rfl)) ?_; (with_reducible refine (sat_Bound.calls k t135 a1 a2 t136 _ A7.out).mono ?_); rintro e w' ⟨rfl, ⟨nd, rfl⟩⟩; refine ⟨_, rfl, ?_⟩) | (go_at_call 19; (with_reducible refine (sat_Clip.calls k a0 t137 _ A9.out).mono ?_); rintro e w' ⟨rfl, ⟨nd, rfl⟩⟩) | (go_at_call 18; (with_reducible refine (sat_Bound.calls k a0 (-2305843009213693952) 2305843009213693952 t138 _ A10.out).mono ?_); rintro e w' ⟨rfl, ⟨nd, rfl⟩⟩) | (go_at_call 19; (with_reducible refine (sat_Clip.calls k a0 t137 _ A12.out).mono ?_); rintro e w' ⟨rfl, ⟨nd, rfl⟩⟩) | (go_at_call 19; (with_reducible refine (sat_Clip.calls k t137 t140 _ A13.out).mono ?_); rintro e w' ⟨rfl, ⟨nd, rfl⟩⟩) | (go_at_call 19; (with_reducible refine (sat_Clip.calls k a0 t137 _ A14.out).mono ?_); rintro e w' ⟨rfl, ⟨nd, rfl⟩⟩))
                go_ret
                exact ⟨by first | rfl | (simp; done) | (simp [*]; done) | (simp [Int.tdiv_eq_ediv_of_nonneg]; done) | (simp [Go.RowKit.wrap64]; done) | (simp [*, Go.RowKit.wrap64]; done), by repeat (first | exact Drawn0.refl _ | apply Drawn0.step)⟩
              · rw [if_neg c18] at H
                have c18b0 : decide (a1 ≤ t135) = false := decide_eq_false c18
                clear c18
                exact absurd ((Option.some.inj H).trans hT.out) (by decide)
          · rw [if_neg c16] at H
            have c16b0 : decide (a2 < a1) = false := decide_eq_false c16
            clear c16
            by_cases c19 : a1 ≤ t135
            · rw [if_pos c19] at H
              have c19b0 : decide (a1 ≤ t135) = true := decide_eq_true c19
              clear c19
              obtain rfl := Option.some.inj H
              go_enter Try.func4, Try.ntmps4
              go_wp2_with (first | ((with_reducible refine gate_callee (f := 18) rfl ?_); refine goesL_ (some 8) rfl rfl Try.func18 (by kernel_rfl) rfl #[.int .i64 9, .int .i64 1, .int .i64 5] rfl (by (try simp only [List.map_toArray, List.map_cons, List.map_nil]); first | done | rfl | (simp only [List.length_drop, List.length_take]; rfl)) ?_; (with_reducible refine (sat_Bound.calls k 9 1 5 t134 _ A4.out).mono ?_); rintro e w' ⟨rfl, ⟨nd, rfl⟩⟩; refine ⟨_, rfl, ?_⟩) | ((with_reducible refine gate_callee (f := 18) rfl ?_); refine goesL_ (some 13) rfl rfl Try.func18 (by kernel_rfl) rfl #[.int .i64 a0, .int .i64 a1, .int .i64 a2] rfl (by (try simp only [List.map_toArray, List.map_cons, List.map_nil]); first | done | rfl | (simp only [List.length_drop, List.length_take]; rfl)) ?_; (with_reducible refine (sat_Bound.calls k a0 a1 a2 t135 _ A6.out).mono ?_); rintro e w' ⟨rfl, ⟨nd, rfl⟩⟩; refine ⟨_, rfl, ?_⟩) | ((with_reducible refine gate_callee (f := 18) rfl ?_); refine goesL_ (some 17) rfl rfl Try.func18 (by kernel_rfl) rfl #[.int .i64 t135, .int .i64 a1, .int .i64 a2] rfl (by (try simp only [List.map_toArray, List.map_cons, List.map_nil]); first | done | rfl | (simp only [List.length_drop, List.length_take]; rfl)) ?_; (with_reducible refine (sat_Bound.calls k t135 a1 a2 t136 _ A7.out).mono ?_); rintro e w' ⟨rfl, ⟨nd, rfl⟩⟩; refine ⟨_, rfl, ?_⟩) | (go_at_call 19; (with_reducible refine (sat_Clip.calls k a0 t137 _ A9.out).mono ?_); rintro e w' ⟨rfl, ⟨nd, rfl⟩⟩) | (go_at_call 18; (with_reducible refine (sat_Bound.calls k a0 (-2305843009213693952) 2305843009213693952 t138 _ A10.out).mono ?_); rintro e w' ⟨rfl, ⟨nd, rfl⟩⟩) | (go_at_call 19; (with_reducible refine (sat_Clip.calls k a0 t137 _ A12.out).mono ?_); rintro e w' ⟨rfl, ⟨nd, rfl⟩⟩) | (go_at_call 19; (with_reducible refine (sat_Clip.calls k t137 t140 _ A13.out).mono ?_); rintro e w' ⟨rfl, ⟨nd, rfl⟩⟩) | (go_at_call 19; (with_reducible refine (sat_Clip.calls k a0 t137 _ A14.out).mono ?_); rintro e w' ⟨rfl, ⟨nd, rfl⟩⟩))
              go_ret
              exact ⟨by first | rfl | (simp; done) | (simp [*]; done) | (simp [Int.tdiv_eq_ediv_of_nonneg]; done) | (simp [Go.RowKit.wrap64]; done) | (simp [*, Go.RowKit.wrap64]; done), by repeat (first | exact Drawn0.refl _ | apply Drawn0.step)⟩
            · rw [if_neg c19] at H
              have c19b0 : decide (a1 ≤ t135) = false := decide_eq_false c19
              clear c19
              exact absurd ((Option.some.inj H).trans hT.out) (by decide)
        · rw [if_neg c15] at H
          have c15b0 : (t140 == t137) = false := beq_eq_false_iff_ne.mpr c15
          have c15b1 : (t140 != t137) = true := bne_iff_ne.mpr c15
          exact absurd ((Option.some.inj H).trans hT.out) (by decide)
      · rw [if_neg c11] at H
        have c11b0 : (t137 == t138) = false := beq_eq_false_iff_ne.mpr c11
        have c11b1 : (t137 != t138) = true := bne_iff_ne.mpr c11
        exact absurd ((Option.some.inj H).trans hT.out) (by decide)
    · rw [if_neg c8] at H
      have c8b0 : (t136 == t135) = false := beq_eq_false_iff_ne.mpr c8
      have c8b1 : (t136 != t135) = true := bne_iff_ne.mpr c8
      exact absurd ((Option.some.inj H).trans hT.out) (by decide)
  · rw [if_neg c5] at H
    have c5b0 : (t134 == 5) = false := beq_eq_false_iff_ne.mpr c5
    have c5b1 : (t134 != 5) = true := bne_iff_ne.mpr c5
    exact absurd ((Option.some.inj H).trans hT.out) (by decide)

end Go.Proofs.Ytopaldkmgaflmaa.Q
