/- The calls of these Go functions answer what the Lean functions beside them answer; written by a program (wip/pr2.py, out of the print of the loaded program); under no condition but those that stand in the theorems. -/
import Derived.Test.YtidoeplhgckmaaaQx0
import Derived.Test.YtidoeplhgckmaaaQx1
namespace Go.Proofs.Ytidoeplhgckmaaa.Q
open Go.RowKit Go.Proofs.YtidoeplhgckmaaaW.PrintWords Go.Proofs.YtidoeplhgckmaaaW.PrintLast Go.Proofs.YtidoeplhgckmaaaW.PrintMore
attribute [local go_sem] max2_int min2_int max_two min_two max_three min_three max_four min_four   -- for this text's walks alone
set_option linter.unusedVariables false
set_option linter.unusedSimpArgs false

/-! ### clepsydralaw02_WideDivs: function 3 -/
def clepsydralaw02_WideDivs.j0 : Nat → Int → Int → Bool → Option (Bool)
  | 0, _, _, _ => none
  | k + 1, x0, x1, x19 => if x19 = true then (some false) else ((wide_Div.f k x0 x1).bind fun bt109 => ((clepsydraref02_Div.f x0 x1).bind fun bt111 => ((sat_Clip.f k x1).bind fun t113 => (if t113 < 1 then (if bt109.1 = bt111.1 then (if bt109.2 = bt111.2 then (if bt109.2 ≥ 0 then (if bt109.2 < 1 then ((sat_Clip.f k x0).bind fun t114 => (some ((wrap64 ((wrap64 (bt109.1 * 1)) + bt109.2)) == t114))) else (some false)) else (some false)) else (some false)) else (some false)) else (if bt109.1 = bt111.1 then (if bt109.2 = bt111.2 then (if bt109.2 ≥ 0 then (if bt109.2 < t113 then ((sat_Clip.f k x0).bind fun t115 => (some ((wrap64 ((wrap64 (bt109.1 * t113)) + bt109.2)) == t115))) else (some false)) else (some false)) else (some false)) else (some false))))))
def clepsydralaw02_WideDivs.f (k : Nat) (a0 : Int) (a1 : Int) : Option (Bool) := (wide_Div.f k (-7) 3).bind fun bt107 => (if bt107.1 = (-3) then (clepsydralaw02_WideDivs.j0 k a0 a1 (bt107.2 != 2)) else (clepsydralaw02_WideDivs.j0 k a0 a1 true))
theorem clepsydralaw02_WideDivs.mono_l : ∀ k, (∀ y0 y1 y2, LeO (clepsydralaw02_WideDivs.j0 k y0 y1 y2) (clepsydralaw02_WideDivs.j0 (k + 1) y0 y1 y2))
  | 0 => fun _ _ _ r h => by simp [clepsydralaw02_WideDivs.j0] at h
  | k + 1 => by
    have ih0 := clepsydralaw02_WideDivs.mono_l k
    · intro y0 y1 y2
      unfold clepsydralaw02_WideDivs.j0
      repeat' first
      | (with_reducible exact ih0 _ _ _)
      | (with_reducible exact sat_Clip.mono _ _)
      | (with_reducible exact wide_Div.mono _ _ _)
      | (with_reducible exact LeO.refl _)
      | (with_reducible exact LeO.none _)
      | (with_reducible refine LeO.ite ?_ ?_)
      | (with_reducible refine LeO.bind ?_ (fun _ => ?_))
      | exact ih0 _ _ _
      | exact sat_Clip.mono _ _
      | exact wide_Div.mono _ _ _
      | exact LeO.none _
      | refine LeO.ite ?_ ?_
      | refine LeO.bind ?_ (fun _ => ?_)
theorem clepsydralaw02_WideDivs.mono : ∀ a0 a1 k, LeO (clepsydralaw02_WideDivs.f k a0 a1) (clepsydralaw02_WideDivs.f (k + 1) a0 a1) := by
  intro a0 a1 k
  have ih0 := clepsydralaw02_WideDivs.mono_l k
  unfold clepsydralaw02_WideDivs.f
  repeat' first
      | (with_reducible exact ih0 _ _ _)
      | (with_reducible exact sat_Clip.mono _ _)
      | (with_reducible exact wide_Div.mono _ _ _)
      | (with_reducible exact LeO.refl _)
      | (with_reducible exact LeO.none _)
      | (with_reducible refine LeO.ite ?_ ?_)
      | (with_reducible refine LeO.bind ?_ (fun _ => ?_))
      | exact ih0 _ _ _
      | exact sat_Clip.mono _ _
      | exact wide_Div.mono _ _ _
      | exact LeO.none _
      | refine LeO.ite ?_ ?_
      | refine LeO.bind ?_ (fun _ => ?_)
set_option maxHeartbeats 8000000 in
set_option maxRecDepth 100000 in
theorem clepsydralaw02_WideDivs.calls (k : Nat) (a0 : Int) (a1 : Int) (r : Bool) (w : World) (hT : Aside0 (r = true)) (h : clepsydralaw02_WideDivs.f k a0 a1 = some r) :
    Calls Try.prog 3 #[.int .i64 a0, .int .i64 a1] w fun e w' => e = .returned (.bool r) ∧ Below w.heap.size w w' := by
  have HB := Aside0.mk (Below.refl w.heap.size w)
  have H : ((wide_Div.f k (-7) 3).bind fun bt107 => (if bt107.1 = (-3) then (clepsydralaw02_WideDivs.j0 k a0 a1 (bt107.2 != 2)) else (clepsydralaw02_WideDivs.j0 k a0 a1 true))) = some r := h
  clear h
  replace H := Option.bind_eq_some_iff.mp H
  obtain ⟨⟨t107, t108⟩, A30, H⟩ := H
  replace H : (if t107 = (-3) then (clepsydralaw02_WideDivs.j0 k a0 a1 (t108 != 2)) else (clepsydralaw02_WideDivs.j0 k a0 a1 true)) = some r := H
  have A3 := Aside0.mk A30
  clear A30
  have HC4 := Aside0.mk H
  clear H
  go_enter Try.func3, Try.ntmps3
  go_upto_region 2 with (first | ((with_reducible refine gate_callee (f := 9) rfl ?_); refine goesL_ (some 11) rfl rfl Try.func9 (by kernel_rfl) rfl #[.int .i64 (-7), .int .i64 3] rfl (by (try simp only [List.map_toArray, List.map_cons, List.map_nil]); first | done | rfl | (simp only [List.length_drop, List.length_take]; rfl)) ?_; (with_reducible refine (wide_Div.calls k (-7) 3 t107 t108 _ A3.out).mono ?_); rintro e w5 ⟨rfl, hb⟩; refine ⟨_, rfl, ?_⟩; have n0_ := Aside0.mk (below_step (by repeat (first | (with_reducible first | exact HB.out | apply below_alloc | apply pw_below_drewN | apply below_drew1) | exact HB.out)) hb); clear HB; have HB := n0_; clear n0_; (try clear hb); (try clear hb2); (try clear hk); (try clear hi)))
  (try simp only [Act.put, List.setIfInBounds_toArray, List.set_cons_zero, List.set_cons_succ])
  go_cut [19] (fun v19 wc => ∃ (kq : Nat) (x19_3 : Bool), v19 = .bool x19_3 ∧ Aside0 (clepsydralaw02_WideDivs.j0 kq a0 a1 x19_3 = some r) ∧ Aside0 (kq ≤ k) ∧ Aside0 (Below w.heap.size w wc))
  case first =>
    have H := HC4.out
    clear HC4
    by_cases c6 : t107 = (-3)
    · rw [if_pos c6] at H
      have c6b0 : (t107 == (-3)) = true := beq_iff_eq.mpr c6
      have c6b1 : (t107 != (-3)) = false := bne_eq_false_iff_eq.mpr c6
      clear c6
      (first | rw [c6b0] | (simp only [i64_w, i32_w]; rw [c6b0]) | skip)
      have H' := Aside0.mk H
      clear H
      go_wp2
      go_meet
      case rel => exact ⟨_, ((t108 != 2)), (by first | rfl | (simp; done) | (simp [*]; done) | (simp [Int.tdiv_eq_ediv_of_nonneg]; done) | (simp [Go.RowKit.wrap64]; done) | (simp [*, Go.RowKit.wrap64]; done)), H', ⟨by first | omega | exact Nat.le_refl _⟩, ⟨by repeat (first | (with_reducible first | exact HB.out | apply below_alloc | apply pw_below_drewN | apply below_drew1) | exact HB.out)⟩⟩
    · rw [if_neg c6] at H
      have c6b0 : (t107 == (-3)) = false := beq_eq_false_iff_ne.mpr c6
      have c6b1 : (t107 != (-3)) = true := bne_iff_ne.mpr c6
      (first | rw [c6b0] | (simp only [i64_w, i32_w]; rw [c6b0]) | skip)
      have H' := Aside0.mk H
      clear H
      go_wp2
      go_meet
      case rel => exact ⟨_, (true), (by first | rfl | (simp; done) | (simp [*]; done) | (simp [Int.tdiv_eq_ediv_of_nonneg]; done) | (simp [Go.RowKit.wrap64]; done) | (simp [*, Go.RowKit.wrap64]; done)), H', ⟨by first | omega | exact Nat.le_refl _⟩, ⟨by repeat (first | (with_reducible first | exact HB.out | apply below_alloc | apply pw_below_drewN | apply below_drew1) | exact HB.out)⟩⟩
  case rest =>
    clear HC4
    try clear p2
    try clear c3
    try clear c6
    try clear c6b0
    try clear c6b1
    obtain ⟨kq, x19_3, rfl, HA, HJ3, HB⟩ := hcut
    cases kq with
    | zero => exact absurd HA.out (by simp [clepsydralaw02_WideDivs.j0])
    | succ kj3 =>
      have H := HA.out
      clear HA
      simp only [clepsydralaw02_WideDivs.j0] at H
      by_cases c7 : x19_3 = true
      · subst c7
        have H1 : (some false) = some r := by rw [if_pos rfl] at H; exact H
        clear H
        have H := H1
        clear H1
        exact absurd ((Option.some.inj H).trans hT.out) (by decide)
      · replace c7 := Bool.eq_false_iff.mpr c7
        subst c7
        have H1 : ((wide_Div.f kj3 a0 a1).bind fun bt109 => ((clepsydraref02_Div.f a0 a1).bind fun bt111 => ((sat_Clip.f kj3 a1).bind fun t113 => (if t113 < 1 then (if bt109.1 = bt111.1 then (if bt109.2 = bt111.2 then (if bt109.2 ≥ 0 then (if bt109.2 < 1 then ((sat_Clip.f kj3 a0).bind fun t114 => (some ((wrap64 ((wrap64 (bt109.1 * 1)) + bt109.2)) == t114))) else (some false)) else (some false)) else (some false)) else (some false)) else (if bt109.1 = bt111.1 then (if bt109.2 = bt111.2 then (if bt109.2 ≥ 0 then (if bt109.2 < t113 then ((sat_Clip.f kj3 a0).bind fun t115 => (some ((wrap64 ((wrap64 (bt109.1 * t113)) + bt109.2)) == t115))) else (some false)) else (some false)) else (some false)) else (some false)))))) = some r := by rw [if_neg (show ¬ (false = true) by decide)] at H; exact H
        clear H
        have H := H1
        clear H1
        replace H := Option.bind_eq_some_iff.mp H
        obtain ⟨⟨t109, t110⟩, A80, H⟩ := H
        replace H : ((clepsydraref02_Div.f a0 a1).bind fun bt111 => ((sat_Clip.f kj3 a1).bind fun t113 => (if t113 < 1 then (if t109 = bt111.1 then (if t110 = bt111.2 then (if t110 ≥ 0 then (if t110 < 1 then ((sat_Clip.f kj3 a0).bind fun t114 => (some ((wrap64 ((wrap64 (t109 * 1)) + t110)) == t114))) else (some false)) else (some false)) else (some false)) else (some false)) else (if t109 = bt111.1 then (if t110 = bt111.2 then (if t110 ≥ 0 then (if t110 < t113 then ((sat_Clip.f kj3 a0).bind fun t115 => (some ((wrap64 ((wrap64 (t109 * t113)) + t110)) == t115))) else (some false)) else (some false)) else (some false)) else (some false))))) = some r := H
        have A8 := Aside0.mk A80
        clear A80
        replace H := Option.bind_eq_some_iff.mp H
        obtain ⟨⟨t111, t112⟩, A90, H⟩ := H
        replace H : ((sat_Clip.f kj3 a1).bind fun t113 => (if t113 < 1 then (if t109 = t111 then (if t110 = t112 then (if t110 ≥ 0 then (if t110 < 1 then ((sat_Clip.f kj3 a0).bind fun t114 => (some ((wrap64 ((wrap64 (t109 * 1)) + t110)) == t114))) else (some false)) else (some false)) else (some false)) else (some false)) else (if t109 = t111 then (if t110 = t112 then (if t110 ≥ 0 then (if t110 < t113 then ((sat_Clip.f kj3 a0).bind fun t115 => (some ((wrap64 ((wrap64 (t109 * t113)) + t110)) == t115))) else (some false)) else (some false)) else (some false)) else (some false)))) = some r := H
        have A9 := Aside0.mk A90
        clear A90
        replace H := Option.bind_eq_some_iff.mp H
        obtain ⟨t113, A100, H⟩ := H
        replace H : (if t113 < 1 then (if t109 = t111 then (if t110 = t112 then (if t110 ≥ 0 then (if t110 < 1 then ((sat_Clip.f kj3 a0).bind fun t114 => (some ((wrap64 ((wrap64 (t109 * 1)) + t110)) == t114))) else (some false)) else (some false)) else (some false)) else (some false)) else (if t109 = t111 then (if t110 = t112 then (if t110 ≥ 0 then (if t110 < t113 then ((sat_Clip.f kj3 a0).bind fun t115 => (some ((wrap64 ((wrap64 (t109 * t113)) + t110)) == t115))) else (some false)) else (some false)) else (some false)) else (some false))) = some r := H
        have A10 := Aside0.mk A100
        clear A100
        by_cases c11 : t113 < 1
        · rw [if_pos c11] at H
          have c11b0 : decide (t113 < 1) = true := decide_eq_true c11
          clear c11
          by_cases c12 : t109 = t111
          · rw [if_pos c12] at H
            have c12b0 : (t109 == t111) = true := beq_iff_eq.mpr c12
            have c12b1 : (t109 != t111) = false := bne_eq_false_iff_eq.mpr c12
            clear c12
            by_cases c13 : t110 = t112
            · rw [if_pos c13] at H
              have c13b0 : (t110 == t112) = true := beq_iff_eq.mpr c13
              have c13b1 : (t110 != t112) = false := bne_eq_false_iff_eq.mpr c13
              clear c13
              by_cases c14 : t110 ≥ 0
              · rw [if_pos c14] at H
                have c14b0 : decide (0 ≤ t110) = true := decide_eq_true c14
                clear c14
                by_cases c15 : t110 < 1
                · rw [if_pos c15] at H
                  have c15b0 : decide (t110 < 1) = true := decide_eq_true c15
                  clear c15
                  replace H := Option.bind_eq_some_iff.mp H
                  obtain ⟨t114, A160, H⟩ := H
                  replace H : (some ((wrap64 ((wrap64 (t109 * 1)) + t110)) == t114)) = some r := H
                  have A16 := Aside0.mk A160
                  clear A160
                  obtain rfl := Option.some.inj H
                  go_wp2_with (first | ((with_reducible refine gate_callee (f := 9) rfl ?_); refine goesL_ (some 23) rfl rfl Try.func9 (by kernel_rfl) rfl #[.int .i64 a0, .int .i64 a1] rfl (by (try simp only [List.map_toArray, List.map_cons, List.map_nil]); first | done | rfl | (simp only [List.length_drop, List.length_take]; rfl)) ?_; (with_reducible refine (wide_Div.calls kj3 a0 a1 t109 t110 _ A8.out).mono ?_); rintro e w17 ⟨rfl, hb⟩; refine ⟨_, rfl, ?_⟩; have n0_ := Aside0.mk (below_step (by repeat (first | (with_reducible first | exact HB.out | apply below_alloc | apply pw_below_drewN | apply below_drew1) | exact HB.out)) hb); clear HB; have HB := n0_; clear n0_; (try clear hb); (try clear hb2); (try clear hk); (try clear hi)) | ((with_reducible refine gate_callee (f := 10) rfl ?_); refine goesL_ (some 29) rfl rfl Try.func10 (by kernel_rfl) rfl #[.int .i64 a0, .int .i64 a1] rfl (by (try simp only [List.map_toArray, List.map_cons, List.map_nil]); first | done | rfl | (simp only [List.length_drop, List.length_take]; rfl)) ?_; (with_reducible refine (clepsydraref02_Div.calls a0 a1 t111 t112 _ A9.out).mono ?_); rintro e w' ⟨rfl, ⟨nd, rfl⟩⟩; refine ⟨_, rfl, ?_⟩) | ((with_reducible refine gate_callee (f := 11) rfl ?_); refine goesL_ (some 33) rfl rfl Try.func11 (by kernel_rfl) rfl #[.int .i64 a1] rfl (by (try simp only [List.map_toArray, List.map_cons, List.map_nil]); first | done | rfl | (simp only [List.length_drop, List.length_take]; rfl)) ?_; (with_reducible refine (sat_Clip.calls kj3 a1 t113 _ A10.out).mono ?_); rintro e w' ⟨rfl, ⟨nd, rfl⟩⟩; refine ⟨_, rfl, ?_⟩) | (go_at_call 11; (with_reducible refine (sat_Clip.calls kj3 a0 t114 _ A16.out).mono ?_); rintro e w' ⟨rfl, ⟨nd, rfl⟩⟩))
                  go_ret
                  exact ⟨by first | rfl | (simp [errW_none, errW_some] <;> rfl) | (simp [*, errW_none, errW_some] <;> rfl), by repeat (first | (with_reducible first | exact HB.out | apply below_alloc | apply pw_below_drewN | apply below_drew1) | exact HB.out)⟩
                · rw [if_neg c15] at H
                  have c15b0 : decide (t110 < 1) = false := decide_eq_false c15
                  clear c15
                  exact absurd ((Option.some.inj H).trans hT.out) (by decide)
              · rw [if_neg c14] at H
                have c14b0 : decide (0 ≤ t110) = false := decide_eq_false c14
                clear c14
                exact absurd ((Option.some.inj H).trans hT.out) (by decide)
            · rw [if_neg c13] at H
              have c13b0 : (t110 == t112) = false := beq_eq_false_iff_ne.mpr c13
              have c13b1 : (t110 != t112) = true := bne_iff_ne.mpr c13
              exact absurd ((Option.some.inj H).trans hT.out) (by decide)
          · rw [if_neg c12] at H
            have c12b0 : (t109 == t111) = false := beq_eq_false_iff_ne.mpr c12
            have c12b1 : (t109 != t111) = true := bne_iff_ne.mpr c12
            exact absurd ((Option.some.inj H).trans hT.out) (by decide)
        · rw [if_neg c11] at H
          have c11b0 : decide (t113 < 1) = false := decide_eq_false c11
          clear c11
          by_cases c18 : t109 = t111
          · rw [if_pos c18] at H
            have c18b0 : (t109 == t111) = true := beq_iff_eq.mpr c18
            have c18b1 : (t109 != t111) = false := bne_eq_false_iff_eq.mpr c18
            clear c18
            by_cases c19 : t110 = t112
            · rw [if_pos c19] at H
              have c19b0 : (t110 == t112) = true := beq_iff_eq.mpr c19
              have c19b1 : (t110 != t112) = false := bne_eq_false_iff_eq.mpr c19
              clear c19
              by_cases c20 : t110 ≥ 0
              · rw [if_pos c20] at H
                have c20b0 : decide (0 ≤ t110) = true := decide_eq_true c20
                clear c20
                by_cases c21 : t110 < t113
                · rw [if_pos c21] at H
                  have c21b0 : decide (t110 < t113) = true := decide_eq_true c21
                  clear c21
                  replace H := Option.bind_eq_some_iff.mp H
                  obtain ⟨t115, A220, H⟩ := H
                  replace H : (some ((wrap64 ((wrap64 (t109 * t113)) + t110)) == t115)) = some r := H
                  have A22 := Aside0.mk A220
                  clear A220
                  obtain rfl := Option.some.inj H
                  go_wp2_with (first | ((with_reducible refine gate_callee (f := 9) rfl ?_); refine goesL_ (some 23) rfl rfl Try.func9 (by kernel_rfl) rfl #[.int .i64 a0, .int .i64 a1] rfl (by (try simp only [List.map_toArray, List.map_cons, List.map_nil]); first | done | rfl | (simp only [List.length_drop, List.length_take]; rfl)) ?_; (with_reducible refine (wide_Div.calls kj3 a0 a1 t109 t110 _ A8.out).mono ?_); rintro e w23 ⟨rfl, hb⟩; refine ⟨_, rfl, ?_⟩; have n0_ := Aside0.mk (below_step (by repeat (first | (with_reducible first | exact HB.out | apply below_alloc | apply pw_below_drewN | apply below_drew1) | exact HB.out)) hb); clear HB; have HB := n0_; clear n0_; (try clear hb); (try clear hb2); (try clear hk); (try clear hi)) | ((with_reducible refine gate_callee (f := 10) rfl ?_); refine goesL_ (some 29) rfl rfl Try.func10 (by kernel_rfl) rfl #[.int .i64 a0, .int .i64 a1] rfl (by (try simp only [List.map_toArray, List.map_cons, List.map_nil]); first | done | rfl | (simp only [List.length_drop, List.length_take]; rfl)) ?_; (with_reducible refine (clepsydraref02_Div.calls a0 a1 t111 t112 _ A9.out).mono ?_); rintro e w' ⟨rfl, ⟨nd, rfl⟩⟩; refine ⟨_, rfl, ?_⟩) | ((with_reducible refine gate_callee (f := 11) rfl ?_); refine goesL_ (some 33) rfl rfl Try.func11 (by kernel_rfl) rfl #[.int .i64 a1] rfl (by (try simp only [List.map_toArray, List.map_cons, List.map_nil]); first | done | rfl | (simp only [List.length_drop, List.length_take]; rfl)) ?_; (with_reducible refine (sat_Clip.calls kj3 a1 t113 _ A10.out).mono ?_); rintro e w' ⟨rfl, ⟨nd, rfl⟩⟩; refine ⟨_, rfl, ?_⟩) | (go_at_call 11; (with_reducible refine (sat_Clip.calls kj3 a0 t115 _ A22.out).mono ?_); rintro e w' ⟨rfl, ⟨nd, rfl⟩⟩))
                  go_ret
                  exact ⟨by first | rfl | (simp [errW_none, errW_some] <;> rfl) | (simp [*, errW_none, errW_some] <;> rfl), by repeat (first | (with_reducible first | exact HB.out | apply below_alloc | apply pw_below_drewN | apply below_drew1) | exact HB.out)⟩
                · rw [if_neg c21] at H
                  have c21b0 : decide (t110 < t113) = false := decide_eq_false c21
                  clear c21
                  exact absurd ((Option.some.inj H).trans hT.out) (by decide)
              · rw [if_neg c20] at H
                have c20b0 : decide (0 ≤ t110) = false := decide_eq_false c20
                clear c20
                exact absurd ((Option.some.inj H).trans hT.out) (by decide)
            · rw [if_neg c19] at H
              have c19b0 : (t110 == t112) = false := beq_eq_false_iff_ne.mpr c19
              have c19b1 : (t110 != t112) = true := bne_iff_ne.mpr c19
              exact absurd ((Option.some.inj H).trans hT.out) (by decide)
          · rw [if_neg c18] at H
            have c18b0 : (t109 == t111) = false := beq_eq_false_iff_ne.mpr c18
            have c18b1 : (t109 != t111) = true := bne_iff_ne.mpr c18
            exact absurd ((Option.some.inj H).trans hT.out) (by decide)

end Go.Proofs.Ytidoeplhgckmaaa.Q
