/- The calls of these Go functions answer what the Lean functions beside them answer; written by a program (wip/pr2.py, out of the print of the loaded program); under no condition but those that stand in the theorems. -/
import Derived.Test.YtidoeplhgckmaaaQx0
import Derived.Test.YtidoeplhgckmaaaQx1
import Derived.Test.YtidoeplhgckmaaaQx5
import Derived.Test.YtidoeplhgckmaaaQx7
namespace Go.Proofs.Ytidoeplhgckmaaa.Q
open Go.RowKit Go.Proofs.YtidoeplhgckmaaaW.PrintWords Go.Proofs.YtidoeplhgckmaaaW.PrintLast Go.Proofs.YtidoeplhgckmaaaW.PrintMore
attribute [local go_sem] max2_int min2_int max_two min_two max_three min_three max_four min_four   -- for this text's walks alone
set_option linter.unusedVariables false
set_option linter.unusedSimpArgs false

/-! ### clepsydralaw02_WideRounds: function 6 -/
def clepsydralaw02_WideRounds.j0 : Nat → Int → Int → Bool → Option (Bool)
  | 0, _, _, _ => none
  | k + 1, x0, x1, x35 => if x35 = true then (some false) else (if x1 < 1 then (some true) else ((wide_MulDiv.f k x0 x1 x1).bind fun t150 => ((sat_Clip.f k x0).bind fun t151 => (if t150 = t151 then ((wide_MulUp.f k x0 x1 x1).bind fun t152 => ((sat_Clip.f k x0).bind fun t153 => (some (t152 == t153)))) else (some false)))))
def clepsydralaw02_WideRounds.f (k : Nat) (a0 : Int) (a1 : Int) (a2 : Int) : Option (Bool) := (wide_MulDiv.f k 7 5 3).bind fun t147 => (if t147 = 11 then ((wide_MulDiv.f k a0 a1 a2).bind fun t148 => ((wide_MulUp.f k a0 a1 a2).bind fun t149 => (if t149 < t148 then (clepsydralaw02_WideRounds.j0 k a0 a1 true) else (if (wrap64 (t149 - t148)) > 1 then (clepsydralaw02_WideRounds.j0 k a0 a1 true) else (if t148 > 2305843009213693952 then (clepsydralaw02_WideRounds.j0 k a0 a1 true) else (clepsydralaw02_WideRounds.j0 k a0 a1 (decide (t149 < (-2305843009213693952))))))))) else (some false))
theorem clepsydralaw02_WideRounds.mono_l : ∀ k, (∀ y0 y1 y2, LeO (clepsydralaw02_WideRounds.j0 k y0 y1 y2) (clepsydralaw02_WideRounds.j0 (k + 1) y0 y1 y2))
  | 0 => fun _ _ _ r h => by simp [clepsydralaw02_WideRounds.j0] at h
  | k + 1 => by
    have ih0 := clepsydralaw02_WideRounds.mono_l k
    · intro y0 y1 y2
      unfold clepsydralaw02_WideRounds.j0
      repeat' first
      | (with_reducible exact ih0 _ _ _)
      | (with_reducible exact sat_Clip.mono _ _)
      | (with_reducible exact wide_MulDiv.mono _ _ _ _)
      | (with_reducible exact wide_MulUp.mono _ _ _ _)
      | (with_reducible exact LeO.refl _)
      | (with_reducible exact LeO.none _)
      | (with_reducible refine LeO.ite ?_ ?_)
      | (with_reducible refine LeO.bind ?_ (fun _ => ?_))
      | exact ih0 _ _ _
      | exact sat_Clip.mono _ _
      | exact wide_MulDiv.mono _ _ _ _
      | exact wide_MulUp.mono _ _ _ _
      | exact LeO.none _
      | refine LeO.ite ?_ ?_
      | refine LeO.bind ?_ (fun _ => ?_)
theorem clepsydralaw02_WideRounds.mono : ∀ a0 a1 a2 k, LeO (clepsydralaw02_WideRounds.f k a0 a1 a2) (clepsydralaw02_WideRounds.f (k + 1) a0 a1 a2) := by
  intro a0 a1 a2 k
  have ih0 := clepsydralaw02_WideRounds.mono_l k
  unfold clepsydralaw02_WideRounds.f
  repeat' first
      | (with_reducible exact ih0 _ _ _)
      | (with_reducible exact sat_Clip.mono _ _)
      | (with_reducible exact wide_MulDiv.mono _ _ _ _)
      | (with_reducible exact wide_MulUp.mono _ _ _ _)
      | (with_reducible exact LeO.refl _)
      | (with_reducible exact LeO.none _)
      | (with_reducible refine LeO.ite ?_ ?_)
      | (with_reducible refine LeO.bind ?_ (fun _ => ?_))
      | exact ih0 _ _ _
      | exact sat_Clip.mono _ _
      | exact wide_MulDiv.mono _ _ _ _
      | exact wide_MulUp.mono _ _ _ _
      | exact LeO.none _
      | refine LeO.ite ?_ ?_
      | refine LeO.bind ?_ (fun _ => ?_)
set_option maxHeartbeats 8000000 in
set_option maxRecDepth 100000 in
theorem clepsydralaw02_WideRounds.calls (k : Nat) (a0 : Int) (a1 : Int) (a2 : Int) (r : Bool) (w : World) (hT : Aside0 (r = true)) (h : clepsydralaw02_WideRounds.f k a0 a1 a2 = some r) :
    Calls Try.prog 6 #[.int .i64 a0, .int .i64 a1, .int .i64 a2] w fun e w' => e = .returned (.bool r) ∧ Below w.heap.size w w' := by
  have HB := Aside0.mk (Below.refl w.heap.size w)
  have H : ((wide_MulDiv.f k 7 5 3).bind fun t147 => (if t147 = 11 then ((wide_MulDiv.f k a0 a1 a2).bind fun t148 => ((wide_MulUp.f k a0 a1 a2).bind fun t149 => (if t149 < t148 then (clepsydralaw02_WideRounds.j0 k a0 a1 true) else (if (wrap64 (t149 - t148)) > 1 then (clepsydralaw02_WideRounds.j0 k a0 a1 true) else (if t148 > 2305843009213693952 then (clepsydralaw02_WideRounds.j0 k a0 a1 true) else (clepsydralaw02_WideRounds.j0 k a0 a1 (decide (t149 < (-2305843009213693952))))))))) else (some false))) = some r := h
  clear h
  replace H := Option.bind_eq_some_iff.mp H
  obtain ⟨t147, A40, H⟩ := H
  replace H : (if t147 = 11 then ((wide_MulDiv.f k a0 a1 a2).bind fun t148 => ((wide_MulUp.f k a0 a1 a2).bind fun t149 => (if t149 < t148 then (clepsydralaw02_WideRounds.j0 k a0 a1 true) else (if (wrap64 (t149 - t148)) > 1 then (clepsydralaw02_WideRounds.j0 k a0 a1 true) else (if t148 > 2305843009213693952 then (clepsydralaw02_WideRounds.j0 k a0 a1 true) else (clepsydralaw02_WideRounds.j0 k a0 a1 (decide (t149 < (-2305843009213693952))))))))) else (some false)) = some r := H
  have A4 := Aside0.mk A40
  clear A40
  by_cases c5 : t147 = 11
  · rw [if_pos c5] at H
    have c5b0 : (t147 == 11) = true := beq_iff_eq.mpr c5
    have c5b1 : (t147 != 11) = false := bne_eq_false_iff_eq.mpr c5
    clear c5
    replace H := Option.bind_eq_some_iff.mp H
    obtain ⟨t148, A60, H⟩ := H
    replace H : ((wide_MulUp.f k a0 a1 a2).bind fun t149 => (if t149 < t148 then (clepsydralaw02_WideRounds.j0 k a0 a1 true) else (if (wrap64 (t149 - t148)) > 1 then (clepsydralaw02_WideRounds.j0 k a0 a1 true) else (if t148 > 2305843009213693952 then (clepsydralaw02_WideRounds.j0 k a0 a1 true) else (clepsydralaw02_WideRounds.j0 k a0 a1 (decide (t149 < (-2305843009213693952)))))))) = some r := H
    have A6 := Aside0.mk A60
    clear A60
    replace H := Option.bind_eq_some_iff.mp H
    obtain ⟨t149, A70, H⟩ := H
    replace H : (if t149 < t148 then (clepsydralaw02_WideRounds.j0 k a0 a1 true) else (if (wrap64 (t149 - t148)) > 1 then (clepsydralaw02_WideRounds.j0 k a0 a1 true) else (if t148 > 2305843009213693952 then (clepsydralaw02_WideRounds.j0 k a0 a1 true) else (clepsydralaw02_WideRounds.j0 k a0 a1 (decide (t149 < (-2305843009213693952))))))) = some r := H
    have A7 := Aside0.mk A70
    clear A70
    have HC8 := Aside0.mk H
    clear H
    go_enter Try.func6, Try.ntmps6
    go_upto_region 4 with (first | ((with_reducible refine gate_callee (f := 14) rfl ?_); refine goesL_ (some 9) rfl rfl Try.func14 (by kernel_rfl) rfl #[.int .i64 7, .int .i64 5, .int .i64 3] rfl (by (try simp only [List.map_toArray, List.map_cons, List.map_nil]); first | done | rfl | (simp only [List.length_drop, List.length_take]; rfl)) ?_; (with_reducible refine (wide_MulDiv.calls k 7 5 3 t147 _ A4.out).mono ?_); rintro e w9 ⟨rfl, hb⟩; refine ⟨_, rfl, ?_⟩; have n0_ := Aside0.mk (below_step (by repeat (first | (with_reducible first | exact HB.out | apply below_alloc | apply pw_below_drewN | apply below_drew1) | exact HB.out)) hb); clear HB; have HB := n0_; clear n0_; (try clear hb); (try clear hb2); (try clear hk); (try clear hi)) | ((with_reducible refine gate_callee (f := 14) rfl ?_); refine goesL_ (some 14) rfl rfl Try.func14 (by kernel_rfl) rfl #[.int .i64 a0, .int .i64 a1, .int .i64 a2] rfl (by (try simp only [List.map_toArray, List.map_cons, List.map_nil]); first | done | rfl | (simp only [List.length_drop, List.length_take]; rfl)) ?_; (with_reducible refine (wide_MulDiv.calls k a0 a1 a2 t148 _ A6.out).mono ?_); rintro e w10 ⟨rfl, hb⟩; refine ⟨_, rfl, ?_⟩; have n0_ := Aside0.mk (below_step (by repeat (first | (with_reducible first | exact HB.out | apply below_alloc | apply pw_below_drewN | apply below_drew1) | exact HB.out)) hb); clear HB; have HB := n0_; clear n0_; (try clear hb); (try clear hb2); (try clear hk); (try clear hi)) | ((with_reducible refine gate_callee (f := 15) rfl ?_); refine goesL_ (some 18) rfl rfl Try.func15 (by kernel_rfl) rfl #[.int .i64 a0, .int .i64 a1, .int .i64 a2] rfl (by (try simp only [List.map_toArray, List.map_cons, List.map_nil]); first | done | rfl | (simp only [List.length_drop, List.length_take]; rfl)) ?_; (with_reducible refine (wide_MulUp.calls k a0 a1 a2 t149 _ A7.out).mono ?_); rintro e w11 ⟨rfl, hb⟩; refine ⟨_, rfl, ?_⟩; have n0_ := Aside0.mk (below_step (by repeat (first | (with_reducible first | exact HB.out | apply below_alloc | apply pw_below_drewN | apply below_drew1) | exact HB.out)) hb); clear HB; have HB := n0_; clear n0_; (try clear hb); (try clear hb2); (try clear hk); (try clear hi)))
    (try simp only [Act.put, List.setIfInBounds_toArray, List.set_cons_zero, List.set_cons_succ])
    go_cut [35] (fun v35 wc => ∃ (kq : Nat) (x35_7 : Bool), v35 = .bool x35_7 ∧ Aside0 (clepsydralaw02_WideRounds.j0 kq a0 a1 x35_7 = some r) ∧ Aside0 (kq ≤ k) ∧ Aside0 (Below w.heap.size w wc))
    case first =>
      have H := HC8.out
      clear HC8
      by_cases c12 : t149 < t148
      · rw [if_pos c12] at H
        have c12b0 : decide (t149 < t148) = true := decide_eq_true c12
        clear c12
        (first | rw [c12b0] | (simp only [i64_w, i32_w]; rw [c12b0]) | skip)
        have H' := Aside0.mk H
        clear H
        go_wp2
        go_meet
        case rel => exact ⟨_, (true), (by first | rfl | (simp; done) | (simp [*]; done) | (simp [Int.tdiv_eq_ediv_of_nonneg]; done) | (simp [Go.RowKit.wrap64]; done) | (simp [*, Go.RowKit.wrap64]; done)), H', ⟨by first | omega | exact Nat.le_refl _⟩, ⟨by repeat (first | (with_reducible first | exact HB.out | apply below_alloc | apply pw_below_drewN | apply below_drew1) | exact HB.out)⟩⟩
      · rw [if_neg c12] at H
        have c12b0 : decide (t149 < t148) = false := decide_eq_false c12
        clear c12
        (first | rw [c12b0] | (simp only [i64_w, i32_w]; rw [c12b0]) | skip)
        by_cases c13 : (wrap64 (t149 - t148)) > 1
        · rw [if_pos c13] at H
          have c13b0 : decide (1 < (wrap64 (t149 - t148))) = true := decide_eq_true c13
          clear c13
          have H' := Aside0.mk H
          clear H
          go_wp2
          go_meet
          case rel => exact ⟨_, (true), (by first | rfl | (simp; done) | (simp [*]; done) | (simp [Int.tdiv_eq_ediv_of_nonneg]; done) | (simp [Go.RowKit.wrap64]; done) | (simp [*, Go.RowKit.wrap64]; done)), H', ⟨by first | omega | exact Nat.le_refl _⟩, ⟨by repeat (first | (with_reducible first | exact HB.out | apply below_alloc | apply pw_below_drewN | apply below_drew1) | exact HB.out)⟩⟩
        · rw [if_neg c13] at H
          have c13b0 : decide (1 < (wrap64 (t149 - t148))) = false := decide_eq_false c13
          clear c13
          by_cases c14 : t148 > 2305843009213693952
          · rw [if_pos c14] at H
            have c14b0 : decide (2305843009213693952 < t148) = true := decide_eq_true c14
            clear c14
            have H' := Aside0.mk H
            clear H
            go_wp2
            go_meet
            case rel => exact ⟨_, (true), (by first | rfl | (simp; done) | (simp [*]; done) | (simp [Int.tdiv_eq_ediv_of_nonneg]; done) | (simp [Go.RowKit.wrap64]; done) | (simp [*, Go.RowKit.wrap64]; done)), H', ⟨by first | omega | exact Nat.le_refl _⟩, ⟨by repeat (first | (with_reducible first | exact HB.out | apply below_alloc | apply pw_below_drewN | apply below_drew1) | exact HB.out)⟩⟩
          · rw [if_neg c14] at H
            have c14b0 : decide (2305843009213693952 < t148) = false := decide_eq_false c14
            clear c14
            have H' := Aside0.mk H
            clear H
            go_wp2
            go_meet
            case rel => exact ⟨_, (decide (t149 < (-2305843009213693952))), (by first | rfl | (simp; done) | (simp [*]; done) | (simp [Int.tdiv_eq_ediv_of_nonneg]; done) | (simp [Go.RowKit.wrap64]; done) | (simp [*, Go.RowKit.wrap64]; done)), H', ⟨by first | omega | exact Nat.le_refl _⟩, ⟨by repeat (first | (with_reducible first | exact HB.out | apply below_alloc | apply pw_below_drewN | apply below_drew1) | exact HB.out)⟩⟩
    case rest =>
      clear HC8
      try clear c1
      try clear p2
      try clear c5
      try clear c5b0
      try clear c5b1
      try clear c6
      try clear p6
      try clear c12
      try clear c12b0
      try clear c13
      try clear c13b0
      try clear c14
      try clear c14b0
      obtain ⟨kq, x35_7, rfl, HA, HJ7, HB⟩ := hcut
      cases kq with
      | zero => exact absurd HA.out (by simp [clepsydralaw02_WideRounds.j0])
      | succ kj7 =>
        have H := HA.out
        clear HA
        simp only [clepsydralaw02_WideRounds.j0] at H
        by_cases c15 : x35_7 = true
        · subst c15
          have H1 : (some false) = some r := by rw [if_pos rfl] at H; exact H
          clear H
          have H := H1
          clear H1
          exact absurd ((Option.some.inj H).trans hT.out) (by decide)
        · replace c15 := Bool.eq_false_iff.mpr c15
          subst c15
          have H1 : (if a1 < 1 then (some true) else ((wide_MulDiv.f kj7 a0 a1 a1).bind fun t150 => ((sat_Clip.f kj7 a0).bind fun t151 => (if t150 = t151 then ((wide_MulUp.f kj7 a0 a1 a1).bind fun t152 => ((sat_Clip.f kj7 a0).bind fun t153 => (some (t152 == t153)))) else (some false))))) = some r := by rw [if_neg (show ¬ (false = true) by decide)] at H; exact H
          clear H
          have H := H1
          clear H1
          by_cases c16 : a1 < 1
          · rw [if_pos c16] at H
            have c16b0 : decide (a1 < 1) = true := decide_eq_true c16
            clear c16
            obtain rfl := Option.some.inj H
            go_wp2
            go_ret
            exact ⟨by first | rfl | (simp [errW_none, errW_some] <;> rfl) | (simp [*, errW_none, errW_some] <;> rfl), by repeat (first | (with_reducible first | exact HB.out | apply below_alloc | apply pw_below_drewN | apply below_drew1) | exact HB.out)⟩
          · rw [if_neg c16] at H
            have c16b0 : decide (a1 < 1) = false := decide_eq_false c16
            clear c16
            replace H := Option.bind_eq_some_iff.mp H
            obtain ⟨t150, A170, H⟩ := H
            replace H : ((sat_Clip.f kj7 a0).bind fun t151 => (if t150 = t151 then ((wide_MulUp.f kj7 a0 a1 a1).bind fun t152 => ((sat_Clip.f kj7 a0).bind fun t153 => (some (t152 == t153)))) else (some false))) = some r := H
            have A17 := Aside0.mk A170
            clear A170
            replace H := Option.bind_eq_some_iff.mp H
            obtain ⟨t151, A180, H⟩ := H
            replace H : (if t150 = t151 then ((wide_MulUp.f kj7 a0 a1 a1).bind fun t152 => ((sat_Clip.f kj7 a0).bind fun t153 => (some (t152 == t153)))) else (some false)) = some r := H
            have A18 := Aside0.mk A180
            clear A180
            by_cases c19 : t150 = t151
            · rw [if_pos c19] at H
              have c19b0 : (t150 == t151) = true := beq_iff_eq.mpr c19
              have c19b1 : (t150 != t151) = false := bne_eq_false_iff_eq.mpr c19
              clear c19
              replace H := Option.bind_eq_some_iff.mp H
              obtain ⟨t152, A200, H⟩ := H
              replace H : ((sat_Clip.f kj7 a0).bind fun t153 => (some (t152 == t153))) = some r := H
              have A20 := Aside0.mk A200
              clear A200
              replace H := Option.bind_eq_some_iff.mp H
              obtain ⟨t153, A210, H⟩ := H
              replace H : (some (t152 == t153)) = some r := H
              have A21 := Aside0.mk A210
              clear A210
              obtain rfl : t151 = t153 := Option.some.inj (A18.out.symm.trans A21.out)
              obtain rfl := Option.some.inj H
              go_wp2_with (first | (go_at_call 14; (with_reducible refine (wide_MulDiv.calls kj7 a0 a1 a1 t150 _ A17.out).mono ?_); rintro e w22 ⟨rfl, hb⟩; have n0_ := Aside0.mk (below_step (by repeat (first | (with_reducible first | exact HB.out | apply below_alloc | apply pw_below_drewN | apply below_drew1) | exact HB.out)) hb); clear HB; have HB := n0_; clear n0_; (try clear hb); (try clear hb2); (try clear hk); (try clear hi)) | (go_at_call 11; (with_reducible refine (sat_Clip.calls kj7 a0 t151 _ A18.out).mono ?_); rintro e w' ⟨rfl, ⟨nd, rfl⟩⟩) | (go_at_call 15; (with_reducible refine (wide_MulUp.calls kj7 a0 a1 a1 t152 _ A20.out).mono ?_); rintro e w23 ⟨rfl, hb⟩; have n0_ := Aside0.mk (below_step (by repeat (first | (with_reducible first | exact HB.out | apply below_alloc | apply pw_below_drewN | apply below_drew1) | exact HB.out)) hb); clear HB; have HB := n0_; clear n0_; (try clear hb); (try clear hb2); (try clear hk); (try clear hi)) | (go_at_call 11; (with_reducible refine (sat_Clip.calls kj7 a0 t151 _ A21.out).mono ?_); rintro e w' ⟨rfl, ⟨nd, rfl⟩⟩))
              go_ret
              exact ⟨by first | rfl | (simp [errW_none, errW_some] <;> rfl) | (simp [*, errW_none, errW_some] <;> rfl), by repeat (first | (with_reducible first | exact HB.out | apply below_alloc | apply pw_below_drewN | apply below_drew1) | exact HB.out)⟩
            · rw [if_neg c19] at H
              have c19b0 : (t150 == t151) = false := beq_eq_false_iff_ne.mpr c19
              have c19b1 : (t150 != t151) = true := bne_iff_ne.mpr c19
              exact absurd ((Option.some.inj H).trans hT.out) (by decide)
  · rw [if_neg c5] at H
    have c5b0 : (t147 == 11) = false := beq_eq_false_iff_ne.mpr c5
    have c5b1 : (t147 != 11) = true := bne_iff_ne.mpr c5
    exact absurd ((Option.some.inj H).trans hT.out) (by decide)

end Go.Proofs.Ytidoeplhgckmaaa.Q
