/- The calls of these Go functions answer what the Lean functions beside them answer; written by a program (wip/pr2.py, out of the print of the loaded program); under no condition but those that stand in the theorems. -/
import Derived.Test.YtidoeplhgckmaaaDoorQx0
import Derived.Test.YtidoeplhgckmaaaDoorQx6
import Derived.Test.YtidoeplhgckmaaaDoorQx7
import Derived.Test.YtidoeplhgckmaaaDoorQx10
namespace Go.Proofs.YtidoeplhgckmaaaDoor.Q
open Go.RowKit Go.Proofs.YtidoeplhgckmaaaDoorW.PrintWords Go.Proofs.YtidoeplhgckmaaaDoorW.PrintLast Go.Proofs.YtidoeplhgckmaaaDoorW.PrintMore
attribute [local go_sem] max2_int min2_int max_two min_two max_three min_three max_four min_four   -- for this text's walks alone
set_option linter.unusedVariables false
set_option linter.unusedSimpArgs false

/-! ### clepsydralaw17_CivilDates: function 5 -/
def clepsydralaw17_CivilDates.f (k : Nat) (a0 : Int) : Option (Bool) := (clepsydralaw17_alive.f k).bind fun t153 => (if t153 = true then ((civil_Date.f k a0).bind fun bt154 => ((clepsydraref17_Date.f k a0).bind fun bt158 => (if bt154.1 = bt158.1 then (if bt154.2.1 = bt158.2.1 then (if bt154.2.2.1 = bt158.2.2.1 then (some (bt154.2.2.2 == bt158.2.2.2)) else (some false)) else (some false)) else (some false)))) else (some false))
theorem clepsydralaw17_CivilDates.mono : ∀ a0 k, LeO (clepsydralaw17_CivilDates.f k a0) (clepsydralaw17_CivilDates.f (k + 1) a0) := by
  intro a0 k
  unfold clepsydralaw17_CivilDates.f
  repeat' first
      | (with_reducible exact civil_Date.mono _ _)
      | (with_reducible exact clepsydralaw17_alive.mono _)
      | (with_reducible exact clepsydraref17_Date.mono _ _)
      | (with_reducible exact LeO.refl _)
      | (with_reducible exact LeO.none _)
      | (with_reducible refine LeO.ite ?_ ?_)
      | (with_reducible refine LeO.bind ?_ (fun _ => ?_))
      | exact civil_Date.mono _ _
      | exact clepsydralaw17_alive.mono _
      | exact clepsydraref17_Date.mono _ _
      | exact LeO.none _
      | refine LeO.ite ?_ ?_
      | refine LeO.bind ?_ (fun _ => ?_)
set_option maxHeartbeats 8000000 in
set_option maxRecDepth 100000 in
theorem clepsydralaw17_CivilDates.calls (k : Nat) (a0 : Int) (r : Bool) (w : World) (hM : GM w) (hT : Aside0 (r = true)) (h : clepsydralaw17_CivilDates.f k a0 = some r) :
    Calls Tryd.prog 5 #[.int .i64 a0] w fun e w' => e = .returned (.bool r) ∧ Below w.heap.size w w' := by
  have HB := Aside0.mk (Below.refl w.heap.size w)
  have H : ((clepsydralaw17_alive.f k).bind fun t153 => (if t153 = true then ((civil_Date.f k a0).bind fun bt154 => ((clepsydraref17_Date.f k a0).bind fun bt158 => (if bt154.1 = bt158.1 then (if bt154.2.1 = bt158.2.1 then (if bt154.2.2.1 = bt158.2.2.1 then (some (bt154.2.2.2 == bt158.2.2.2)) else (some false)) else (some false)) else (some false)))) else (some false))) = some r := h
  clear h
  replace H := Option.bind_eq_some_iff.mp H
  obtain ⟨t153, A20, H⟩ := H
  replace H : (if t153 = true then ((civil_Date.f k a0).bind fun bt154 => ((clepsydraref17_Date.f k a0).bind fun bt158 => (if bt154.1 = bt158.1 then (if bt154.2.1 = bt158.2.1 then (if bt154.2.2.1 = bt158.2.2.1 then (some (bt154.2.2.2 == bt158.2.2.2)) else (some false)) else (some false)) else (some false)))) else (some false)) = some r := H
  have A2 := Aside0.mk A20
  clear A20
  by_cases c3 : t153 = true
  · subst c3
    have H1 : ((civil_Date.f k a0).bind fun bt154 => ((clepsydraref17_Date.f k a0).bind fun bt158 => (if bt154.1 = bt158.1 then (if bt154.2.1 = bt158.2.1 then (if bt154.2.2.1 = bt158.2.2.1 then (some (bt154.2.2.2 == bt158.2.2.2)) else (some false)) else (some false)) else (some false)))) = some r := by rw [if_pos rfl] at H; exact H
    clear H
    have H := H1
    clear H1
    replace H := Option.bind_eq_some_iff.mp H
    obtain ⟨⟨t154, t155, t156, t157⟩, A40, H⟩ := H
    replace H : ((clepsydraref17_Date.f k a0).bind fun bt158 => (if t154 = bt158.1 then (if t155 = bt158.2.1 then (if t156 = bt158.2.2.1 then (some (t157 == bt158.2.2.2)) else (some false)) else (some false)) else (some false))) = some r := H
    have A4 := Aside0.mk A40
    clear A40
    replace H := Option.bind_eq_some_iff.mp H
    obtain ⟨⟨t158, t159, t160, t161⟩, A50, H⟩ := H
    replace H : (if t154 = t158 then (if t155 = t159 then (if t156 = t160 then (some (t157 == t161)) else (some false)) else (some false)) else (some false)) = some r := H
    have A5 := Aside0.mk A50
    clear A50
    by_cases c6 : t154 = t158
    · rw [if_pos c6] at H
      have c6b0 : (t154 == t158) = true := beq_iff_eq.mpr c6
      have c6b1 : (t154 != t158) = false := bne_eq_false_iff_eq.mpr c6
      clear c6
      by_cases c7 : t155 = t159
      · rw [if_pos c7] at H
        have c7b0 : (t155 == t159) = true := beq_iff_eq.mpr c7
        have c7b1 : (t155 != t159) = false := bne_eq_false_iff_eq.mpr c7
        clear c7
        by_cases c8 : t156 = t160
        · rw [if_pos c8] at H
          have c8b0 : (t156 == t160) = true := beq_iff_eq.mpr c8
          have c8b1 : (t156 != t160) = false := bne_eq_false_iff_eq.mpr c8
          clear c8
          obtain rfl := Option.some.inj H
          go_enter Tryd.func5, Tryd.ntmps5
          go_wp2_with (first | ((with_reducible refine gate_callee (f := 13) rfl ?_); refine goesL_ (some 11) rfl rfl Tryd.func13 (by kernel_rfl) rfl #[] rfl (by (try simp only [List.map_toArray, List.map_cons, List.map_nil]); first | done | rfl | (simp only [List.length_drop, List.length_take]; rfl)) ?_; (with_reducible refine (clepsydralaw17_alive.calls k  true _ (by first | exact hM | exact hM.below HB.out | repeat (first | exact hM | exact hM.below HB.out | apply GM.drewN | apply GM.drew)) A2.out).mono ?_); rintro e w9 ⟨rfl, hb⟩; refine ⟨_, rfl, ?_⟩; have n0_ := Aside0.mk (below_step (by repeat (first | (with_reducible first | exact HB.out | apply below_alloc | apply pw_below_drewN | apply below_drew1) | exact HB.out)) hb); clear HB; have HB := n0_; clear n0_; (try clear hb); (try clear hb2); (try clear hk); (try clear hi)) | ((with_reducible refine gate_callee (f := 16) rfl ?_); refine goesL_ (some 15) rfl rfl Tryd.func16 (by kernel_rfl) rfl #[.int .i64 a0] rfl (by (try simp only [List.map_toArray, List.map_cons, List.map_nil]); first | done | rfl | (simp only [List.length_drop, List.length_take]; rfl)) ?_; (with_reducible refine (civil_Date.calls k a0 t154 t155 t156 t157 _ (by first | exact hM | exact hM.below HB.out | repeat (first | exact hM | exact hM.below HB.out | apply GM.drewN | apply GM.drew)) A4.out).mono ?_); rintro e w10 ⟨rfl, hb⟩; refine ⟨_, rfl, ?_⟩; have n0_ := Aside0.mk (below_step (by repeat (first | (with_reducible first | exact HB.out | apply below_alloc | apply pw_below_drewN | apply below_drew1) | exact HB.out)) hb); clear HB; have HB := n0_; clear n0_; (try clear hb); (try clear hb2); (try clear hk); (try clear hi)) | ((with_reducible refine gate_callee (f := 17) rfl ?_); refine goesL_ (some 22) rfl rfl Tryd.func17 (by kernel_rfl) rfl #[.int .i64 a0] rfl (by (try simp only [List.map_toArray, List.map_cons, List.map_nil]); first | done | rfl | (simp only [List.length_drop, List.length_take]; rfl)) ?_; (with_reducible refine (clepsydraref17_Date.calls k a0 t158 t159 t160 t161 _ A5.out).mono ?_); rintro e w' ⟨rfl, ⟨nd, rfl⟩⟩; refine ⟨_, rfl, ?_⟩))
          go_ret
          exact ⟨by first | rfl | (simp [errW_none, errW_some] <;> rfl) | (simp [*, errW_none, errW_some] <;> rfl), by repeat (first | (with_reducible first | exact HB.out | apply below_alloc | apply pw_below_drewN | apply below_drew1) | exact HB.out)⟩
        · rw [if_neg c8] at H
          have c8b0 : (t156 == t160) = false := beq_eq_false_iff_ne.mpr c8
          have c8b1 : (t156 != t160) = true := bne_iff_ne.mpr c8
          exact absurd ((Option.some.inj H).trans hT.out) (by decide)
      · rw [if_neg c7] at H
        have c7b0 : (t155 == t159) = false := beq_eq_false_iff_ne.mpr c7
        have c7b1 : (t155 != t159) = true := bne_iff_ne.mpr c7
        exact absurd ((Option.some.inj H).trans hT.out) (by decide)
    · rw [if_neg c6] at H
      have c6b0 : (t154 == t158) = false := beq_eq_false_iff_ne.mpr c6
      have c6b1 : (t154 != t158) = true := bne_iff_ne.mpr c6
      exact absurd ((Option.some.inj H).trans hT.out) (by decide)
  · replace c3 := Bool.eq_false_iff.mpr c3
    subst c3
    have H1 : (some false) = some r := by rw [if_neg (show ¬ (false = true) by decide)] at H; exact H
    clear H
    have H := H1
    clear H1
    exact absurd ((Option.some.inj H).trans hT.out) (by decide)

end Go.Proofs.YtidoeplhgckmaaaDoor.Q
