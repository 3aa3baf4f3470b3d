/- The calls of these Go functions answer what the Lean functions beside them answer; written by a program (wip/pr2.py, out of the print of the loaded program); under no condition but those that stand in the theorems. -/
import Derived.Test.YtidoeplhgckmaaaDoorQx0
import Derived.Test.YtidoeplhgckmaaaDoorQx5
import Derived.Test.YtidoeplhgckmaaaDoorQx7
import Derived.Test.YtidoeplhgckmaaaDoorQx8
namespace Go.Proofs.YtidoeplhgckmaaaDoor.Q
open Go.RowKit Go.Proofs.YtidoeplhgckmaaaDoorW.PrintWords Go.Proofs.YtidoeplhgckmaaaDoorW.PrintLast Go.Proofs.YtidoeplhgckmaaaDoorW.PrintMore
attribute [local go_sem] max2_int min2_int max_two min_two max_three min_three max_four min_four   -- for this text's walks alone
set_option linter.unusedVariables false
set_option linter.unusedSimpArgs false

/-! ### clepsydralaw17_CivilDays: function 4 -/
def clepsydralaw17_CivilDays.f (k : Nat) (a0 : Int) (a1 : Int) (a2 : Int) : Option (Bool) := (clepsydralaw17_alive.f k).bind fun t144 => (if t144 = true then ((civil_Day.f k a0 a1 a2).bind fun bt145 => ((clepsydraref17_Day.f k a0 a1 a2).bind fun bt147 => (if bt145.1 = bt147.1 then (some (bt145.2 == bt147.2)) else (some false)))) else (some false))
theorem clepsydralaw17_CivilDays.mono : ∀ a0 a1 a2 k, LeO (clepsydralaw17_CivilDays.f k a0 a1 a2) (clepsydralaw17_CivilDays.f (k + 1) a0 a1 a2) := by
  intro a0 a1 a2 k
  unfold clepsydralaw17_CivilDays.f
  repeat' first
      | (with_reducible exact civil_Day.mono _ _ _ _)
      | (with_reducible exact clepsydralaw17_alive.mono _)
      | (with_reducible exact clepsydraref17_Day.mono _ _ _ _)
      | (with_reducible exact LeO.refl _)
      | (with_reducible exact LeO.none _)
      | (with_reducible refine LeO.ite ?_ ?_)
      | (with_reducible refine LeO.bind ?_ (fun _ => ?_))
      | exact civil_Day.mono _ _ _ _
      | exact clepsydralaw17_alive.mono _
      | exact clepsydraref17_Day.mono _ _ _ _
      | exact LeO.none _
      | refine LeO.ite ?_ ?_
      | refine LeO.bind ?_ (fun _ => ?_)
set_option maxHeartbeats 8000000 in
set_option maxRecDepth 100000 in
theorem clepsydralaw17_CivilDays.calls (k : Nat) (a0 : Int) (a1 : Int) (a2 : Int) (r : Bool) (w : World) (hM : GM w) (hT : Aside0 (r = true)) (h : clepsydralaw17_CivilDays.f k a0 a1 a2 = some r) :
    Calls Tryd.prog 4 #[.int .i64 a0, .int .i64 a1, .int .i64 a2] w fun e w' => e = .returned (.bool r) ∧ Below w.heap.size w w' := by
  have HB := Aside0.mk (Below.refl w.heap.size w)
  have H : ((clepsydralaw17_alive.f k).bind fun t144 => (if t144 = true then ((civil_Day.f k a0 a1 a2).bind fun bt145 => ((clepsydraref17_Day.f k a0 a1 a2).bind fun bt147 => (if bt145.1 = bt147.1 then (some (bt145.2 == bt147.2)) else (some false)))) else (some false))) = some r := h
  clear h
  replace H := Option.bind_eq_some_iff.mp H
  obtain ⟨t144, A40, H⟩ := H
  replace H : (if t144 = true then ((civil_Day.f k a0 a1 a2).bind fun bt145 => ((clepsydraref17_Day.f k a0 a1 a2).bind fun bt147 => (if bt145.1 = bt147.1 then (some (bt145.2 == bt147.2)) else (some false)))) else (some false)) = some r := H
  have A4 := Aside0.mk A40
  clear A40
  by_cases c5 : t144 = true
  · subst c5
    have H1 : ((civil_Day.f k a0 a1 a2).bind fun bt145 => ((clepsydraref17_Day.f k a0 a1 a2).bind fun bt147 => (if bt145.1 = bt147.1 then (some (bt145.2 == bt147.2)) else (some false)))) = some r := by rw [if_pos rfl] at H; exact H
    clear H
    have H := H1
    clear H1
    replace H := Option.bind_eq_some_iff.mp H
    obtain ⟨⟨t145, t146⟩, A60, H⟩ := H
    replace H : ((clepsydraref17_Day.f k a0 a1 a2).bind fun bt147 => (if t145 = bt147.1 then (some (t146 == bt147.2)) else (some false))) = some r := H
    have A6 := Aside0.mk A60
    clear A60
    replace H := Option.bind_eq_some_iff.mp H
    obtain ⟨⟨t147, t148⟩, A70, H⟩ := H
    replace H : (if t145 = t147 then (some (t146 == t148)) else (some false)) = some r := H
    have A7 := Aside0.mk A70
    clear A70
    by_cases c8 : t145 = t147
    · rw [if_pos c8] at H
      have c8b0 : (t145 == t147) = true := beq_iff_eq.mpr c8
      have c8b1 : (t145 != t147) = false := bne_eq_false_iff_eq.mpr c8
      clear c8
      obtain rfl := Option.some.inj H
      go_enter Tryd.func4, Tryd.ntmps4
      go_wp2_with (first | ((with_reducible refine gate_callee (f := 13) rfl ?_); refine goesL_ (some 11) rfl rfl Tryd.func13 (by kernel_rfl) rfl #[] rfl (by (try simp only [List.map_toArray, List.map_cons, List.map_nil]); first | done | rfl | (simp only [List.length_drop, List.length_take]; rfl)) ?_; (with_reducible refine (clepsydralaw17_alive.calls k  true _ (by first | exact hM | exact hM.below HB.out | repeat (first | exact hM | exact hM.below HB.out | apply GM.drewN | apply GM.drew)) A4.out).mono ?_); rintro e w9 ⟨rfl, hb⟩; refine ⟨_, rfl, ?_⟩; have n0_ := Aside0.mk (below_step (by repeat (first | (with_reducible first | exact HB.out | apply below_alloc | apply pw_below_drewN | apply below_drew1) | exact HB.out)) hb); clear HB; have HB := n0_; clear n0_; (try clear hb); (try clear hb2); (try clear hk); (try clear hi)) | ((with_reducible refine gate_callee (f := 14) rfl ?_); refine goesL_ (some 17) rfl rfl Tryd.func14 (by kernel_rfl) rfl #[.int .i64 a0, .int .i64 a1, .int .i64 a2] rfl (by (try simp only [List.map_toArray, List.map_cons, List.map_nil]); first | done | rfl | (simp only [List.length_drop, List.length_take]; rfl)) ?_; (with_reducible refine (civil_Day.calls k a0 a1 a2 t145 t146 _ (by first | exact hM | exact hM.below HB.out | repeat (first | exact hM | exact hM.below HB.out | apply GM.drewN | apply GM.drew)) A6.out).mono ?_); rintro e w10 ⟨rfl, hb⟩; refine ⟨_, rfl, ?_⟩; have n0_ := Aside0.mk (below_step (by repeat (first | (with_reducible first | exact HB.out | apply below_alloc | apply pw_below_drewN | apply below_drew1) | exact HB.out)) hb); clear HB; have HB := n0_; clear n0_; (try clear hb); (try clear hb2); (try clear hk); (try clear hi)) | ((with_reducible refine gate_callee (f := 15) rfl ?_); refine goesL_ (some 24) rfl rfl Tryd.func15 (by kernel_rfl) rfl #[.int .i64 a0, .int .i64 a1, .int .i64 a2] rfl (by (try simp only [List.map_toArray, List.map_cons, List.map_nil]); first | done | rfl | (simp only [List.length_drop, List.length_take]; rfl)) ?_; (with_reducible refine (clepsydraref17_Day.calls k a0 a1 a2 t147 t148 _ A7.out).mono ?_); rintro e w' ⟨rfl, ⟨nd, rfl⟩⟩; refine ⟨_, rfl, ?_⟩))
      go_ret
      exact ⟨by first | rfl | (simp [errW_none, errW_some] <;> rfl) | (simp [*, errW_none, errW_some] <;> rfl), by repeat (first | (with_reducible first | exact HB.out | apply below_alloc | apply pw_below_drewN | apply below_drew1) | exact HB.out)⟩
    · rw [if_neg c8] at H
      have c8b0 : (t145 == t147) = false := beq_eq_false_iff_ne.mpr c8
      have c8b1 : (t145 != t147) = true := bne_iff_ne.mpr c8
      exact absurd ((Option.some.inj H).trans hT.out) (by decide)
  · replace c5 := Bool.eq_false_iff.mpr c5
    subst c5
    have H1 : (some false) = some r := by rw [if_neg (show ¬ (false = true) by decide)] at H; exact H
    clear H
    have H := H1
    clear H1
    exact absurd ((Option.some.inj H).trans hT.out) (by decide)

end Go.Proofs.YtidoeplhgckmaaaDoor.Q
