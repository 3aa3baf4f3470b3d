/- The calls of these Go functions answer what the Lean functions beside them answer; written by a program (wip/pr2.py, out of the print of the loaded program); under no condition but those that stand in the theorems. -/
import Derived.Test.YtidoeplhgckmaaaQx0
import Derived.Test.YtidoeplhgckmaaaQx5
namespace Go.Proofs.Ytidoeplhgckmaaa.Q
open Go.RowKit Go.Proofs.YtidoeplhgckmaaaW.PrintWords Go.Proofs.YtidoeplhgckmaaaW.PrintLast Go.Proofs.YtidoeplhgckmaaaW.PrintMore
attribute [local go_sem] max2_int min2_int max_two min_two max_three min_three max_four min_four   -- for this text's walks alone
set_option linter.unusedVariables false
set_option linter.unusedSimpArgs false

/-! ### clepsydralaw02_WideSmall: function 5 -/
def clepsydralaw02_WideSmall.f (k : Nat) (a0 : Int) (a1 : Int) (a2 : Int) : Option (Bool) := (wide_MulDiv.f k 7 5 3).bind fun t142 => (if t142 = 11 then (if (wrap64 (a2)) < 1 then ((wide_MulDiv.f k (wrap64 (Int.tdiv (wrap64 (a0)) 4)) (wrap64 (Int.tdiv (wrap64 (a1)) 4)) (wrap64 (a2))).bind fun t143 => (some (t143 == (wrap64 ((wrap64 (Int.tdiv (wrap64 (a0)) 4)) * (wrap64 (Int.tdiv (wrap64 (a1)) 4))))))) else ((wide_MulDiv.f k (wrap64 (Int.tdiv (wrap64 (a0)) 4)) (wrap64 (Int.tdiv (wrap64 (a1)) 4)) (wrap64 (a2))).bind fun t144 => (if (wrap64 (t144 * (wrap64 (a2)))) ≤ (wrap64 ((wrap64 (Int.tdiv (wrap64 (a0)) 4)) * (wrap64 (Int.tdiv (wrap64 (a1)) 4)))) then (some (decide ((wrap64 ((wrap64 (Int.tdiv (wrap64 (a0)) 4)) * (wrap64 (Int.tdiv (wrap64 (a1)) 4)))) < (wrap64 ((wrap64 (t144 * (wrap64 (a2)))) + (wrap64 (a2))))))) else (some false)))) else (some false))
theorem clepsydralaw02_WideSmall.mono : ∀ a0 a1 a2 k, LeO (clepsydralaw02_WideSmall.f k a0 a1 a2) (clepsydralaw02_WideSmall.f (k + 1) a0 a1 a2) := by
  intro a0 a1 a2 k
  unfold clepsydralaw02_WideSmall.f
  repeat' first
      | (with_reducible exact wide_MulDiv.mono _ _ _ _)
      | (with_reducible exact LeO.refl _)
      | (with_reducible exact LeO.none _)
      | (with_reducible refine LeO.ite ?_ ?_)
      | (with_reducible refine LeO.bind ?_ (fun _ => ?_))
      | exact wide_MulDiv.mono _ _ _ _
      | exact LeO.none _
      | refine LeO.ite ?_ ?_
      | refine LeO.bind ?_ (fun _ => ?_)
set_option maxHeartbeats 8000000 in
set_option maxRecDepth 100000 in
theorem clepsydralaw02_WideSmall.calls (k : Nat) (a0 : Int) (a1 : Int) (a2 : Int) (r : Bool) (w : World) (hT : Aside0 (r = true)) (h : clepsydralaw02_WideSmall.f k a0 a1 a2 = some r) :
    Calls Try.prog 5 #[.int .i32 a0, .int .i32 a1, .int .u16 a2] w fun e w' => e = .returned (.bool r) ∧ Below w.heap.size w w' := by
  have HB := Aside0.mk (Below.refl w.heap.size w)
  have H : ((wide_MulDiv.f k 7 5 3).bind fun t142 => (if t142 = 11 then (if (wrap64 (a2)) < 1 then ((wide_MulDiv.f k (wrap64 (Int.tdiv (wrap64 (a0)) 4)) (wrap64 (Int.tdiv (wrap64 (a1)) 4)) (wrap64 (a2))).bind fun t143 => (some (t143 == (wrap64 ((wrap64 (Int.tdiv (wrap64 (a0)) 4)) * (wrap64 (Int.tdiv (wrap64 (a1)) 4))))))) else ((wide_MulDiv.f k (wrap64 (Int.tdiv (wrap64 (a0)) 4)) (wrap64 (Int.tdiv (wrap64 (a1)) 4)) (wrap64 (a2))).bind fun t144 => (if (wrap64 (t144 * (wrap64 (a2)))) ≤ (wrap64 ((wrap64 (Int.tdiv (wrap64 (a0)) 4)) * (wrap64 (Int.tdiv (wrap64 (a1)) 4)))) then (some (decide ((wrap64 ((wrap64 (Int.tdiv (wrap64 (a0)) 4)) * (wrap64 (Int.tdiv (wrap64 (a1)) 4)))) < (wrap64 ((wrap64 (t144 * (wrap64 (a2)))) + (wrap64 (a2))))))) else (some false)))) else (some false))) = some r := h
  clear h
  replace H := Option.bind_eq_some_iff.mp H
  obtain ⟨t142, A40, H⟩ := H
  replace H : (if t142 = 11 then (if (wrap64 (a2)) < 1 then ((wide_MulDiv.f k (wrap64 (Int.tdiv (wrap64 (a0)) 4)) (wrap64 (Int.tdiv (wrap64 (a1)) 4)) (wrap64 (a2))).bind fun t143 => (some (t143 == (wrap64 ((wrap64 (Int.tdiv (wrap64 (a0)) 4)) * (wrap64 (Int.tdiv (wrap64 (a1)) 4))))))) else ((wide_MulDiv.f k (wrap64 (Int.tdiv (wrap64 (a0)) 4)) (wrap64 (Int.tdiv (wrap64 (a1)) 4)) (wrap64 (a2))).bind fun t144 => (if (wrap64 (t144 * (wrap64 (a2)))) ≤ (wrap64 ((wrap64 (Int.tdiv (wrap64 (a0)) 4)) * (wrap64 (Int.tdiv (wrap64 (a1)) 4)))) then (some (decide ((wrap64 ((wrap64 (Int.tdiv (wrap64 (a0)) 4)) * (wrap64 (Int.tdiv (wrap64 (a1)) 4)))) < (wrap64 ((wrap64 (t144 * (wrap64 (a2)))) + (wrap64 (a2))))))) else (some false)))) else (some false)) = some r := H
  have A4 := Aside0.mk A40
  clear A40
  by_cases c5 : t142 = 11
  · rw [if_pos c5] at H
    have c5b0 : (t142 == 11) = true := beq_iff_eq.mpr c5
    have c5b1 : (t142 != 11) = false := bne_eq_false_iff_eq.mpr c5
    clear c5
    by_cases c6 : (wrap64 (a2)) < 1
    · rw [if_pos c6] at H
      have c6b0 : decide ((wrap64 (a2)) < 1) = true := decide_eq_true c6
      clear c6
      replace H := Option.bind_eq_some_iff.mp H
      obtain ⟨t143, A70, H⟩ := H
      replace H : (some (t143 == (wrap64 ((wrap64 (Int.tdiv (wrap64 (a0)) 4)) * (wrap64 (Int.tdiv (wrap64 (a1)) 4)))))) = some r := H
      have A7 := Aside0.mk A70
      clear A70
      obtain rfl := Option.some.inj H
      go_enter Try.func5, Try.ntmps5
      go_wp2_with (first | ((with_reducible refine gate_callee (f := 14) rfl ?_); refine goesL_ (some 11) rfl rfl Try.func14 (by kernel_rfl) rfl #[.int .i64 7, .int .i64 5, .int .i64 3] rfl (by (try simp only [List.map_toArray, List.map_cons, List.map_nil]); first | done | rfl | (simp only [List.length_drop, List.length_take]; rfl)) ?_; (with_reducible refine (wide_MulDiv.calls k 7 5 3 t142 _ A4.out).mono ?_); rintro e w8 ⟨rfl, hb⟩; refine ⟨_, rfl, ?_⟩; have n0_ := Aside0.mk (below_step (by repeat (first | (with_reducible first | exact HB.out | apply below_alloc | apply pw_below_drewN | apply below_drew1) | exact HB.out)) hb); clear HB; have HB := n0_; clear n0_; (try clear hb); (try clear hb2); (try clear hk); (try clear hi)) | ((with_reducible refine gate_callee (f := 14) rfl ?_); refine goesL_ (some 26) rfl rfl Try.func14 (by kernel_rfl) rfl #[.int .i64 (wrap64 (Int.tdiv (wrap64 (a0)) 4)), .int .i64 (wrap64 (Int.tdiv (wrap64 (a1)) 4)), .int .i64 (wrap64 (a2))] rfl (by (try simp only [List.map_toArray, List.map_cons, List.map_nil]); first | done | rfl | (simp only [List.length_drop, List.length_take]; rfl)) ?_; (with_reducible refine (wide_MulDiv.calls k (wrap64 (Int.tdiv (wrap64 (a0)) 4)) (wrap64 (Int.tdiv (wrap64 (a1)) 4)) (wrap64 (a2)) t143 _ A7.out).mono ?_); rintro e w9 ⟨rfl, hb⟩; refine ⟨_, rfl, ?_⟩; have n0_ := Aside0.mk (below_step (by repeat (first | (with_reducible first | exact HB.out | apply below_alloc | apply pw_below_drewN | apply below_drew1) | exact HB.out)) hb); clear HB; have HB := n0_; clear n0_; (try clear hb); (try clear hb2); (try clear hk); (try clear hi)))
      go_ret
      exact ⟨by first | rfl | (simp [errW_none, errW_some] <;> rfl) | (simp [*, errW_none, errW_some] <;> rfl), by repeat (first | (with_reducible first | exact HB.out | apply below_alloc | apply pw_below_drewN | apply below_drew1) | exact HB.out)⟩
    · rw [if_neg c6] at H
      have c6b0 : decide ((wrap64 (a2)) < 1) = false := decide_eq_false c6
      clear c6
      replace H := Option.bind_eq_some_iff.mp H
      obtain ⟨t144, A100, H⟩ := H
      replace H : (if (wrap64 (t144 * (wrap64 (a2)))) ≤ (wrap64 ((wrap64 (Int.tdiv (wrap64 (a0)) 4)) * (wrap64 (Int.tdiv (wrap64 (a1)) 4)))) then (some (decide ((wrap64 ((wrap64 (Int.tdiv (wrap64 (a0)) 4)) * (wrap64 (Int.tdiv (wrap64 (a1)) 4)))) < (wrap64 ((wrap64 (t144 * (wrap64 (a2)))) + (wrap64 (a2))))))) else (some false)) = some r := H
      have A10 := Aside0.mk A100
      clear A100
      by_cases c11 : (wrap64 (t144 * (wrap64 (a2)))) ≤ (wrap64 ((wrap64 (Int.tdiv (wrap64 (a0)) 4)) * (wrap64 (Int.tdiv (wrap64 (a1)) 4))))
      · rw [if_pos c11] at H
        have c11b0 : decide ((wrap64 (t144 * (wrap64 (a2)))) ≤ (wrap64 ((wrap64 (Int.tdiv (wrap64 (a0)) 4)) * (wrap64 (Int.tdiv (wrap64 (a1)) 4))))) = true := decide_eq_true c11
        clear c11
        obtain rfl := Option.some.inj H
        go_enter Try.func5, Try.ntmps5
        go_wp2_with (first | ((with_reducible refine gate_callee (f := 14) rfl ?_); refine goesL_ (some 11) rfl rfl Try.func14 (by kernel_rfl) rfl #[.int .i64 7, .int .i64 5, .int .i64 3] rfl (by (try simp only [List.map_toArray, List.map_cons, List.map_nil]); first | done | rfl | (simp only [List.length_drop, List.length_take]; rfl)) ?_; (with_reducible refine (wide_MulDiv.calls k 7 5 3 t142 _ A4.out).mono ?_); rintro e w12 ⟨rfl, hb⟩; refine ⟨_, rfl, ?_⟩; have n0_ := Aside0.mk (below_step (by repeat (first | (with_reducible first | exact HB.out | apply below_alloc | apply pw_below_drewN | apply below_drew1) | exact HB.out)) hb); clear HB; have HB := n0_; clear n0_; (try clear hb); (try clear hb2); (try clear hk); (try clear hi)) | ((with_reducible refine gate_callee (f := 14) rfl ?_); refine goesL_ (some 34) rfl rfl Try.func14 (by kernel_rfl) rfl #[.int .i64 (wrap64 (Int.tdiv (wrap64 (a0)) 4)), .int .i64 (wrap64 (Int.tdiv (wrap64 (a1)) 4)), .int .i64 (wrap64 (a2))] rfl (by (try simp only [List.map_toArray, List.map_cons, List.map_nil]); first | done | rfl | (simp only [List.length_drop, List.length_take]; rfl)) ?_; (with_reducible refine (wide_MulDiv.calls k (wrap64 (Int.tdiv (wrap64 (a0)) 4)) (wrap64 (Int.tdiv (wrap64 (a1)) 4)) (wrap64 (a2)) t144 _ A10.out).mono ?_); rintro e w13 ⟨rfl, hb⟩; refine ⟨_, rfl, ?_⟩; have n0_ := Aside0.mk (below_step (by repeat (first | (with_reducible first | exact HB.out | apply below_alloc | apply pw_below_drewN | apply below_drew1) | exact HB.out)) hb); clear HB; have HB := n0_; clear n0_; (try clear hb); (try clear hb2); (try clear hk); (try clear hi)))
        go_ret
        exact ⟨by first | rfl | (simp [errW_none, errW_some] <;> rfl) | (simp [*, errW_none, errW_some] <;> rfl), by repeat (first | (with_reducible first | exact HB.out | apply below_alloc | apply pw_below_drewN | apply below_drew1) | exact HB.out)⟩
      · rw [if_neg c11] at H
        have c11b0 : decide ((wrap64 (t144 * (wrap64 (a2)))) ≤ (wrap64 ((wrap64 (Int.tdiv (wrap64 (a0)) 4)) * (wrap64 (Int.tdiv (wrap64 (a1)) 4))))) = false := decide_eq_false c11
        clear c11
        exact absurd ((Option.some.inj H).trans hT.out) (by decide)
  · rw [if_neg c5] at H
    have c5b0 : (t142 == 11) = false := beq_eq_false_iff_ne.mpr c5
    have c5b1 : (t142 != 11) = true := bne_iff_ne.mpr c5
    exact absurd ((Option.some.inj H).trans hT.out) (by decide)

end Go.Proofs.Ytidoeplhgckmaaa.Q
