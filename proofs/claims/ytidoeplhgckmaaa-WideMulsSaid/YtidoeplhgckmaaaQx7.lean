/- The calls of these Go functions answer what the Lean functions beside them answer; written by a program (wip/pr2.py, out of the print of the loaded program); under no condition but those that stand in the theorems. -/
import Derived.Test.YtidoeplhgckmaaaQx0
import Derived.Test.YtidoeplhgckmaaaQx1
import Derived.Test.YtidoeplhgckmaaaQx4
import Derived.Test.YtidoeplhgckmaaaQx5
import Derived.Test.YtidoeplhgckmaaaQx6
namespace Go.Proofs.Ytidoeplhgckmaaa.Q
open Go.RowKit Go.Proofs.YtidoeplhgckmaaaW.PrintWords Go.Proofs.YtidoeplhgckmaaaW.PrintLast Go.Proofs.YtidoeplhgckmaaaW.PrintMore
attribute [local go_sem] max2_int min2_int max_two min_two max_three min_three max_four min_four   -- for this text's walks alone
set_option linter.unusedVariables false
set_option linter.unusedSimpArgs false

/-! ### clepsydralaw02_WideMuls: function 7 -/
def clepsydralaw02_WideMuls.j0 : Nat → Int → Int → Int → Bool → Option (Bool)
  | 0, _, _, _, _ => none
  | k + 1, x0, x1, x2, x13 => if x13 = true then (some false) else ((clepsydraref02_MulDiv.f k x0 x1 x2).bind fun t138 => ((wide_MulDiv.f k x0 x1 x2).bind fun t139 => (if t139 = t138 then ((wide_Scale.f k x0 x1 x2).bind fun t140 => (if t140 = t138 then ((wide_MulUp.f k x0 x1 x2).bind fun t141 => ((sat_Neg.f k x0).bind fun t142 => ((clepsydraref02_MulDiv.f k t142 x1 x2).bind fun t143 => (some (t141 == (wrap64 (-t143))))))) else (some false))) else (some false))))
def clepsydralaw02_WideMuls.f (k : Nat) (a0 : Int) (a1 : Int) (a2 : Int) : Option (Bool) := (wide_MulDiv.f k 7 5 3).bind fun t136 => (if t136 = 11 then ((wide_MulUp.f k 7 5 3).bind fun t137 => (clepsydralaw02_WideMuls.j0 k a0 a1 a2 (t137 != 12))) else (clepsydralaw02_WideMuls.j0 k a0 a1 a2 true))
theorem clepsydralaw02_WideMuls.mono_l : ∀ k, (∀ y0 y1 y2 y3, LeO (clepsydralaw02_WideMuls.j0 k y0 y1 y2 y3) (clepsydralaw02_WideMuls.j0 (k + 1) y0 y1 y2 y3))
  | 0 => fun _ _ _ _ r h => by simp [clepsydralaw02_WideMuls.j0] at h
  | k + 1 => by
    have ih0 := clepsydralaw02_WideMuls.mono_l k
    · intro y0 y1 y2 y3
      unfold clepsydralaw02_WideMuls.j0
      repeat' first
      | (with_reducible exact ih0 _ _ _ _)
      | (with_reducible exact clepsydraref02_MulDiv.mono _ _ _ _)
      | (with_reducible exact sat_Neg.mono _ _)
      | (with_reducible exact wide_MulDiv.mono _ _ _ _)
      | (with_reducible exact wide_MulUp.mono _ _ _ _)
      | (with_reducible exact wide_Scale.mono _ _ _ _)
      | (with_reducible exact LeO.refl _)
      | (with_reducible exact LeO.none _)
      | (with_reducible refine LeO.ite ?_ ?_)
      | (with_reducible refine LeO.bind ?_ (fun _ => ?_))
      | exact ih0 _ _ _ _
      | exact clepsydraref02_MulDiv.mono _ _ _ _
      | exact sat_Neg.mono _ _
      | exact wide_MulDiv.mono _ _ _ _
      | exact wide_MulUp.mono _ _ _ _
      | exact wide_Scale.mono _ _ _ _
      | exact LeO.none _
      | refine LeO.ite ?_ ?_
      | refine LeO.bind ?_ (fun _ => ?_)
theorem clepsydralaw02_WideMuls.mono : ∀ a0 a1 a2 k, LeO (clepsydralaw02_WideMuls.f k a0 a1 a2) (clepsydralaw02_WideMuls.f (k + 1) a0 a1 a2) := by
  intro a0 a1 a2 k
  have ih0 := clepsydralaw02_WideMuls.mono_l k
  unfold clepsydralaw02_WideMuls.f
  repeat' first
      | (with_reducible exact ih0 _ _ _ _)
      | (with_reducible exact clepsydraref02_MulDiv.mono _ _ _ _)
      | (with_reducible exact sat_Neg.mono _ _)
      | (with_reducible exact wide_MulDiv.mono _ _ _ _)
      | (with_reducible exact wide_MulUp.mono _ _ _ _)
      | (with_reducible exact wide_Scale.mono _ _ _ _)
      | (with_reducible exact LeO.refl _)
      | (with_reducible exact LeO.none _)
      | (with_reducible refine LeO.ite ?_ ?_)
      | (with_reducible refine LeO.bind ?_ (fun _ => ?_))
      | exact ih0 _ _ _ _
      | exact clepsydraref02_MulDiv.mono _ _ _ _
      | exact sat_Neg.mono _ _
      | exact wide_MulDiv.mono _ _ _ _
      | exact wide_MulUp.mono _ _ _ _
      | exact wide_Scale.mono _ _ _ _
      | exact LeO.none _
      | refine LeO.ite ?_ ?_
      | refine LeO.bind ?_ (fun _ => ?_)
set_option maxHeartbeats 8000000 in
set_option maxRecDepth 100000 in
theorem clepsydralaw02_WideMuls.calls (k : Nat) (a0 : Int) (a1 : Int) (a2 : Int) (r : Bool) (w : World) (hT : Aside0 (r = true)) (h : clepsydralaw02_WideMuls.f k a0 a1 a2 = some r) :
    Calls Try.prog 7 #[.int .i64 a0, .int .i64 a1, .int .i64 a2] w fun e w' => e = .returned (.bool r) ∧ Below w.heap.size w w' := by
  have hu27 := Try.underlying27
  have HB := Aside0.mk (Below.refl w.heap.size w)
  have H : ((wide_MulDiv.f k 7 5 3).bind fun t136 => (if t136 = 11 then ((wide_MulUp.f k 7 5 3).bind fun t137 => (clepsydralaw02_WideMuls.j0 k a0 a1 a2 (t137 != 12))) else (clepsydralaw02_WideMuls.j0 k a0 a1 a2 true))) = some r := h
  clear h
  have HC4 := Aside0.mk H
  clear H
  go_enter Try.func7, Try.ntmps7
  go_upto_region 1 with (fail)
  go_cut [13] (fun v13 wc => ∃ (kq : Nat) (x13_3 : Bool), v13 = .bool x13_3 ∧ Aside0 (clepsydralaw02_WideMuls.j0 kq a0 a1 a2 x13_3 = some r) ∧ Aside0 (kq ≤ k) ∧ Aside0 (Below w.heap.size w wc))
  case first =>
    have H := HC4.out
    clear HC4
    replace H := Option.bind_eq_some_iff.mp H
    obtain ⟨t136, A50, H⟩ := H
    replace H : (if t136 = 11 then ((wide_MulUp.f k 7 5 3).bind fun t137 => (clepsydralaw02_WideMuls.j0 k a0 a1 a2 (t137 != 12))) else (clepsydralaw02_WideMuls.j0 k a0 a1 a2 true)) = some r := H
    have A5 := Aside0.mk A50
    clear A50
    by_cases c6 : t136 = 11
    · rw [if_pos c6] at H
      have c6b0 : (t136 == 11) = true := beq_iff_eq.mpr c6
      have c6b1 : (t136 != 11) = false := bne_eq_false_iff_eq.mpr c6
      clear c6
      (first | rw [c6b0] | (simp only [i64_w, i32_w]; rw [c6b0]) | skip)
      replace H := Option.bind_eq_some_iff.mp H
      obtain ⟨t137, A70, H⟩ := H
      replace H : (clepsydralaw02_WideMuls.j0 k a0 a1 a2 (t137 != 12)) = some r := H
      have A7 := Aside0.mk A70
      clear A70
      have H' := Aside0.mk H
      clear H
      go_wp2_with (first | ((with_reducible refine gate_callee (f := 14) rfl ?_); refine goesL_ (some 8) rfl rfl Try.func14 (by kernel_rfl) rfl #[.int .i64 7, .int .i64 5, .int .i64 3] rfl (by (try simp only [List.map_toArray, List.map_cons, List.map_nil]); first | done | rfl | (simp only [List.length_drop, List.length_take]; rfl)) ?_; (with_reducible refine (wide_MulDiv.calls k 7 5 3 t136 _ A5.out).mono ?_); rintro e w8 ⟨rfl, hb⟩; refine ⟨_, rfl, ?_⟩; have n0_ := Aside0.mk (below_step (by repeat (first | (with_reducible first | exact HB.out | apply below_alloc | apply pw_below_drewN | apply below_drew1) | exact HB.out)) hb); clear HB; have HB := n0_; clear n0_; (try clear hb); (try clear hb2); (try clear hk); (try clear hi)) | (go_at_call 15; (with_reducible refine (wide_MulUp.calls k 7 5 3 t137 _ A7.out).mono ?_); rintro e w9 ⟨rfl, hb⟩; have n0_ := Aside0.mk (below_step (by repeat (first | (with_reducible first | exact HB.out | apply below_alloc | apply pw_below_drewN | apply below_drew1) | exact HB.out)) hb); clear HB; have HB := n0_; clear n0_; (try clear hb); (try clear hb2); (try clear hk); (try clear hi)))
      go_meet
      case rel => exact ⟨_, ((t137 != 12)), (by first | rfl | (simp; done) | (simp [*]; done) | (simp [Int.tdiv_eq_ediv_of_nonneg]; done) | (simp [Go.RowKit.wrap64]; done) | (simp [*, Go.RowKit.wrap64]; done)), H', ⟨by first | omega | exact Nat.le_refl _⟩, ⟨by repeat (first | (with_reducible first | exact HB.out | apply below_alloc | apply pw_below_drewN | apply below_drew1) | exact HB.out)⟩⟩
    · rw [if_neg c6] at H
      have c6b0 : (t136 == 11) = false := beq_eq_false_iff_ne.mpr c6
      have c6b1 : (t136 != 11) = true := bne_iff_ne.mpr c6
      (first | rw [c6b0] | (simp only [i64_w, i32_w]; rw [c6b0]) | skip)
      have H' := Aside0.mk H
      clear H
      go_wp2_with (first | ((with_reducible refine gate_callee (f := 14) rfl ?_); refine goesL_ (some 8) rfl rfl Try.func14 (by kernel_rfl) rfl #[.int .i64 7, .int .i64 5, .int .i64 3] rfl (by (try simp only [List.map_toArray, List.map_cons, List.map_nil]); first | done | rfl | (simp only [List.length_drop, List.length_take]; rfl)) ?_; (with_reducible refine (wide_MulDiv.calls k 7 5 3 t136 _ A5.out).mono ?_); rintro e w10 ⟨rfl, hb⟩; refine ⟨_, rfl, ?_⟩; have n0_ := Aside0.mk (below_step (by repeat (first | (with_reducible first | exact HB.out | apply below_alloc | apply pw_below_drewN | apply below_drew1) | exact HB.out)) hb); clear HB; have HB := n0_; clear n0_; (try clear hb); (try clear hb2); (try clear hk); (try clear hi)))
      go_meet
      case rel => exact ⟨_, (true), (by first | rfl | (simp; done) | (simp [*]; done) | (simp [Int.tdiv_eq_ediv_of_nonneg]; done) | (simp [Go.RowKit.wrap64]; done) | (simp [*, Go.RowKit.wrap64]; done)), H', ⟨by first | omega | exact Nat.le_refl _⟩, ⟨by repeat (first | (with_reducible first | exact HB.out | apply below_alloc | apply pw_below_drewN | apply below_drew1) | exact HB.out)⟩⟩
  case rest =>
    clear HC4
    try clear c1
    try clear p2
    try clear c6
    try clear c6b0
    try clear c6b1
    try clear c7
    obtain ⟨kq, x13_3, rfl, HA, HJ3, HB⟩ := hcut
    cases kq with
    | zero => exact absurd HA.out (by simp [clepsydralaw02_WideMuls.j0])
    | succ kj3 =>
      have H := HA.out
      clear HA
      simp only [clepsydralaw02_WideMuls.j0] at H
      by_cases c11 : x13_3 = true
      · subst c11
        have H1 : (some false) = some r := by rw [if_pos rfl] at H; exact H
        clear H
        have H := H1
        clear H1
        exact absurd ((Option.some.inj H).trans hT.out) (by decide)
      · replace c11 := Bool.eq_false_iff.mpr c11
        subst c11
        have H1 : ((clepsydraref02_MulDiv.f kj3 a0 a1 a2).bind fun t138 => ((wide_MulDiv.f kj3 a0 a1 a2).bind fun t139 => (if t139 = t138 then ((wide_Scale.f kj3 a0 a1 a2).bind fun t140 => (if t140 = t138 then ((wide_MulUp.f kj3 a0 a1 a2).bind fun t141 => ((sat_Neg.f kj3 a0).bind fun t142 => ((clepsydraref02_MulDiv.f kj3 t142 a1 a2).bind fun t143 => (some (t141 == (wrap64 (-t143))))))) else (some false))) else (some false)))) = some r := by rw [if_neg (show ¬ (false = true) by decide)] at H; exact H
        clear H
        have H := H1
        clear H1
        replace H := Option.bind_eq_some_iff.mp H
        obtain ⟨t138, A120, H⟩ := H
        replace H : ((wide_MulDiv.f kj3 a0 a1 a2).bind fun t139 => (if t139 = t138 then ((wide_Scale.f kj3 a0 a1 a2).bind fun t140 => (if t140 = t138 then ((wide_MulUp.f kj3 a0 a1 a2).bind fun t141 => ((sat_Neg.f kj3 a0).bind fun t142 => ((clepsydraref02_MulDiv.f kj3 t142 a1 a2).bind fun t143 => (some (t141 == (wrap64 (-t143))))))) else (some false))) else (some false))) = some r := H
        have A12 := Aside0.mk A120
        clear A120
        replace H := Option.bind_eq_some_iff.mp H
        obtain ⟨t139, A130, H⟩ := H
        replace H : (if t139 = t138 then ((wide_Scale.f kj3 a0 a1 a2).bind fun t140 => (if t140 = t138 then ((wide_MulUp.f kj3 a0 a1 a2).bind fun t141 => ((sat_Neg.f kj3 a0).bind fun t142 => ((clepsydraref02_MulDiv.f kj3 t142 a1 a2).bind fun t143 => (some (t141 == (wrap64 (-t143))))))) else (some false))) else (some false)) = some r := H
        have A13 := Aside0.mk A130
        clear A130
        by_cases c14 : t139 = t138
        · rw [if_pos c14] at H
          have c14b0 : (t139 == t138) = true := beq_iff_eq.mpr c14
          have c14b1 : (t139 != t138) = false := bne_eq_false_iff_eq.mpr c14
          clear c14
          replace H := Option.bind_eq_some_iff.mp H
          obtain ⟨t140, A150, H⟩ := H
          replace H : (if t140 = t138 then ((wide_MulUp.f kj3 a0 a1 a2).bind fun t141 => ((sat_Neg.f kj3 a0).bind fun t142 => ((clepsydraref02_MulDiv.f kj3 t142 a1 a2).bind fun t143 => (some (t141 == (wrap64 (-t143))))))) else (some false)) = some r := H
          have A15 := Aside0.mk A150
          clear A150
          by_cases c16 : t140 = t138
          · rw [if_pos c16] at H
            have c16b0 : (t140 == t138) = true := beq_iff_eq.mpr c16
            have c16b1 : (t140 != t138) = false := bne_eq_false_iff_eq.mpr c16
            clear c16
            replace H := Option.bind_eq_some_iff.mp H
            obtain ⟨t141, A170, H⟩ := H
            replace H : ((sat_Neg.f kj3 a0).bind fun t142 => ((clepsydraref02_MulDiv.f kj3 t142 a1 a2).bind fun t143 => (some (t141 == (wrap64 (-t143)))))) = some r := H
            have A17 := Aside0.mk A170
            clear A170
            replace H := Option.bind_eq_some_iff.mp H
            obtain ⟨t142, A180, H⟩ := H
            replace H : ((clepsydraref02_MulDiv.f kj3 t142 a1 a2).bind fun t143 => (some (t141 == (wrap64 (-t143))))) = some r := H
            have A18 := Aside0.mk A180
            clear A180
            replace H := Option.bind_eq_some_iff.mp H
            obtain ⟨t143, A190, H⟩ := H
            replace H : (some (t141 == (wrap64 (-t143)))) = some r := H
            have A19 := Aside0.mk A190
            clear A190
            obtain rfl := Option.some.inj H
            go_wp2_with (first | ((with_reducible refine gate_callee (f := 16) rfl ?_); refine goesL_ (some 17) rfl rfl Try.func16 (by kernel_rfl) rfl #[.int .i64 a0, .int .i64 a1, .int .i64 a2] rfl (by (try simp only [List.map_toArray, List.map_cons, List.map_nil]); first | done | rfl | (simp only [List.length_drop, List.length_take]; rfl)) ?_; (with_reducible refine (clepsydraref02_MulDiv.calls kj3 a0 a1 a2 t138 _ A12.out).mono ?_); rintro e w20 ⟨rfl, hb⟩; refine ⟨_, rfl, ?_⟩; have n0_ := Aside0.mk (below_step (by repeat (first | (with_reducible first | exact HB.out | apply below_alloc | apply pw_below_drewN | apply below_drew1) | exact HB.out)) hb); clear HB; have HB := n0_; clear n0_; (try clear hb); (try clear hb2); (try clear hk); (try clear hi)) | ((with_reducible refine gate_callee (f := 14) rfl ?_); refine goesL_ (some 21) rfl rfl Try.func14 (by kernel_rfl) rfl #[.int .i64 a0, .int .i64 a1, .int .i64 a2] rfl (by (try simp only [List.map_toArray, List.map_cons, List.map_nil]); first | done | rfl | (simp only [List.length_drop, List.length_take]; rfl)) ?_; (with_reducible refine (wide_MulDiv.calls kj3 a0 a1 a2 t139 _ A13.out).mono ?_); rintro e w21 ⟨rfl, hb⟩; refine ⟨_, rfl, ?_⟩; have n0_ := Aside0.mk (below_step (by repeat (first | (with_reducible first | exact HB.out | apply below_alloc | apply pw_below_drewN | apply below_drew1) | exact HB.out)) hb); clear HB; have HB := n0_; clear n0_; (try clear hb); (try clear hb2); (try clear hk); (try clear hi)) | (go_at_call 17; (with_reducible refine (wide_Scale.calls kj3 a0 a1 a2 t140 _ A15.out).mono ?_); rintro e w22 ⟨rfl, hb⟩; have n0_ := Aside0.mk (below_step (by repeat (first | (with_reducible first | exact HB.out | apply below_alloc | apply pw_below_drewN | apply below_drew1) | exact HB.out)) hb); clear HB; have HB := n0_; clear n0_; (try clear hb); (try clear hb2); (try clear hk); (try clear hi)) | (go_at_call 15; (with_reducible refine (wide_MulUp.calls kj3 a0 a1 a2 t141 _ A17.out).mono ?_); rintro e w23 ⟨rfl, hb⟩; have n0_ := Aside0.mk (below_step (by repeat (first | (with_reducible first | exact HB.out | apply below_alloc | apply pw_below_drewN | apply below_drew1) | exact HB.out)) hb); clear HB; have HB := n0_; clear n0_; (try clear hb); (try clear hb2); (try clear hk); (try clear hi)) | (go_at_call 18; (with_reducible refine (sat_Neg.calls kj3 a0 t142 _ A18.out).mono ?_); rintro e w' ⟨rfl, ⟨nd, rfl⟩⟩) | (go_at_call 16; (with_reducible refine (clepsydraref02_MulDiv.calls kj3 t142 a1 a2 t143 _ A19.out).mono ?_); rintro e w24 ⟨rfl, hb⟩; have n0_ := Aside0.mk (below_step (by repeat (first | (with_reducible first | exact HB.out | apply below_alloc | apply pw_below_drewN | apply below_drew1) | exact HB.out)) hb); clear HB; have HB := n0_; clear n0_; (try clear hb); (try clear hb2); (try clear hk); (try clear hi)))
            go_ret
            exact ⟨by first | rfl | (simp [errW_none, errW_some] <;> rfl) | (simp [*, errW_none, errW_some] <;> rfl), by repeat (first | (with_reducible first | exact HB.out | apply below_alloc | apply pw_below_drewN | apply below_drew1) | exact HB.out)⟩
          · rw [if_neg c16] at H
            have c16b0 : (t140 == t138) = false := beq_eq_false_iff_ne.mpr c16
            have c16b1 : (t140 != t138) = true := bne_iff_ne.mpr c16
            exact absurd ((Option.some.inj H).trans hT.out) (by decide)
        · rw [if_neg c14] at H
          have c14b0 : (t139 == t138) = false := beq_eq_false_iff_ne.mpr c14
          have c14b1 : (t139 != t138) = true := bne_iff_ne.mpr c14
          exact absurd ((Option.some.inj H).trans hT.out) (by decide)

end Go.Proofs.Ytidoeplhgckmaaa.Q
