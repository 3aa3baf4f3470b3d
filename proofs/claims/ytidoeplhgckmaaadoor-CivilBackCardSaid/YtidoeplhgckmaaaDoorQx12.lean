/- The calls of these Go functions answer what the Lean functions beside them answer; written by a program (wip/pr2.py, out of the print of the loaded program); under no condition but those that stand in the theorems. -/
import Derived.Test.YtidoeplhgckmaaaDoorQx0
import Derived.Test.YtidoeplhgckmaaaDoorQx5
import Derived.Test.YtidoeplhgckmaaaDoorQx6
import Derived.Test.YtidoeplhgckmaaaDoorQx7
namespace Go.Proofs.YtidoeplhgckmaaaDoor.Q
open Go.RowKit Go.Proofs.YtidoeplhgckmaaaDoorW.PrintWords Go.Proofs.YtidoeplhgckmaaaDoorW.PrintLast Go.Proofs.YtidoeplhgckmaaaDoorW.PrintMore
attribute [local go_sem] max2_int min2_int max_two min_two max_three min_three max_four min_four   -- for this text's walks alone
set_option linter.unusedVariables false
set_option linter.unusedSimpArgs false

/-! ### clepsydralaw17_CivilBack: function 6 -/
def clepsydralaw17_CivilBack.j0 : Nat → Int → Int → Int → Option (Bool)
  | 0, _, _, _ => none
  | k + 1, x1, x2, x3 => (civil_Day.f k x1 x2 x3).bind fun bt169 => (if bt169.2 = true then ((civil_Date.f k bt169.1).bind fun bt171 => (if bt171.2.2.2 = true then (if bt171.1 = x1 then (if bt171.2.1 = x2 then (some (bt171.2.2.1 == x3)) else (some false)) else (some false)) else (some false))) else (some (bt169.1 == 0)))
def clepsydralaw17_CivilBack.f (k : Nat) (a0 : Int) (a1 : Int) (a2 : Int) (a3 : Int) : Option (Bool) := (clepsydralaw17_alive.f k).bind fun t162 => (if t162 = true then ((civil_Date.f k a0).bind fun bt163 => (if bt163.2.2.2 = true then ((civil_Day.f k bt163.1 bt163.2.1 bt163.2.2.1).bind fun bt167 => (if bt167.2 = true then (if bt167.1 = a0 then (clepsydralaw17_CivilBack.j0 k a1 a2 a3) else (some false)) else (some false))) else (clepsydralaw17_CivilBack.j0 k a1 a2 a3))) else (some false))
theorem clepsydralaw17_CivilBack.mono_l : ∀ k, (∀ y0 y1 y2, LeO (clepsydralaw17_CivilBack.j0 k y0 y1 y2) (clepsydralaw17_CivilBack.j0 (k + 1) y0 y1 y2))
  | 0 => fun _ _ _ r h => by simp [clepsydralaw17_CivilBack.j0] at h
  | k + 1 => by
    have ih0 := clepsydralaw17_CivilBack.mono_l k
    · intro y0 y1 y2
      unfold clepsydralaw17_CivilBack.j0
      repeat' first
      | (with_reducible exact ih0 _ _ _)
      | (with_reducible exact civil_Date.mono _ _)
      | (with_reducible exact civil_Day.mono _ _ _ _)
      | (with_reducible exact clepsydralaw17_alive.mono _)
      | (with_reducible exact LeO.refl _)
      | (with_reducible exact LeO.none _)
      | (with_reducible refine LeO.ite ?_ ?_)
      | (with_reducible refine LeO.bind ?_ (fun _ => ?_))
      | exact ih0 _ _ _
      | exact civil_Date.mono _ _
      | exact civil_Day.mono _ _ _ _
      | exact clepsydralaw17_alive.mono _
      | exact LeO.none _
      | refine LeO.ite ?_ ?_
      | refine LeO.bind ?_ (fun _ => ?_)
theorem clepsydralaw17_CivilBack.mono : ∀ a0 a1 a2 a3 k, LeO (clepsydralaw17_CivilBack.f k a0 a1 a2 a3) (clepsydralaw17_CivilBack.f (k + 1) a0 a1 a2 a3) := by
  intro a0 a1 a2 a3 k
  have ih0 := clepsydralaw17_CivilBack.mono_l k
  unfold clepsydralaw17_CivilBack.f
  repeat' first
      | (with_reducible exact ih0 _ _ _)
      | (with_reducible exact civil_Date.mono _ _)
      | (with_reducible exact civil_Day.mono _ _ _ _)
      | (with_reducible exact clepsydralaw17_alive.mono _)
      | (with_reducible exact LeO.refl _)
      | (with_reducible exact LeO.none _)
      | (with_reducible refine LeO.ite ?_ ?_)
      | (with_reducible refine LeO.bind ?_ (fun _ => ?_))
      | exact ih0 _ _ _
      | exact civil_Date.mono _ _
      | exact civil_Day.mono _ _ _ _
      | exact clepsydralaw17_alive.mono _
      | exact LeO.none _
      | refine LeO.ite ?_ ?_
      | refine LeO.bind ?_ (fun _ => ?_)
set_option maxHeartbeats 8000000 in
set_option maxRecDepth 100000 in
theorem clepsydralaw17_CivilBack.calls (k : Nat) (a0 : Int) (a1 : Int) (a2 : Int) (a3 : Int) (r : Bool) (w : World) (hM : GM w) (hT : Aside0 (r = true)) (h : clepsydralaw17_CivilBack.f k a0 a1 a2 a3 = some r) :
    Calls Tryd.prog 6 #[.int .i64 a0, .int .i64 a1, .int .i64 a2, .int .i64 a3] w fun e w' => e = .returned (.bool r) ∧ Below w.heap.size w w' := by
  have HB := Aside0.mk (Below.refl w.heap.size w)
  have H : ((clepsydralaw17_alive.f k).bind fun t162 => (if t162 = true then ((civil_Date.f k a0).bind fun bt163 => (if bt163.2.2.2 = true then ((civil_Day.f k bt163.1 bt163.2.1 bt163.2.2.1).bind fun bt167 => (if bt167.2 = true then (if bt167.1 = a0 then (clepsydralaw17_CivilBack.j0 k a1 a2 a3) else (some false)) else (some false))) else (clepsydralaw17_CivilBack.j0 k a1 a2 a3))) else (some false))) = some r := h
  clear h
  replace H := Option.bind_eq_some_iff.mp H
  obtain ⟨t162, A50, H⟩ := H
  replace H : (if t162 = true then ((civil_Date.f k a0).bind fun bt163 => (if bt163.2.2.2 = true then ((civil_Day.f k bt163.1 bt163.2.1 bt163.2.2.1).bind fun bt167 => (if bt167.2 = true then (if bt167.1 = a0 then (clepsydralaw17_CivilBack.j0 k a1 a2 a3) else (some false)) else (some false))) else (clepsydralaw17_CivilBack.j0 k a1 a2 a3))) else (some false)) = some r := H
  have A5 := Aside0.mk A50
  clear A50
  by_cases c6 : t162 = true
  · subst c6
    have H1 : ((civil_Date.f k a0).bind fun bt163 => (if bt163.2.2.2 = true then ((civil_Day.f k bt163.1 bt163.2.1 bt163.2.2.1).bind fun bt167 => (if bt167.2 = true then (if bt167.1 = a0 then (clepsydralaw17_CivilBack.j0 k a1 a2 a3) else (some false)) else (some false))) else (clepsydralaw17_CivilBack.j0 k a1 a2 a3))) = some r := by rw [if_pos rfl] at H; exact H
    clear H
    have H := H1
    clear H1
    replace H := Option.bind_eq_some_iff.mp H
    obtain ⟨⟨t163, t164, t165, t166⟩, A70, H⟩ := H
    replace H : (if t166 = true then ((civil_Day.f k t163 t164 t165).bind fun bt167 => (if bt167.2 = true then (if bt167.1 = a0 then (clepsydralaw17_CivilBack.j0 k a1 a2 a3) else (some false)) else (some false))) else (clepsydralaw17_CivilBack.j0 k a1 a2 a3)) = some r := H
    have A7 := Aside0.mk A70
    clear A70
    have HC8 := Aside0.mk H
    clear H
    go_enter Tryd.func6, Tryd.ntmps6
    go_upto_if 26 with (first | ((with_reducible refine gate_callee (f := 13) rfl ?_); refine goesL_ (some 17) rfl rfl Tryd.func13 (by kernel_rfl) rfl #[] rfl (by (try simp only [List.map_toArray, List.map_cons, List.map_nil]); first | done | rfl | (simp only [List.length_drop, List.length_take]; rfl)) ?_; (with_reducible refine (clepsydralaw17_alive.calls k  true _ (by first | exact hM | exact hM.below HB.out | repeat (first | exact hM | exact hM.below HB.out | apply GM.drewN | apply GM.drew)) A5.out).mono ?_); rintro e w9 ⟨rfl, hb⟩; refine ⟨_, rfl, ?_⟩; have n0_ := Aside0.mk (below_step (by repeat (first | (with_reducible first | exact HB.out | apply below_alloc | apply pw_below_drewN | apply below_drew1) | exact HB.out)) hb); clear HB; have HB := n0_; clear n0_; (try clear hb); (try clear hb2); (try clear hk); (try clear hi)) | ((with_reducible refine gate_callee (f := 16) rfl ?_); refine goesL_ (some 21) rfl rfl Tryd.func16 (by kernel_rfl) rfl #[.int .i64 a0] rfl (by (try simp only [List.map_toArray, List.map_cons, List.map_nil]); first | done | rfl | (simp only [List.length_drop, List.length_take]; rfl)) ?_; (with_reducible refine (civil_Date.calls k a0 t163 t164 t165 t166 _ (by first | exact hM | exact hM.below HB.out | repeat (first | exact hM | exact hM.below HB.out | apply GM.drewN | apply GM.drew)) A7.out).mono ?_); rintro e w10 ⟨rfl, hb⟩; refine ⟨_, rfl, ?_⟩; have n0_ := Aside0.mk (below_step (by repeat (first | (with_reducible first | exact HB.out | apply below_alloc | apply pw_below_drewN | apply below_drew1) | exact HB.out)) hb); clear HB; have HB := n0_; clear n0_; (try clear hb); (try clear hb2); (try clear hk); (try clear hi)))
    (try simp only [Act.put, List.setIfInBounds_toArray, List.set_cons_zero, List.set_cons_succ])
    go_cut [] (fun wc => ∃ (kq : Nat), Aside0 (clepsydralaw17_CivilBack.j0 kq a1 a2 a3 = some r) ∧ Aside0 (kq ≤ k) ∧ Aside0 (Below w.heap.size w wc))
    case first =>
      have H := HC8.out
      clear HC8
      by_cases c11 : t166 = true
      · subst c11
        have H1 : ((civil_Day.f k t163 t164 t165).bind fun bt167 => (if bt167.2 = true then (if bt167.1 = a0 then (clepsydralaw17_CivilBack.j0 k a1 a2 a3) else (some false)) else (some false))) = some r := by rw [if_pos rfl] at H; exact H
        clear H
        have H := H1
        clear H1
        replace H := Option.bind_eq_some_iff.mp H
        obtain ⟨⟨t167, t168⟩, A120, H⟩ := H
        replace H : (if t168 = true then (if t167 = a0 then (clepsydralaw17_CivilBack.j0 k a1 a2 a3) else (some false)) else (some false)) = some r := H
        have A12 := Aside0.mk A120
        clear A120
        by_cases c13 : t168 = true
        · subst c13
          have H1 : (if t167 = a0 then (clepsydralaw17_CivilBack.j0 k a1 a2 a3) else (some false)) = some r := by rw [if_pos rfl] at H; exact H
          clear H
          have H := H1
          clear H1
          by_cases c14 : t167 = a0
          · rw [if_pos c14] at H
            have c14b0 : (t167 == a0) = true := beq_iff_eq.mpr c14
            have c14b1 : (t167 != a0) = false := bne_eq_false_iff_eq.mpr c14
            clear c14
            (first | rw [c14b0] | (simp only [i64_w, i32_w]; rw [c14b0]) | skip)
            have H' := Aside0.mk H
            clear H
            go_wp2_with (first | ((with_reducible refine gate_callee (f := 14) rfl ?_); refine goesL_ (some 31) rfl rfl Tryd.func14 (by kernel_rfl) rfl #[.int .i64 t163, .int .i64 t164, .int .i64 t165] rfl (by (try simp only [List.map_toArray, List.map_cons, List.map_nil]); first | done | rfl | (simp only [List.length_drop, List.length_take]; rfl)) ?_; (with_reducible refine (civil_Day.calls k t163 t164 t165 t167 true _ (by first | exact hM | exact hM.below HB.out | repeat (first | exact hM | exact hM.below HB.out | apply GM.drewN | apply GM.drew)) A12.out).mono ?_); rintro e w15 ⟨rfl, hb⟩; refine ⟨_, rfl, ?_⟩; have n0_ := Aside0.mk (below_step (by repeat (first | (with_reducible first | exact HB.out | apply below_alloc | apply pw_below_drewN | apply below_drew1) | exact HB.out)) hb); clear HB; have HB := n0_; clear n0_; (try clear hb); (try clear hb2); (try clear hk); (try clear hi)))
            go_meet
            case rel => exact ⟨_, H', ⟨by first | omega | exact Nat.le_refl _⟩, ⟨by repeat (first | (with_reducible first | exact HB.out | apply below_alloc | apply pw_below_drewN | apply below_drew1) | exact HB.out)⟩⟩
          · rw [if_neg c14] at H
            have c14b0 : (t167 == a0) = false := beq_eq_false_iff_ne.mpr c14
            have c14b1 : (t167 != a0) = true := bne_iff_ne.mpr c14
            (first | rw [c14b0] | (simp only [i64_w, i32_w]; rw [c14b0]) | skip)
            exact absurd ((Option.some.inj H).trans hT.out) (by decide)
        · replace c13 := Bool.eq_false_iff.mpr c13
          subst c13
          have H1 : (some false) = some r := by rw [if_neg (show ¬ (false = true) by decide)] at H; exact H
          clear H
          have H := H1
          clear H1
          exact absurd ((Option.some.inj H).trans hT.out) (by decide)
      · replace c11 := Bool.eq_false_iff.mpr c11
        subst c11
        have H1 : (clepsydralaw17_CivilBack.j0 k a1 a2 a3) = some r := by rw [if_neg (show ¬ (false = true) by decide)] at H; exact H
        clear H
        have H := H1
        clear H1
        have H' := Aside0.mk H
        clear H
        go_wp2
        go_meet
        case rel => exact ⟨_, H', ⟨by first | omega | exact Nat.le_refl _⟩, ⟨by repeat (first | (with_reducible first | exact HB.out | apply below_alloc | apply pw_below_drewN | apply below_drew1) | exact HB.out)⟩⟩
    case rest =>
      clear HC8
      try clear c1
      try clear p2
      try clear c6
      try clear c11
      try clear c13
      try clear c14
      try clear c14b0
      try clear c14b1
      obtain ⟨kq, HA, HJ7, HB⟩ := hcut
      cases kq with
      | zero => exact absurd HA.out (by simp [clepsydralaw17_CivilBack.j0])
      | succ kj7 =>
        have H := HA.out
        clear HA
        simp only [clepsydralaw17_CivilBack.j0] at H
        replace H := Option.bind_eq_some_iff.mp H
        obtain ⟨⟨t169, t170⟩, A160, H⟩ := H
        replace H : (if t170 = true then ((civil_Date.f kj7 t169).bind fun bt171 => (if bt171.2.2.2 = true then (if bt171.1 = a1 then (if bt171.2.1 = a2 then (some (bt171.2.2.1 == a3)) else (some false)) else (some false)) else (some false))) else (some (t169 == 0))) = some r := H
        have A16 := Aside0.mk A160
        clear A160
        by_cases c17 : t170 = true
        · subst c17
          have H1 : ((civil_Date.f kj7 t169).bind fun bt171 => (if bt171.2.2.2 = true then (if bt171.1 = a1 then (if bt171.2.1 = a2 then (some (bt171.2.2.1 == a3)) else (some false)) else (some false)) else (some false))) = some r := by rw [if_pos rfl] at H; exact H
          clear H
          have H := H1
          clear H1
          replace H := Option.bind_eq_some_iff.mp H
          obtain ⟨⟨t171, t172, t173, t174⟩, A180, H⟩ := H
          replace H : (if t174 = true then (if t171 = a1 then (if t172 = a2 then (some (t173 == a3)) else (some false)) else (some false)) else (some false)) = some r := H
          have A18 := Aside0.mk A180
          clear A180
          by_cases c19 : t174 = true
          · subst c19
            have H1 : (if t171 = a1 then (if t172 = a2 then (some (t173 == a3)) else (some false)) else (some false)) = some r := by rw [if_pos rfl] at H; exact H
            clear H
            have H := H1
            clear H1
            by_cases c20 : t171 = a1
            · rw [if_pos c20] at H
              have c20b0 : (t171 == a1) = true := beq_iff_eq.mpr c20
              have c20b1 : (t171 != a1) = false := bne_eq_false_iff_eq.mpr c20
              clear c20
              by_cases c21 : t172 = a2
              · rw [if_pos c21] at H
                have c21b0 : (t172 == a2) = true := beq_iff_eq.mpr c21
                have c21b1 : (t172 != a2) = false := bne_eq_false_iff_eq.mpr c21
                clear c21
                obtain rfl := Option.some.inj H
                go_wp2_with (first | ((with_reducible refine gate_callee (f := 14) rfl ?_); refine goesL_ (some 45) rfl rfl Tryd.func14 (by kernel_rfl) rfl #[.int .i64 a1, .int .i64 a2, .int .i64 a3] rfl (by (try simp only [List.map_toArray, List.map_cons, List.map_nil]); first | done | rfl | (simp only [List.length_drop, List.length_take]; rfl)) ?_; (with_reducible refine (civil_Day.calls kj7 a1 a2 a3 t169 true _ (by first | exact hM | exact hM.below HB.out | repeat (first | exact hM | exact hM.below HB.out | apply GM.drewN | apply GM.drew)) A16.out).mono ?_); rintro e w22 ⟨rfl, hb⟩; refine ⟨_, rfl, ?_⟩; have n0_ := Aside0.mk (below_step (by repeat (first | (with_reducible first | exact HB.out | apply below_alloc | apply pw_below_drewN | apply below_drew1) | exact HB.out)) hb); clear HB; have HB := n0_; clear n0_; (try clear hb); (try clear hb2); (try clear hk); (try clear hi)) | ((with_reducible refine gate_callee (f := 16) rfl ?_); refine goesL_ (some 54) rfl rfl Tryd.func16 (by kernel_rfl) rfl #[.int .i64 t169] rfl (by (try simp only [List.map_toArray, List.map_cons, List.map_nil]); first | done | rfl | (simp only [List.length_drop, List.length_take]; rfl)) ?_; (with_reducible refine (civil_Date.calls kj7 t169 t171 t172 t173 true _ (by first | exact hM | exact hM.below HB.out | repeat (first | exact hM | exact hM.below HB.out | apply GM.drewN | apply GM.drew)) A18.out).mono ?_); rintro e w23 ⟨rfl, hb⟩; refine ⟨_, rfl, ?_⟩; have n0_ := Aside0.mk (below_step (by repeat (first | (with_reducible first | exact HB.out | apply below_alloc | apply pw_below_drewN | apply below_drew1) | exact HB.out)) hb); clear HB; have HB := n0_; clear n0_; (try clear hb); (try clear hb2); (try clear hk); (try clear hi)))
                go_ret
                exact ⟨by first | rfl | (simp [errW_none, errW_some] <;> rfl) | (simp [*, errW_none, errW_some] <;> rfl), by repeat (first | (with_reducible first | exact HB.out | apply below_alloc | apply pw_below_drewN | apply below_drew1) | exact HB.out)⟩
              · rw [if_neg c21] at H
                have c21b0 : (t172 == a2) = false := beq_eq_false_iff_ne.mpr c21
                have c21b1 : (t172 != a2) = true := bne_iff_ne.mpr c21
                exact absurd ((Option.some.inj H).trans hT.out) (by decide)
            · rw [if_neg c20] at H
              have c20b0 : (t171 == a1) = false := beq_eq_false_iff_ne.mpr c20
              have c20b1 : (t171 != a1) = true := bne_iff_ne.mpr c20
              exact absurd ((Option.some.inj H).trans hT.out) (by decide)
          · replace c19 := Bool.eq_false_iff.mpr c19
            subst c19
            have H1 : (some false) = some r := by rw [if_neg (show ¬ (false = true) by decide)] at H; exact H
            clear H
            have H := H1
            clear H1
            exact absurd ((Option.some.inj H).trans hT.out) (by decide)
        · replace c17 := Bool.eq_false_iff.mpr c17
          subst c17
          have H1 : (some (t169 == 0)) = some r := by rw [if_neg (show ¬ (false = true) by decide)] at H; exact H
          clear H
          have H := H1
          clear H1
          obtain rfl := Option.some.inj H
          go_wp2_with (first | ((with_reducible refine gate_callee (f := 14) rfl ?_); refine goesL_ (some 45) rfl rfl Tryd.func14 (by kernel_rfl) rfl #[.int .i64 a1, .int .i64 a2, .int .i64 a3] rfl (by (try simp only [List.map_toArray, List.map_cons, List.map_nil]); first | done | rfl | (simp only [List.length_drop, List.length_take]; rfl)) ?_; (with_reducible refine (civil_Day.calls kj7 a1 a2 a3 t169 false _ (by first | exact hM | exact hM.below HB.out | repeat (first | exact hM | exact hM.below HB.out | apply GM.drewN | apply GM.drew)) A16.out).mono ?_); rintro e w24 ⟨rfl, hb⟩; refine ⟨_, rfl, ?_⟩; have n0_ := Aside0.mk (below_step (by repeat (first | (with_reducible first | exact HB.out | apply below_alloc | apply pw_below_drewN | apply below_drew1) | exact HB.out)) hb); clear HB; have HB := n0_; clear n0_; (try clear hb); (try clear hb2); (try clear hk); (try clear hi)))
          go_ret
          exact ⟨by first | rfl | (simp [errW_none, errW_some] <;> rfl) | (simp [*, errW_none, errW_some] <;> rfl), by repeat (first | (with_reducible first | exact HB.out | apply below_alloc | apply pw_below_drewN | apply below_drew1) | exact HB.out)⟩
  · replace c6 := Bool.eq_false_iff.mpr c6
    subst c6
    have H1 : (some false) = some r := by rw [if_neg (show ¬ (false = true) by decide)] at H; exact H
    clear H
    have H := H1
    clear H1
    exact absurd ((Option.some.inj H).trans hT.out) (by decide)

end Go.Proofs.YtidoeplhgckmaaaDoor.Q
