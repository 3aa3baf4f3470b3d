/- The calls of these Go functions answer what the Lean functions beside them answer; written by a program (wip/pr2.py, out of the print of the loaded program); under no condition but those that stand in the theorems. -/
import Derived.Test.YtidoeplhgckmaaaDoorQx0
import Derived.Test.YtidoeplhgckmaaaDoorQx1
import Derived.Test.YtidoeplhgckmaaaDoorQx2
namespace Go.Proofs.YtidoeplhgckmaaaDoor.Q
open Go.RowKit Go.Proofs.YtidoeplhgckmaaaDoorW.PrintWords Go.Proofs.YtidoeplhgckmaaaDoorW.PrintLast Go.Proofs.YtidoeplhgckmaaaDoorW.PrintMore
attribute [local go_sem] max2_int min2_int max_two min_two max_three min_three max_four min_four   -- for this text's walks alone
set_option linter.unusedVariables false
set_option linter.unusedSimpArgs false

/-! ### clepsydralaw17_CivilMonths: function 3 -/
def clepsydralaw17_CivilMonths.j0 : Nat → Int → Int → Bool → Option (Bool)
  | 0, _, _, _ => none
  | k + 1, x0, x1, x13 => if x13 = true then (some false) else ((civil_Leap.f x0).bind fun t107 => ((clepsydraref17_Leap.f x0).bind fun t108 => (if (t107 == t108) = true then ((civil_Days.f k x0 x1).bind fun t109 => ((clepsydraref17_Days.f k x0 x1).bind fun t110 => (some (t109 == t110)))) else (some false))))
def clepsydralaw17_CivilMonths.f (k : Nat) (a0 : Int) (a1 : Int) : Option (Bool) := (civil_Leap.f 2000).bind fun t104 => (if t104 = true then ((civil_Leap.f 1900).bind fun t105 => (if t105 = true then (clepsydralaw17_CivilMonths.j0 k a0 a1 true) else ((civil_Days.f k 2023 2).bind fun t106 => (clepsydralaw17_CivilMonths.j0 k a0 a1 (t106 != 28))))) else (clepsydralaw17_CivilMonths.j0 k a0 a1 true))
theorem clepsydralaw17_CivilMonths.mono_l : ∀ k, (∀ y0 y1 y2, LeO (clepsydralaw17_CivilMonths.j0 k y0 y1 y2) (clepsydralaw17_CivilMonths.j0 (k + 1) y0 y1 y2))
  | 0 => fun _ _ _ r h => by simp [clepsydralaw17_CivilMonths.j0] at h
  | k + 1 => by
    have ih0 := clepsydralaw17_CivilMonths.mono_l k
    · intro y0 y1 y2
      unfold clepsydralaw17_CivilMonths.j0
      repeat' first
      | (with_reducible exact ih0 _ _ _)
      | (with_reducible exact civil_Days.mono _ _ _)
      | (with_reducible exact clepsydraref17_Days.mono _ _ _)
      | (with_reducible exact LeO.refl _)
      | (with_reducible exact LeO.none _)
      | (with_reducible refine LeO.ite ?_ ?_)
      | (with_reducible refine LeO.bind ?_ (fun _ => ?_))
      | exact ih0 _ _ _
      | exact civil_Days.mono _ _ _
      | exact clepsydraref17_Days.mono _ _ _
      | exact LeO.none _
      | refine LeO.ite ?_ ?_
      | refine LeO.bind ?_ (fun _ => ?_)
theorem clepsydralaw17_CivilMonths.mono : ∀ a0 a1 k, LeO (clepsydralaw17_CivilMonths.f k a0 a1) (clepsydralaw17_CivilMonths.f (k + 1) a0 a1) := by
  intro a0 a1 k
  have ih0 := clepsydralaw17_CivilMonths.mono_l k
  unfold clepsydralaw17_CivilMonths.f
  repeat' first
      | (with_reducible exact ih0 _ _ _)
      | (with_reducible exact civil_Days.mono _ _ _)
      | (with_reducible exact clepsydraref17_Days.mono _ _ _)
      | (with_reducible exact LeO.refl _)
      | (with_reducible exact LeO.none _)
      | (with_reducible refine LeO.ite ?_ ?_)
      | (with_reducible refine LeO.bind ?_ (fun _ => ?_))
      | exact ih0 _ _ _
      | exact civil_Days.mono _ _ _
      | exact clepsydraref17_Days.mono _ _ _
      | exact LeO.none _
      | refine LeO.ite ?_ ?_
      | refine LeO.bind ?_ (fun _ => ?_)
set_option maxHeartbeats 8000000 in
set_option maxRecDepth 100000 in
theorem clepsydralaw17_CivilMonths.calls (k : Nat) (a0 : Int) (a1 : Int) (r : Bool) (w : World) (hM : GM w) (hT : Aside0 (r = true)) (h : clepsydralaw17_CivilMonths.f k a0 a1 = some r) :
    Calls Tryd.prog 3 #[.int .i64 a0, .int .i64 a1] w fun e w' => e = .returned (.bool r) ∧ Drawn0 w w' := by
  have H : ((civil_Leap.f 2000).bind fun t104 => (if t104 = true then ((civil_Leap.f 1900).bind fun t105 => (if t105 = true then (clepsydralaw17_CivilMonths.j0 k a0 a1 true) else ((civil_Days.f k 2023 2).bind fun t106 => (clepsydralaw17_CivilMonths.j0 k a0 a1 (t106 != 28))))) else (clepsydralaw17_CivilMonths.j0 k a0 a1 true))) = some r := h
  clear h
  have HC3 := Aside0.mk H
  clear H
  go_enter Tryd.func3, Tryd.ntmps3
  go_upto_region 1 with (fail)
  go_cut [13] (fun v13 wc => ∃ (kq : Nat) (x13_2 : Bool), v13 = .bool x13_2 ∧ Aside0 (clepsydralaw17_CivilMonths.j0 kq a0 a1 x13_2 = some r) ∧ Aside0 (kq ≤ k) ∧ Drawn0 w wc)
  case first =>
    have H := HC3.out
    clear HC3
    replace H := Option.bind_eq_some_iff.mp H
    obtain ⟨t104, A40, H⟩ := H
    replace H : (if t104 = true then ((civil_Leap.f 1900).bind fun t105 => (if t105 = true then (clepsydralaw17_CivilMonths.j0 k a0 a1 true) else ((civil_Days.f k 2023 2).bind fun t106 => (clepsydralaw17_CivilMonths.j0 k a0 a1 (t106 != 28))))) else (clepsydralaw17_CivilMonths.j0 k a0 a1 true)) = some r := H
    have A4 := Aside0.mk A40
    clear A40
    by_cases c5 : t104 = true
    · subst c5
      have H1 : ((civil_Leap.f 1900).bind fun t105 => (if t105 = true then (clepsydralaw17_CivilMonths.j0 k a0 a1 true) else ((civil_Days.f k 2023 2).bind fun t106 => (clepsydralaw17_CivilMonths.j0 k a0 a1 (t106 != 28))))) = some r := by rw [if_pos rfl] at H; exact H
      clear H
      have H := H1
      clear H1
      replace H := Option.bind_eq_some_iff.mp H
      obtain ⟨t105, A60, H⟩ := H
      replace H : (if t105 = true then (clepsydralaw17_CivilMonths.j0 k a0 a1 true) else ((civil_Days.f k 2023 2).bind fun t106 => (clepsydralaw17_CivilMonths.j0 k a0 a1 (t106 != 28)))) = some r := H
      have A6 := Aside0.mk A60
      clear A60
      by_cases c7 : t105 = true
      · subst c7
        have H1 : (clepsydralaw17_CivilMonths.j0 k a0 a1 true) = some r := by rw [if_pos rfl] at H; exact H
        clear H
        have H := H1
        clear H1
        have H' := Aside0.mk H
        clear H
        go_wp2_with (first | ((with_reducible refine gate_callee (f := 9) rfl ?_); refine goesL_ (some 5) rfl rfl Tryd.func9 (by kernel_rfl) rfl #[.int .i64 2000] rfl (by (try simp only [List.map_toArray, List.map_cons, List.map_nil]); first | done | rfl | (simp only [List.length_drop, List.length_take]; rfl)) ?_; (with_reducible refine (civil_Leap.calls 2000 true _ A4.out).mono ?_); rintro e w' ⟨rfl, ⟨nd, rfl⟩⟩; refine ⟨_, rfl, ?_⟩) | (go_at_call 9; (with_reducible refine (civil_Leap.calls 1900 true _ A6.out).mono ?_); rintro e w' ⟨rfl, ⟨nd, rfl⟩⟩))
        go_meet
        case rel => exact ⟨_, (true), (by first | rfl | (simp; done) | (simp [*]; done) | (simp [Int.tdiv_eq_ediv_of_nonneg]; done) | (simp [Go.RowKit.wrap64]; done) | (simp [*, Go.RowKit.wrap64]; done)), H', ⟨by first | omega | exact Nat.le_refl _⟩, by repeat (first | exact Drawn0.refl _ | apply Drawn0.step)⟩
      · replace c7 := Bool.eq_false_iff.mpr c7
        subst c7
        have H1 : ((civil_Days.f k 2023 2).bind fun t106 => (clepsydralaw17_CivilMonths.j0 k a0 a1 (t106 != 28))) = some r := by rw [if_neg (show ¬ (false = true) by decide)] at H; exact H
        clear H
        have H := H1
        clear H1
        replace H := Option.bind_eq_some_iff.mp H
        obtain ⟨t106, A80, H⟩ := H
        replace H : (clepsydralaw17_CivilMonths.j0 k a0 a1 (t106 != 28)) = some r := H
        have A8 := Aside0.mk A80
        clear A80
        have H' := Aside0.mk H
        clear H
        go_wp2_with (first | ((with_reducible refine gate_callee (f := 9) rfl ?_); refine goesL_ (some 5) rfl rfl Tryd.func9 (by kernel_rfl) rfl #[.int .i64 2000] rfl (by (try simp only [List.map_toArray, List.map_cons, List.map_nil]); first | done | rfl | (simp only [List.length_drop, List.length_take]; rfl)) ?_; (with_reducible refine (civil_Leap.calls 2000 true _ A4.out).mono ?_); rintro e w' ⟨rfl, ⟨nd, rfl⟩⟩; refine ⟨_, rfl, ?_⟩) | (go_at_call 9; (with_reducible refine (civil_Leap.calls 1900 false _ A6.out).mono ?_); rintro e w' ⟨rfl, ⟨nd, rfl⟩⟩) | (go_at_call 10; (with_reducible refine (civil_Days.calls k 2023 2 t106 _ (by first | exact hM | exact hM.below HB.out | repeat (first | exact hM | exact hM.below HB.out | apply GM.drewN | apply GM.drew)) A8.out).mono ?_); rintro e w' ⟨rfl, ⟨nd, rfl⟩⟩))
        go_meet
        case rel => exact ⟨_, ((t106 != 28)), (by first | rfl | (simp; done) | (simp [*]; done) | (simp [Int.tdiv_eq_ediv_of_nonneg]; done) | (simp [Go.RowKit.wrap64]; done) | (simp [*, Go.RowKit.wrap64]; done)), H', ⟨by first | omega | exact Nat.le_refl _⟩, by repeat (first | exact Drawn0.refl _ | apply Drawn0.step)⟩
    · replace c5 := Bool.eq_false_iff.mpr c5
      subst c5
      have H1 : (clepsydralaw17_CivilMonths.j0 k a0 a1 true) = some r := by rw [if_neg (show ¬ (false = true) by decide)] at H; exact H
      clear H
      have H := H1
      clear H1
      have H' := Aside0.mk H
      clear H
      go_wp2_with (first | ((with_reducible refine gate_callee (f := 9) rfl ?_); refine goesL_ (some 5) rfl rfl Tryd.func9 (by kernel_rfl) rfl #[.int .i64 2000] rfl (by (try simp only [List.map_toArray, List.map_cons, List.map_nil]); first | done | rfl | (simp only [List.length_drop, List.length_take]; rfl)) ?_; (with_reducible refine (civil_Leap.calls 2000 false _ A4.out).mono ?_); rintro e w' ⟨rfl, ⟨nd, rfl⟩⟩; refine ⟨_, rfl, ?_⟩))
      go_meet
      case rel => exact ⟨_, (true), (by first | rfl | (simp; done) | (simp [*]; done) | (simp [Int.tdiv_eq_ediv_of_nonneg]; done) | (simp [Go.RowKit.wrap64]; done) | (simp [*, Go.RowKit.wrap64]; done)), H', ⟨by first | omega | exact Nat.le_refl _⟩, by repeat (first | exact Drawn0.refl _ | apply Drawn0.step)⟩
  case rest =>
    clear HC3
    try clear p2
    try clear c3
    try clear c5
    try clear c7
    obtain ⟨kq, x13_2, rfl, HA, HJ2, ⟨mc2, rfl⟩⟩ := hcut
    cases kq with
    | zero => exact absurd HA.out (by simp [clepsydralaw17_CivilMonths.j0])
    | succ kj2 =>
      have H := HA.out
      clear HA
      simp only [clepsydralaw17_CivilMonths.j0] at H
      by_cases c9 : x13_2 = true
      · subst c9
        have H1 : (some false) = some r := by rw [if_pos rfl] at H; exact H
        clear H
        have H := H1
        clear H1
        exact absurd ((Option.some.inj H).trans hT.out) (by decide)
      · replace c9 := Bool.eq_false_iff.mpr c9
        subst c9
        have H1 : ((civil_Leap.f a0).bind fun t107 => ((clepsydraref17_Leap.f a0).bind fun t108 => (if (t107 == t108) = true then ((civil_Days.f kj2 a0 a1).bind fun t109 => ((clepsydraref17_Days.f kj2 a0 a1).bind fun t110 => (some (t109 == t110)))) else (some false)))) = some r := by rw [if_neg (show ¬ (false = true) by decide)] at H; exact H
        clear H
        have H := H1
        clear H1
        replace H := Option.bind_eq_some_iff.mp H
        obtain ⟨t107, A100, H⟩ := H
        replace H : ((clepsydraref17_Leap.f a0).bind fun t108 => (if (t107 == t108) = true then ((civil_Days.f kj2 a0 a1).bind fun t109 => ((clepsydraref17_Days.f kj2 a0 a1).bind fun t110 => (some (t109 == t110)))) else (some false))) = some r := H
        have A10 := Aside0.mk A100
        clear A100
        replace H := Option.bind_eq_some_iff.mp H
        obtain ⟨t108, A110, H⟩ := H
        replace H : (if (t107 == t108) = true then ((civil_Days.f kj2 a0 a1).bind fun t109 => ((clepsydraref17_Days.f kj2 a0 a1).bind fun t110 => (some (t109 == t110)))) else (some false)) = some r := H
        have A11 := Aside0.mk A110
        clear A110
        by_cases c12 : (t107 == t108) = true
        · rw [if_pos c12] at H
          have c12b0 : (t107 == t108) = true := c12
          (try (have c12b1 : decide (t107 = t108) = true := by simpa using c12))
          (try (have c12b2 : (t107 == t108) = true := by simpa using c12))
          clear c12
          replace H := Option.bind_eq_some_iff.mp H
          obtain ⟨t109, A130, H⟩ := H
          replace H : ((clepsydraref17_Days.f kj2 a0 a1).bind fun t110 => (some (t109 == t110))) = some r := H
          have A13 := Aside0.mk A130
          clear A130
          replace H := Option.bind_eq_some_iff.mp H
          obtain ⟨t110, A140, H⟩ := H
          replace H : (some (t109 == t110)) = some r := H
          have A14 := Aside0.mk A140
          clear A140
          obtain rfl := Option.some.inj H
          go_wp2_with (first | ((with_reducible refine gate_callee (f := 9) rfl ?_); refine goesL_ (some 15) rfl rfl Tryd.func9 (by kernel_rfl) rfl #[.int .i64 a0] rfl (by (try simp only [List.map_toArray, List.map_cons, List.map_nil]); first | done | rfl | (simp only [List.length_drop, List.length_take]; rfl)) ?_; (with_reducible refine (civil_Leap.calls a0 t107 _ A10.out).mono ?_); rintro e w' ⟨rfl, ⟨nd, rfl⟩⟩; refine ⟨_, rfl, ?_⟩) | ((with_reducible refine gate_callee (f := 11) rfl ?_); refine goesL_ (some 17) rfl rfl Tryd.func11 (by kernel_rfl) rfl #[.int .i64 a0] rfl (by (try simp only [List.map_toArray, List.map_cons, List.map_nil]); first | done | rfl | (simp only [List.length_drop, List.length_take]; rfl)) ?_; (with_reducible refine (clepsydraref17_Leap.calls a0 t108 _ A11.out).mono ?_); rintro e w' ⟨rfl, ⟨nd, rfl⟩⟩; refine ⟨_, rfl, ?_⟩) | (go_at_call 10; (with_reducible refine (civil_Days.calls kj2 a0 a1 t109 _ (by first | exact hM | exact hM.below HB.out | repeat (first | exact hM | exact hM.below HB.out | apply GM.drewN | apply GM.drew)) A13.out).mono ?_); rintro e w' ⟨rfl, ⟨nd, rfl⟩⟩) | (go_at_call 12; (with_reducible refine (clepsydraref17_Days.calls kj2 a0 a1 t110 _ A14.out).mono ?_); rintro e w' ⟨rfl, ⟨nd, rfl⟩⟩))
          go_ret
          exact ⟨by first | rfl | (simp; done) | (simp [*]; done) | (simp [Int.tdiv_eq_ediv_of_nonneg]; done) | (simp [Go.RowKit.wrap64]; done) | (simp [*, Go.RowKit.wrap64]; done), by repeat (first | exact Drawn0.refl _ | apply Drawn0.step)⟩
        · rw [if_neg c12] at H
          have c12b0 : (t107 == t108) = false := by simpa using c12
          (try (have c12b1 : decide (t107 = t108) = false := by simpa using c12))
          (try (have c12b2 : (t107 == t108) = false := by simpa using c12))
          (try (have c12b3 : ¬ (t107 = t108) := by simpa using c12))
          clear c12
          exact absurd ((Option.some.inj H).trans hT.out) (by decide)

end Go.Proofs.YtidoeplhgckmaaaDoor.Q
