/- The calls of these Go functions answer what the Lean functions beside them answer; written by a program (wip/pr2.py, out of the print of the loaded program); under no condition but those that stand in the theorems. -/
import Derived.Test.YtopaldkmgaflmaaQx0
import Derived.Test.YtopaldkmgaflmaaQx9
namespace Go.Proofs.Ytopaldkmgaflmaa.Q
open Go.RowKit Go.Proofs.YtopaldkmgaflmaaW.PrintWords Go.Proofs.YtopaldkmgaflmaaW.PrintLast Go.Proofs.YtopaldkmgaflmaaW.PrintMore
attribute [local go_sem] max2_int min2_int max_two min_two max_three min_three max_four min_four   -- for this text's walks alone
set_option linter.unusedVariables false
set_option linter.unusedSimpArgs false

/-! ### sat_Mul: function 34 -/
def sat_Mul.j0 : Nat → Int → Int → Int → Int → Int → Bool → Option (Int)
  | 0, _, _, _, _, _, _ => none
  | k + 1, x0, x1, x5, x6, x7, x19 => if x19 = true then (if ((decide (x0 < 0)) != (decide (x1 < 0))) = true then (some (wrap64 (-(wrap64 (x5 * x6))))) else (some (wrap64 (x5 * x6)))) else (if ((decide (x0 < 0)) != (decide (x1 < 0))) = true then (some (wrap64 (-x7))) else (some x7))
def sat_Mul.f (k : Nat) (a0 : Int) (a1 : Int) : Option (Int) := (sat_Abs.f k a0).bind fun t216 => ((sat_Abs.f k a1).bind fun t217 => (if t216 = 0 then (sat_Mul.j0 k a0 a1 t216 t217 2305843009213693952 true) else (sat_Mul.j0 k a0 a1 t216 t217 2305843009213693952 (decide (t217 ≤ (wrap64 ((2305843009213693952 : Int) / t216)))))))
theorem sat_Mul.mono_l : ∀ k, (∀ y0 y1 y2 y3 y4 y5, LeO (sat_Mul.j0 k y0 y1 y2 y3 y4 y5) (sat_Mul.j0 (k + 1) y0 y1 y2 y3 y4 y5))
  | 0 => fun _ _ _ _ _ _ r h => by simp [sat_Mul.j0] at h
  | k + 1 => by
    have ih0 := sat_Mul.mono_l k
    · intro y0 y1 y2 y3 y4 y5
      unfold sat_Mul.j0
      repeat' first
      | (with_reducible exact ih0 _ _ _ _ _ _)
      | (with_reducible exact sat_Abs.mono _ _)
      | (with_reducible exact LeO.refl _)
      | (with_reducible exact LeO.none _)
      | (with_reducible refine LeO.ite ?_ ?_)
      | (with_reducible refine LeO.bind ?_ (fun _ => ?_))
      | exact ih0 _ _ _ _ _ _
      | exact sat_Abs.mono _ _
      | exact LeO.none _
      | refine LeO.ite ?_ ?_
      | refine LeO.bind ?_ (fun _ => ?_)
theorem sat_Mul.mono : ∀ a0 a1 k, LeO (sat_Mul.f k a0 a1) (sat_Mul.f (k + 1) a0 a1) := by
  intro a0 a1 k
  have ih0 := sat_Mul.mono_l k
  unfold sat_Mul.f
  repeat' first
      | (with_reducible exact ih0 _ _ _ _ _ _)
      | (with_reducible exact sat_Abs.mono _ _)
      | (with_reducible exact LeO.refl _)
      | (with_reducible exact LeO.none _)
      | (with_reducible refine LeO.ite ?_ ?_)
      | (with_reducible refine LeO.bind ?_ (fun _ => ?_))
      | exact ih0 _ _ _ _ _ _
      | exact sat_Abs.mono _ _
      | exact LeO.none _
      | refine LeO.ite ?_ ?_
      | refine LeO.bind ?_ (fun _ => ?_)
set_option maxHeartbeats 8000000 in
set_option maxRecDepth 100000 in
theorem sat_Mul.calls (k : Nat) (a0 : Int) (a1 : Int) (r : Int) (w : World) (h : sat_Mul.f k a0 a1 = some r) :
    Calls Try.prog 34 #[.int .i64 a0, .int .i64 a1] w fun e w' => e = .returned (.int .i64 r) ∧ Drawn0 w w' := by
  have H : ((sat_Abs.f k a0).bind fun t216 => ((sat_Abs.f k a1).bind fun t217 => (if t216 = 0 then (sat_Mul.j0 k a0 a1 t216 t217 2305843009213693952 true) else (sat_Mul.j0 k a0 a1 t216 t217 2305843009213693952 (decide (t217 ≤ (wrap64 ((2305843009213693952 : Int) / t216)))))))) = some r := h
  clear h
  replace H := Option.bind_eq_some_iff.mp H
  obtain ⟨t216, A30, H⟩ := H
  replace H : ((sat_Abs.f k a1).bind fun t217 => (if t216 = 0 then (sat_Mul.j0 k a0 a1 t216 t217 2305843009213693952 true) else (sat_Mul.j0 k a0 a1 t216 t217 2305843009213693952 (decide (t217 ≤ (wrap64 ((2305843009213693952 : Int) / t216))))))) = some r := H
  have A3 := Aside0.mk A30
  clear A30
  replace H := Option.bind_eq_some_iff.mp H
  obtain ⟨t217, A40, H⟩ := H
  replace H : (if t216 = 0 then (sat_Mul.j0 k a0 a1 t216 t217 2305843009213693952 true) else (sat_Mul.j0 k a0 a1 t216 t217 2305843009213693952 (decide (t217 ≤ (wrap64 ((2305843009213693952 : Int) / t216)))))) = some r := H
  have A4 := Aside0.mk A40
  clear A40
  have HC5 := Aside0.mk H
  clear H
  go_enter Try.func34, Try.ntmps34
  go_upto_region 3 with (first | ((with_reducible refine gate_callee (f := 22) rfl ?_); refine goesL_ (some 9) rfl rfl Try.func22 (by kernel_rfl) rfl #[.int .i64 a0] rfl (by (try simp only [List.map_toArray, List.map_cons, List.map_nil]); first | done | rfl | (simp only [List.length_drop, List.length_take]; rfl)) ?_; (with_reducible refine (sat_Abs.calls k a0 t216 _ A3.out).mono ?_); rintro e w' ⟨rfl, ⟨nd, rfl⟩⟩; refine ⟨_, rfl, ?_⟩) | ((with_reducible refine gate_callee (f := 22) rfl ?_); refine goesL_ (some 11) rfl rfl Try.func22 (by kernel_rfl) rfl #[.int .i64 a1] rfl (by (try simp only [List.map_toArray, List.map_cons, List.map_nil]); first | done | rfl | (simp only [List.length_drop, List.length_take]; rfl)) ?_; (with_reducible refine (sat_Abs.calls k a1 t217 _ A4.out).mono ?_); rintro e w' ⟨rfl, ⟨nd, rfl⟩⟩; refine ⟨_, rfl, ?_⟩))
  (try simp only [Act.put, List.setIfInBounds_toArray, List.set_cons_zero, List.set_cons_succ])
  go_cut [19] (fun v19 wc => ∃ (kq : Nat) (x19_4 : Bool), v19 = .bool x19_4 ∧ Aside0 (sat_Mul.j0 kq a0 a1 t216 t217 2305843009213693952 x19_4 = some r) ∧ Aside0 (kq ≤ k) ∧ Drawn0 w wc)
  case first =>
    have H := HC5.out
    clear HC5
    by_cases c6 : t216 = 0
    · rw [if_pos c6] at H
      have c6b0 : (t216 == 0) = true := beq_iff_eq.mpr c6
      have c6b1 : (t216 != 0) = false := bne_eq_false_iff_eq.mpr c6
      clear c6
      (first | rw [c6b0] | (simp only [i64_w, i32_w]; rw [c6b0]) | skip)
      have H' := Aside0.mk H
      clear H
      go_wp2
      go_meet
      case rel => exact ⟨_, (true), (by first | rfl | (simp; done) | (simp [*]; done) | (simp [Int.tdiv_eq_ediv_of_nonneg]; done) | (simp [Go.RowKit.wrap64]; done) | (simp [*, Go.RowKit.wrap64]; done)), H', ⟨by first | omega | exact Nat.le_refl _⟩, by repeat (first | exact Drawn0.refl _ | apply Drawn0.step)⟩
    · rw [if_neg c6] at H
      have c6b0 : (t216 == 0) = false := beq_eq_false_iff_ne.mpr c6
      have c6b1 : (t216 != 0) = true := bne_iff_ne.mpr c6
      (first | rw [c6b0] | (simp only [i64_w, i32_w]; rw [c6b0]) | skip)
      have H' := Aside0.mk H
      clear H
      go_wp2
      go_meet
      case rel => exact ⟨_, (decide (t217 ≤ (wrap64 ((2305843009213693952 : Int) / t216)))), (by first | rfl | (simp; done) | (simp [*]; done) | (simp [Int.tdiv_eq_ediv_of_nonneg]; done) | (simp [Go.RowKit.wrap64]; done) | (simp [*, Go.RowKit.wrap64]; done)), H', ⟨by first | omega | exact Nat.le_refl _⟩, by repeat (first | exact Drawn0.refl _ | apply Drawn0.step)⟩
  case rest =>
    clear HC5
    try clear c2
    try clear p2
    try clear c3
    try clear c6
    try clear c6b0
    try clear c6b1
    try clear p6
    obtain ⟨kq, x19_4, rfl, HA, HJ4, ⟨mc4, rfl⟩⟩ := hcut
    cases kq with
    | zero => exact absurd HA.out (by simp [sat_Mul.j0])
    | succ kj4 =>
      have H := HA.out
      clear HA
      simp only [sat_Mul.j0] at H
      by_cases c7 : x19_4 = true
      · subst c7
        have H1 : (if ((decide (a0 < 0)) != (decide (a1 < 0))) = true then (some (wrap64 (-(wrap64 (t216 * t217))))) else (some (wrap64 (t216 * t217)))) = some r := by rw [if_pos rfl] at H; exact H
        clear H
        have H := H1
        clear H1
        by_cases c8 : ((decide (a0 < 0)) != (decide (a1 < 0))) = true
        · rw [if_pos c8] at H
          have c8b0 : ((decide (a0 < 0)) != (decide (a1 < 0))) = true := c8
          (try (have c8b1 : decide ((decide (a0 < 0)) = (decide (a1 < 0))) = false := by simpa using c8))
          (try (have c8b2 : ((decide (a0 < 0)) == (decide (a1 < 0))) = false := by simpa using c8))
          (try (have c8b3 : ¬ ((decide (a0 < 0)) = (decide (a1 < 0))) := by simpa using c8))
          clear c8
          obtain rfl := Option.some.inj H
          go_wp2
          go_ret
          exact ⟨by first | rfl | (simp; done) | (simp [*]; done) | (simp [Int.tdiv_eq_ediv_of_nonneg]; done) | (simp [Go.RowKit.wrap64]; done) | (simp [*, Go.RowKit.wrap64]; done), by repeat (first | exact Drawn0.refl _ | apply Drawn0.step)⟩
        · rw [if_neg c8] at H
          have c8b0 : ((decide (a0 < 0)) != (decide (a1 < 0))) = false := by simpa using c8
          (try (have c8b1 : decide ((decide (a0 < 0)) = (decide (a1 < 0))) = true := by simpa using c8))
          (try (have c8b2 : ((decide (a0 < 0)) == (decide (a1 < 0))) = true := by simpa using c8))
          clear c8
          obtain rfl := Option.some.inj H
          go_wp2
          go_ret
          exact ⟨by first | rfl | (simp; done) | (simp [*]; done) | (simp [Int.tdiv_eq_ediv_of_nonneg]; done) | (simp [Go.RowKit.wrap64]; done) | (simp [*, Go.RowKit.wrap64]; done), by repeat (first | exact Drawn0.refl _ | apply Drawn0.step)⟩
      · replace c7 := Bool.eq_false_iff.mpr c7
        subst c7
        have H1 : (if ((decide (a0 < 0)) != (decide (a1 < 0))) = true then (some (wrap64 (-2305843009213693952))) else (some 2305843009213693952)) = some r := by rw [if_neg (show ¬ (false = true) by decide)] at H; exact H
        clear H
        have H := H1
        clear H1
        by_cases c9 : ((decide (a0 < 0)) != (decide (a1 < 0))) = true
        · rw [if_pos c9] at H
          have c9b0 : ((decide (a0 < 0)) != (decide (a1 < 0))) = true := c9
          (try (have c9b1 : decide ((decide (a0 < 0)) = (decide (a1 < 0))) = false := by simpa using c9))
          (try (have c9b2 : ((decide (a0 < 0)) == (decide (a1 < 0))) = false := by simpa using c9))
          (try (have c9b3 : ¬ ((decide (a0 < 0)) = (decide (a1 < 0))) := by simpa using c9))
          clear c9
          obtain rfl := Option.some.inj H
          go_wp2
          go_ret
          exact ⟨by first | rfl | (simp; done) | (simp [*]; done) | (simp [Int.tdiv_eq_ediv_of_nonneg]; done) | (simp [Go.RowKit.wrap64]; done) | (simp [*, Go.RowKit.wrap64]; done), by repeat (first | exact Drawn0.refl _ | apply Drawn0.step)⟩
        · rw [if_neg c9] at H
          have c9b0 : ((decide (a0 < 0)) != (decide (a1 < 0))) = false := by simpa using c9
          (try (have c9b1 : decide ((decide (a0 < 0)) = (decide (a1 < 0))) = true := by simpa using c9))
          (try (have c9b2 : ((decide (a0 < 0)) == (decide (a1 < 0))) = true := by simpa using c9))
          clear c9
          obtain rfl := Option.some.inj H
          go_wp2
          go_ret
          exact ⟨by first | rfl | (simp; done) | (simp [*]; done) | (simp [Int.tdiv_eq_ediv_of_nonneg]; done) | (simp [Go.RowKit.wrap64]; done) | (simp [*, Go.RowKit.wrap64]; done), by repeat (first | exact Drawn0.refl _ | apply Drawn0.step)⟩

/-! ### clepsydraref01_Mul: function 35 -/
mutual
def clepsydraref01_Mul.l0 : Nat → Int → Int → Int → Int → Option (Int)
  | 0, _, _, _, _ => none
  | k + 1, x0, x1, x5, x6 => if x6 ≥ 0 then ((clepsydraref01_Clip.f (wrap64 (2 * x5))).bind fun t221 => (if 0 ≤ (IntKind.u64.wrap (x6)) then (if (Go.bits .and .i64 (shr .i64 x1 (IntKind.u64.wrap (x6))) 1) = 1 then ((clepsydraref01_Clip.f (wrap64 (t221 + x0))).bind fun t222 => (clepsydraref01_Mul.l0 k x0 x1 t222 (wrap64 (x6 - 1)))) else (clepsydraref01_Mul.l0 k x0 x1 t221 (wrap64 (x6 - 1)))) else (none))) else (some x5)
def clepsydraref01_Mul.f : Nat → Int → Int → Option (Int)
  | 0, _, _ => none
  | k + 1, a0, a1 => (clepsydraref01_Clip.f a0).bind fun t218 => ((clepsydraref01_Clip.f a1).bind fun t219 => (if t219 < 0 then ((clepsydraref01_Mul.f k t218 (wrap64 (-t219))).bind fun t220 => (some (wrap64 (-t220)))) else (clepsydraref01_Mul.l0 k t218 t219 0 61)))
end
theorem clepsydraref01_Mul.mono_l : ∀ k, (∀ y0 y1, LeO (clepsydraref01_Mul.f k y0 y1) (clepsydraref01_Mul.f (k + 1) y0 y1)) ∧ (∀ y0 y1 y2 y3, LeO (clepsydraref01_Mul.l0 k y0 y1 y2 y3) (clepsydraref01_Mul.l0 (k + 1) y0 y1 y2 y3))
  | 0 => ⟨fun _ _ r h => by simp [clepsydraref01_Mul.f] at h, fun _ _ _ _ r h => by simp [clepsydraref01_Mul.l0] at h⟩
  | k + 1 => by
    obtain ⟨ih0, ih1⟩ := clepsydraref01_Mul.mono_l k
    refine ⟨?_, ?_⟩
    · intro y0 y1
      unfold clepsydraref01_Mul.f
      repeat' first
      | (with_reducible exact ih0 _ _)
      | (with_reducible exact ih1 _ _ _ _)
      | (with_reducible exact LeO.refl _)
      | (with_reducible exact LeO.none _)
      | (with_reducible refine LeO.ite ?_ ?_)
      | (with_reducible refine LeO.bind ?_ (fun _ => ?_))
      | exact ih0 _ _
      | exact ih1 _ _ _ _
      | exact LeO.none _
      | refine LeO.ite ?_ ?_
      | refine LeO.bind ?_ (fun _ => ?_)
    · intro y0 y1 y2 y3
      unfold clepsydraref01_Mul.l0
      repeat' first
      | (with_reducible exact ih0 _ _)
      | (with_reducible exact ih1 _ _ _ _)
      | (with_reducible exact LeO.refl _)
      | (with_reducible exact LeO.none _)
      | (with_reducible refine LeO.ite ?_ ?_)
      | (with_reducible refine LeO.bind ?_ (fun _ => ?_))
      | exact ih0 _ _
      | exact ih1 _ _ _ _
      | exact LeO.none _
      | refine LeO.ite ?_ ?_
      | refine LeO.bind ?_ (fun _ => ?_)
theorem clepsydraref01_Mul.mono : ∀ a0 a1 k, LeO (clepsydraref01_Mul.f k a0 a1) (clepsydraref01_Mul.f (k + 1) a0 a1) := by
  intro a0 a1 k
  obtain ⟨ih0, ih1⟩ := clepsydraref01_Mul.mono_l k
  exact ih0 a0 a1
set_option maxHeartbeats 8000000 in
set_option maxRecDepth 100000 in
theorem clepsydraref01_Mul.calls (k : Nat) : ∀ (a0 : Int) (a1 : Int) (r : Int) (w : World) (h : clepsydraref01_Mul.f k a0 a1 = some r),
    Calls Try.prog 35 #[.int .i64 a0, .int .i64 a1] w fun e w' => e = .returned (.int .i64 r) ∧ Drawn0 w w' := by
  induction k using Nat.strongRecOn with
  | _ k ih =>
  intro a0 a1 r w h
  cases k with
  | zero => exact absurd h (by simp [clepsydraref01_Mul.f])
  | succ k =>
  simp only [clepsydraref01_Mul.f] at h
  have H : ((clepsydraref01_Clip.f a0).bind fun t218 => ((clepsydraref01_Clip.f a1).bind fun t219 => (if t219 < 0 then ((clepsydraref01_Mul.f k t218 (wrap64 (-t219))).bind fun t220 => (some (wrap64 (-t220)))) else (clepsydraref01_Mul.l0 k t218 t219 0 61)))) = some r := h
  clear h
  replace H := Option.bind_eq_some_iff.mp H
  obtain ⟨t218, A30, H⟩ := H
  replace H : ((clepsydraref01_Clip.f a1).bind fun t219 => (if t219 < 0 then ((clepsydraref01_Mul.f k t218 (wrap64 (-t219))).bind fun t220 => (some (wrap64 (-t220)))) else (clepsydraref01_Mul.l0 k t218 t219 0 61))) = some r := H
  have A3 := Aside0.mk A30
  clear A30
  replace H := Option.bind_eq_some_iff.mp H
  obtain ⟨t219, A40, H⟩ := H
  replace H : (if t219 < 0 then ((clepsydraref01_Mul.f k t218 (wrap64 (-t219))).bind fun t220 => (some (wrap64 (-t220)))) else (clepsydraref01_Mul.l0 k t218 t219 0 61)) = some r := H
  have A4 := Aside0.mk A40
  clear A40
  by_cases c5 : t219 < 0
  · rw [if_pos c5] at H
    have c5b0 : decide (t219 < 0) = true := decide_eq_true c5
    clear c5
    replace H := Option.bind_eq_some_iff.mp H
    obtain ⟨t220, A60, H⟩ := H
    replace H : (some (wrap64 (-t220))) = some r := H
    have A6 := Aside0.mk A60
    clear A60
    obtain rfl := Option.some.inj H
    go_enter Try.func35, Try.ntmps35
    go_wp2_with (first | ((with_reducible refine gate_callee (f := 21) rfl ?_); refine goesL_ (some 8) rfl rfl Try.func21 (by kernel_rfl) rfl #[.int .i64 a0] rfl (by (try simp only [List.map_toArray, List.map_cons, List.map_nil]); first | done | rfl | (simp only [List.length_drop, List.length_take]; rfl)) ?_; (with_reducible refine (clepsydraref01_Clip.calls a0 t218 _ A3.out).mono ?_); rintro e w' ⟨rfl, ⟨nd, rfl⟩⟩; refine ⟨_, rfl, ?_⟩) | ((with_reducible refine gate_callee (f := 21) rfl ?_); refine goesL_ (some 10) rfl rfl Try.func21 (by kernel_rfl) rfl #[.int .i64 a1] rfl (by (try simp only [List.map_toArray, List.map_cons, List.map_nil]); first | done | rfl | (simp only [List.length_drop, List.length_take]; rfl)) ?_; (with_reducible refine (clepsydraref01_Clip.calls a1 t219 _ A4.out).mono ?_); rintro e w' ⟨rfl, ⟨nd, rfl⟩⟩; refine ⟨_, rfl, ?_⟩) | ((with_reducible refine gate_callee (f := 35) rfl ?_); refine goesL_ (some 16) rfl rfl Try.func35 (by kernel_rfl) rfl #[.int .i64 t218, .int .i64 (wrap64 (-t219))] rfl (by (try simp only [List.map_toArray, List.map_cons, List.map_nil]); first | done | rfl | (simp only [List.length_drop, List.length_take]; rfl)) ?_; (with_reducible refine (ih k (by omega) t218 (wrap64 (-t219)) t220 _ A6.out).mono ?_); rintro e w' ⟨rfl, ⟨nd, rfl⟩⟩; refine ⟨_, rfl, ?_⟩))
    go_ret
    exact ⟨by first | rfl | (simp; done) | (simp [*]; done) | (simp [Int.tdiv_eq_ediv_of_nonneg]; done) | (simp [Go.RowKit.wrap64]; done) | (simp [*, Go.RowKit.wrap64]; done), by repeat (first | exact Drawn0.refl _ | apply Drawn0.step)⟩
  · rw [if_neg c5] at H
    have c5b0 : decide (t219 < 0) = false := decide_eq_false c5
    clear c5
    have H' := Aside0.mk H
    clear H
    go_enter Try.func35, Try.ntmps35
    go_wp2_with (first | ((with_reducible refine gate_callee (f := 21) rfl ?_); refine goesL_ (some 8) rfl rfl Try.func21 (by kernel_rfl) rfl #[.int .i64 a0] rfl (by (try simp only [List.map_toArray, List.map_cons, List.map_nil]); first | done | rfl | (simp only [List.length_drop, List.length_take]; rfl)) ?_; (with_reducible refine (clepsydraref01_Clip.calls a0 t218 _ A3.out).mono ?_); rintro e w' ⟨rfl, ⟨nd, rfl⟩⟩; refine ⟨_, rfl, ?_⟩) | ((with_reducible refine gate_callee (f := 21) rfl ?_); refine goesL_ (some 10) rfl rfl Try.func21 (by kernel_rfl) rfl #[.int .i64 a1] rfl (by (try simp only [List.map_toArray, List.map_cons, List.map_nil]); first | done | rfl | (simp only [List.length_drop, List.length_take]; rfl)) ?_; (with_reducible refine (clepsydraref01_Clip.calls a1 t219 _ A4.out).mono ?_); rintro e w' ⟨rfl, ⟨nd, rfl⟩⟩; refine ⟨_, rfl, ?_⟩))
    go_loopg [5, 6] k (fun kq v5 v6 w' => ∃ (x5_1 : Int) (x6_1 : Int), v5 = .int .i64 x5_1 ∧ v6 = .int .i64 x6_1 ∧ Aside0 (clepsydraref01_Mul.l0 kq t218 t219 x5_1 x6_1 = some r) ∧ Aside0 (kq ≤ k) ∧ Drawn0 w w')
    case atStart => exact ⟨(0), (61), (by first | rfl | (simp; done) | (simp [*]; done) | (simp [Int.tdiv_eq_ediv_of_nonneg]; done) | (simp [Go.RowKit.wrap64]; done) | (simp [*, Go.RowKit.wrap64]; done)), (by first | rfl | (simp; done) | (simp [*]; done) | (simp [Int.tdiv_eq_ediv_of_nonneg]; done) | (simp [Go.RowKit.wrap64]; done) | (simp [*, Go.RowKit.wrap64]; done)), H', ⟨Nat.le_refl _⟩, by repeat (first | exact Drawn0.refl _ | apply Drawn0.step)⟩
    case round =>
      clear H'
      try clear c2
      try clear p2
      try clear c3
      try clear c5
      try clear c5b0
      try clear p6
      obtain ⟨x5_1, x6_1, rfl, rfl, HA, HK1, ⟨m1, rfl⟩⟩ := hrel
      cases gk with
      | zero => exact absurd HA.out (by simp [clepsydraref01_Mul.l0])
      | succ k1 =>
        have H := HA.out
        clear HA
        simp only [clepsydraref01_Mul.l0] at H
        by_cases c7 : x6_1 ≥ 0
        · rw [if_pos c7] at H
          have c7b0 : decide (0 ≤ x6_1) = true := decide_eq_true c7
          clear c7
          replace H := Option.bind_eq_some_iff.mp H
          obtain ⟨t221, A80, H⟩ := H
          replace H : (if 0 ≤ (IntKind.u64.wrap (x6_1)) then (if (Go.bits .and .i64 (shr .i64 t219 (IntKind.u64.wrap (x6_1))) 1) = 1 then ((clepsydraref01_Clip.f (wrap64 (t221 + t218))).bind fun t222 => (clepsydraref01_Mul.l0 k1 t218 t219 t222 (wrap64 (x6_1 - 1)))) else (clepsydraref01_Mul.l0 k1 t218 t219 t221 (wrap64 (x6_1 - 1)))) else (none)) = some r := H
          have A8 := Aside0.mk A80
          clear A80
          obtain ⟨ji9, hji9⟩ : ∃ j_ : Int, (IntKind.u64.wrap (x6_1)) = j_ := ⟨_, rfl⟩
          replace H : (if 0 ≤ (ji9) then (if (Go.bits .and .i64 (shr .i64 t219 (ji9)) 1) = 1 then ((clepsydraref01_Clip.f (wrap64 (t221 + t218))).bind fun t222 => (clepsydraref01_Mul.l0 k1 t218 t219 t222 (wrap64 (x6_1 - 1)))) else (clepsydraref01_Mul.l0 k1 t218 t219 t221 (wrap64 (x6_1 - 1)))) else (none)) = some r := by first | (rw [hji9] at H; exact H) | (simp only [hji9] at H ⊢; exact H)
          (try rw [hji9] at A8)
          by_cases c10 : 0 ≤ (ji9)
          · rw [if_pos c10] at H
            have c10b0 := eq_true c10
            have c10b1 : decide (0 ≤ (ji9)) = true := decide_eq_true c10
            clear c10
            obtain ⟨ji11, hji11⟩ : ∃ j_ : Int, (shr .i64 t219 (ji9)) = j_ := ⟨_, rfl⟩
            replace H : (if (Go.bits .and .i64 (ji11) 1) = 1 then ((clepsydraref01_Clip.f (wrap64 (t221 + t218))).bind fun t222 => (clepsydraref01_Mul.l0 k1 t218 t219 t222 (wrap64 (x6_1 - 1)))) else (clepsydraref01_Mul.l0 k1 t218 t219 t221 (wrap64 (x6_1 - 1)))) = some r := by first | (rw [hji11] at H; exact H) | (simp only [hji11] at H ⊢; exact H)
            (try rw [hji11] at A8)
            have hji11_ : (t219 / 2 ^ min (ji9).toNat 64) = ji11 := hji11
            have hji11z : (ji9) ≤ 64 → (t219 / 2 ^ (ji9).toNat) = ji11 := shr_small hji11
            by_cases c12 : (Go.bits .and .i64 (ji11) 1) = 1
            · rw [if_pos c12] at H
              have c12b0 : ((Go.bits .and .i64 (ji11) 1) == 1) = true := beq_iff_eq.mpr c12
              have c12b1 : ((Go.bits .and .i64 (ji11) 1) != 1) = false := bne_eq_false_iff_eq.mpr c12
              clear c12
              replace H := Option.bind_eq_some_iff.mp H
              obtain ⟨t222, A130, H⟩ := H
              replace H : (clepsydraref01_Mul.l0 k1 t218 t219 t222 (wrap64 (x6_1 - 1))) = some r := H
              have A13 := Aside0.mk A130
              clear A130
              have H' := Aside0.mk H
              clear H
              go_wp2_with (first | ((with_reducible refine gate_callee (f := 21) rfl ?_); refine goesL_ (some 24) rfl rfl Try.func21 (by kernel_rfl) rfl #[.int .i64 (wrap64 (2 * x5_1))] rfl (by (try simp only [List.map_toArray, List.map_cons, List.map_nil]); first | done | rfl | (simp only [List.length_drop, List.length_take]; rfl)) ?_; (with_reducible refine (clepsydraref01_Clip.calls (wrap64 (2 * x5_1)) t221 _ A8.out).mono ?_); rintro e w' ⟨rfl, ⟨nd, rfl⟩⟩; refine ⟨_, rfl, ?_⟩) | ((with_reducible refine gate_callee (f := 21) rfl ?_); refine goesL_ (some 34) rfl rfl Try.func21 (by kernel_rfl) rfl #[.int .i64 (wrap64 (t221 + t218))] rfl (by (try simp only [List.map_toArray, List.map_cons, List.map_nil]); first | done | rfl | (simp only [List.length_drop, List.length_take]; rfl)) ?_; (with_reducible refine (clepsydraref01_Clip.calls (wrap64 (t221 + t218)) t222 _ A13.out).mono ?_); rintro e w' ⟨rfl, ⟨nd, rfl⟩⟩; refine ⟨_, rfl, ?_⟩))
              go_roundg k1
              case measure => have := HK1.out; omega
              case rel => exact ⟨(t222), (wrap64 (x6_1 - 1)), (by first | rfl | (simp; done) | (simp [*]; done) | (simp [Int.tdiv_eq_ediv_of_nonneg]; done) | (simp [Go.RowKit.wrap64]; done) | (simp [*, Go.RowKit.wrap64]; done)), (by first | rfl | (simp; done) | (simp [*]; done) | (simp [Int.tdiv_eq_ediv_of_nonneg]; done) | (simp [Go.RowKit.wrap64]; done) | (simp [*, Go.RowKit.wrap64]; done)), H', ⟨by have := HK1.out; omega⟩, by repeat (first | exact Drawn0.refl _ | apply Drawn0.step)⟩
            · rw [if_neg c12] at H
              have c12b0 : ((Go.bits .and .i64 (ji11) 1) == 1) = false := beq_eq_false_iff_ne.mpr c12
              have c12b1 : ((Go.bits .and .i64 (ji11) 1) != 1) = true := bne_iff_ne.mpr c12
              have H' := Aside0.mk H
              clear H
              go_wp2_with (first | ((with_reducible refine gate_callee (f := 21) rfl ?_); refine goesL_ (some 24) rfl rfl Try.func21 (by kernel_rfl) rfl #[.int .i64 (wrap64 (2 * x5_1))] rfl (by (try simp only [List.map_toArray, List.map_cons, List.map_nil]); first | done | rfl | (simp only [List.length_drop, List.length_take]; rfl)) ?_; (with_reducible refine (clepsydraref01_Clip.calls (wrap64 (2 * x5_1)) t221 _ A8.out).mono ?_); rintro e w' ⟨rfl, ⟨nd, rfl⟩⟩; refine ⟨_, rfl, ?_⟩))
              go_roundg k1
              case measure => have := HK1.out; omega
              case rel => exact ⟨(t221), (wrap64 (x6_1 - 1)), (by first | rfl | (simp; done) | (simp [*]; done) | (simp [Int.tdiv_eq_ediv_of_nonneg]; done) | (simp [Go.RowKit.wrap64]; done) | (simp [*, Go.RowKit.wrap64]; done)), (by first | rfl | (simp; done) | (simp [*]; done) | (simp [Int.tdiv_eq_ediv_of_nonneg]; done) | (simp [Go.RowKit.wrap64]; done) | (simp [*, Go.RowKit.wrap64]; done)), H', ⟨by have := HK1.out; omega⟩, by repeat (first | exact Drawn0.refl _ | apply Drawn0.step)⟩
          · rw [if_neg c10] at H
            exact absurd H (by simp)
        · rw [if_neg c7] at H
          have c7b0 : decide (0 ≤ x6_1) = false := decide_eq_false c7
          clear c7
          obtain rfl := Option.some.inj H
          go_wp2
          go_ret
          exact ⟨by first | rfl | (simp; done) | (simp [*]; done) | (simp [Int.tdiv_eq_ediv_of_nonneg]; done) | (simp [Go.RowKit.wrap64]; done) | (simp [*, Go.RowKit.wrap64]; done), by repeat (first | exact Drawn0.refl _ | apply Drawn0.step)⟩

end Go.Proofs.Ytopaldkmgaflmaa.Q
