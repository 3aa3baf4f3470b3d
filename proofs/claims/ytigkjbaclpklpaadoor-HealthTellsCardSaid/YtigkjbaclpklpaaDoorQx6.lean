/- The calls of these Go functions answer what the Lean functions beside them answer; written by a program (wip/pr2.py, out of the print of the loaded program); under no condition but those that stand in the theorems. -/
import Derived.Test.YtigkjbaclpklpaaDoorQx0
import Derived.Test.YtigkjbaclpklpaaDoorQx4
import Derived.Test.YtigkjbaclpklpaaDoorQx5
namespace Go.Proofs.YtigkjbaclpklpaaDoor.Q
open Go.RowKit Go.Proofs.YtigkjbaclpklpaaDoorW.PrintWords Go.Proofs.YtigkjbaclpklpaaDoorW.PrintLast Go.Proofs.YtigkjbaclpklpaaDoorW.PrintMore
attribute [local go_sem] max2_int min2_int max_two min_two max_three min_three max_four min_four   -- for this text's walks alone
set_option linter.unusedVariables false
set_option linter.unusedSimpArgs false

/-! ### sat_Abs: function 32 -/
def sat_Abs.f (k : Nat) (a0 : Int) : Option (Int) := if a0 < 0 then ((sat_Neg.f k a0).bind fun t121 => (some t121)) else ((sat_Clip.f k a0).bind fun t122 => (some t122))
theorem sat_Abs.mono : ∀ a0 k, LeO (sat_Abs.f k a0) (sat_Abs.f (k + 1) a0) := by
 intro a0 k
 unfold sat_Abs.f
 repeat' first
   | (with_reducible exact sat_Clip.mono _ _)
   | (with_reducible exact sat_Neg.mono _ _)
   | (with_reducible exact LeO.refl _)
   | (with_reducible exact LeO.none _)
   | (with_reducible refine LeO.ite ?_ ?_)
   | (with_reducible refine LeO.bind ?_ (fun _ => ?_))
   | exact sat_Clip.mono _ _
   | exact sat_Neg.mono _ _
   | exact LeO.none _
   | refine LeO.ite ?_ ?_
   | refine LeO.bind ?_ (fun _ => ?_)
set_option maxHeartbeats 8000000 in
set_option maxRecDepth 100000 in
theorem sat_Abs.calls (k : Nat) (a0 : Int) (r : Int) (w : World) (h : sat_Abs.f k a0 = some r) :
  Calls Tryd.prog 32 #[.int .i64 a0] w fun e w' => e = .returned (.int .i64 r) ∧ Drawn0 w w' := by
 have H : (if a0 < 0 then ((sat_Neg.f k a0).bind fun t121 => (some t121)) else ((sat_Clip.f k a0).bind fun t122 => (some t122))) = some r := h
 clear h
 by_cases c2 : a0 < 0
 ·rw [if_pos c2] at H
  have c2b0 : decide (a0 < 0) = true := decide_eq_true c2
  clear c2
  replace H := Option.bind_eq_some_iff.mp H
  obtain ⟨t121, A30, H⟩ := H
  replace H : (some t121) = some r := H
  have A3 := Aside0.mk A30
  clear A30
  obtain rfl := Option.some.inj H
  go_enter Tryd.func32, Tryd.ntmps32
  go_wp2_with (first | ((with_reducible refine gate_callee (f := 53) rfl ?_); refine goesL_ (some 6) rfl rfl Tryd.func53 (by kernel_rfl) rfl #[.int .i64 a0] rfl (by (try simp only [List.map_toArray, List.map_cons, List.map_nil]); first | done | rfl | (simp only [List.length_drop, List.length_take]; rfl)) ?_; (with_reducible refine (sat_Neg.calls k a0 t121 _ A3.out).mono ?_); rintro e w' ⟨rfl, ⟨nd, rfl⟩⟩; refine ⟨_, rfl, ?_⟩))
  go_ret
  exact ⟨by first | rfl | (simp; done) | (simp [*]; done) | (simp [Int.tdiv_eq_ediv_of_nonneg]; done) | (simp [Go.RowKit.wrap64]; done) | (simp [*, Go.RowKit.wrap64]; done), by repeat (first | exact Drawn0.refl _ | apply Drawn0.step)⟩
 ·rw [if_neg c2] at H
  have c2b0 : decide (a0 < 0) = false := decide_eq_false c2
  clear c2
  replace H := Option.bind_eq_some_iff.mp H
  obtain ⟨t122, A40, H⟩ := H
  replace H : (some t122) = some r := H
  have A4 := Aside0.mk A40
  clear A40
  obtain rfl := Option.some.inj H
  go_enter Tryd.func32, Tryd.ntmps32
  go_wp2_with (first | ((with_reducible refine gate_callee (f := 40) rfl ?_); refine goesL_ (some 8) rfl rfl Tryd.func40 (by kernel_rfl) rfl #[.int .i64 a0] rfl (by (try simp only [List.map_toArray, List.map_cons, List.map_nil]); first | done | rfl | (simp only [List.length_drop, List.length_take]; rfl)) ?_; (with_reducible refine (sat_Clip.calls k a0 t122 _ A4.out).mono ?_); rintro e w' ⟨rfl, ⟨nd, rfl⟩⟩; refine ⟨_, rfl, ?_⟩))
  go_ret
  exact ⟨by first | rfl | (simp; done) | (simp [*]; done) | (simp [Int.tdiv_eq_ediv_of_nonneg]; done) | (simp [Go.RowKit.wrap64]; done) | (simp [*, Go.RowKit.wrap64]; done), by repeat (first | exact Drawn0.refl _ | apply Drawn0.step)⟩

/-! ### sat_Mul: function 54 -/
def sat_Mul.j0 : Nat → Int → Int → Int → Int → Int → Bool → Option (Int)
 | 0, _, _, _, _, _, _ => none
 | k + 1, x0, x1, x5, x6, x7, x19 => if x19 = true then (if ((decide (x0 < 0)) != (decide (x1 < 0))) = true then (some (wrap64 (-(wrap64 (x5 * x6))))) else (some (wrap64 (x5 * x6)))) else (if ((decide (x0 < 0)) != (decide (x1 < 0))) = true then (some (wrap64 (-x7))) else (some x7))
def sat_Mul.f (k : Nat) (a0 : Int) (a1 : Int) : Option (Int) := (sat_Abs.f k a0).bind fun t123 => ((sat_Abs.f k a1).bind fun t124 => (if t123 = 0 then (sat_Mul.j0 k a0 a1 t123 t124 2305843009213693952 true) else (sat_Mul.j0 k a0 a1 t123 t124 2305843009213693952 (decide (t124 ≤ (wrap64 ((2305843009213693952 : Int) / t123)))))))
theorem sat_Mul.mono_l : ∀ k, (∀ y0 y1 y2 y3 y4 y5, LeO (sat_Mul.j0 k y0 y1 y2 y3 y4 y5) (sat_Mul.j0 (k + 1) y0 y1 y2 y3 y4 y5))
 | 0 => fun _ _ _ _ _ _ r h => by simp [sat_Mul.j0] at h
 | k + 1 => by
  have ih0 := sat_Mul.mono_l k
  intro y0 y1 y2 y3 y4 y5
  unfold sat_Mul.j0
  repeat' first
  | (with_reducible exact ih0 _ _ _ _ _ _)
  | (with_reducible exact sat_Abs.mono _ _)
  | (with_reducible exact LeO.refl _)
  | (with_reducible exact LeO.none _)
  | (with_reducible refine LeO.ite ?_ ?_)
  | (with_reducible refine LeO.bind ?_ (fun _ => ?_))
  | exact ih0 _ _ _ _ _ _
  | exact sat_Abs.mono _ _
  | exact LeO.none _
  | refine LeO.ite ?_ ?_
  | refine LeO.bind ?_ (fun _ => ?_)
theorem sat_Mul.mono : ∀ a0 a1 k, LeO (sat_Mul.f k a0 a1) (sat_Mul.f (k + 1) a0 a1) := by
 intro a0 a1 k
 have ih0 := sat_Mul.mono_l k
 unfold sat_Mul.f
 repeat' first
   | (with_reducible exact ih0 _ _ _ _ _ _)
   | (with_reducible exact sat_Abs.mono _ _)
   | (with_reducible exact LeO.refl _)
   | (with_reducible exact LeO.none _)
   | (with_reducible refine LeO.ite ?_ ?_)
   | (with_reducible refine LeO.bind ?_ (fun _ => ?_))
   | exact ih0 _ _ _ _ _ _
   | exact sat_Abs.mono _ _
   | exact LeO.none _
   | refine LeO.ite ?_ ?_
   | refine LeO.bind ?_ (fun _ => ?_)
set_option maxHeartbeats 8000000 in
set_option maxRecDepth 100000 in
theorem sat_Mul.calls (k : Nat) (a0 : Int) (a1 : Int) (r : Int) (w : World) (h : sat_Mul.f k a0 a1 = some r) :
  Calls Tryd.prog 54 #[.int .i64 a0, .int .i64 a1] w fun e w' => e = .returned (.int .i64 r) ∧ Drawn0 w w' := by
 have H : ((sat_Abs.f k a0).bind fun t123 => ((sat_Abs.f k a1).bind fun t124 => (if t123 = 0 then (sat_Mul.j0 k a0 a1 t123 t124 2305843009213693952 true) else (sat_Mul.j0 k a0 a1 t123 t124 2305843009213693952 (decide (t124 ≤ (wrap64 ((2305843009213693952 : Int) / t123)))))))) = some r := h
 clear h
 replace H := Option.bind_eq_some_iff.mp H
 obtain ⟨t123, A30, H⟩ := H
 replace H : ((sat_Abs.f k a1).bind fun t124 => (if t123 = 0 then (sat_Mul.j0 k a0 a1 t123 t124 2305843009213693952 true) else (sat_Mul.j0 k a0 a1 t123 t124 2305843009213693952 (decide (t124 ≤ (wrap64 ((2305843009213693952 : Int) / t123))))))) = some r := H
 have A3 := mk A30
 clear A30
 replace H := Option.bind_eq_some_iff.mp H
 obtain ⟨t124, A40, H⟩ := H
 replace H : (if t123 = 0 then (sat_Mul.j0 k a0 a1 t123 t124 2305843009213693952 true) else (sat_Mul.j0 k a0 a1 t123 t124 2305843009213693952 (decide (t124 ≤ (wrap64 ((2305843009213693952 : Int) / t123)))))) = some r := H
 have A4 := mk A40
 clear A40
 have HC5 := mk H
 clear H
 go_enter Tryd.func54, Tryd.ntmps54
 go_upto_region 3 with (first | ((with_reducible refine gate_callee (f := 32) rfl ?_); refine goesL_ (some 9) rfl rfl Tryd.func32 (by kernel_rfl) rfl #[.int .i64 a0] rfl (by (try simp only [List.map_toArray, List.map_cons, List.map_nil]); first | done | rfl | (simp only [List.length_drop, List.length_take]; rfl)) ?_; (with_reducible refine (sat_Abs.calls k a0 t123 _ A3.1).mono ?_); rintro e w' ⟨rfl, ⟨nd, rfl⟩⟩; refine ⟨_, rfl, ?_⟩) | ((with_reducible refine gate_callee (f := 32) rfl ?_); refine goesL_ (some 11) rfl rfl Tryd.func32 (by kernel_rfl) rfl #[.int .i64 a1] rfl (by (try simp only [List.map_toArray, List.map_cons, List.map_nil]); first | done | rfl | (simp only [List.length_drop, List.length_take]; rfl)) ?_; (with_reducible refine (sat_Abs.calls k a1 t124 _ A4.1).mono ?_); rintro e w' ⟨rfl, ⟨nd, rfl⟩⟩; refine ⟨_, rfl, ?_⟩))
 (try simp only [Act.put, zA, zB, zC])
 go_cut [19] (fun v19 wc => ∃ (kq : Nat) (x19_4 : Bool), v19 = .bool x19_4 ∧ Aside0 (sat_Mul.j0 kq a0 a1 t123 t124 2305843009213693952 x19_4 = some r) ∧ Aside0 (kq ≤ k) ∧ Drawn0 w wc)
 case first =>
  have H := HC5.1
  clear HC5
  by_cases c6 : t123 = 0
  ·rw [if_pos c6] at H
   have c6b0 : (t123 == 0) = true := beq_iff_eq.mpr c6
   have c6b1 : (t123 != 0) = false := bne_eq_false_iff_eq.mpr c6
   clear c6
   (first | rw [c6b0] | (simp only [i64_w, i32_w]; rw [c6b0]) | skip)
   have H' := mk H
   clear H
   go_wp2
   go_meet
   case rel => exact ⟨_, (true), zs, H', ⟨by first | omega | exact Nat.le_refl _⟩, by repeat (first | exact Drawn0.refl _ | apply Drawn0.step)⟩
  rw [if_neg c6] at H
  have c6b0 : (t123 == 0) = false := beq_eq_false_iff_ne.mpr c6
  have c6b1 : (t123 != 0) = true := bne_iff_ne.mpr c6
  (first | rw [c6b0] | (simp only [i64_w, i32_w]; rw [c6b0]) | skip)
  have H' := mk H
  clear H
  go_wp2
  go_meet
  case rel => exact ⟨_, (decide (t124 ≤ (wrap64 ((2305843009213693952 : Int) / t123)))), zs, H', ⟨by first | omega | exact Nat.le_refl _⟩, by repeat (first | exact Drawn0.refl _ | apply Drawn0.step)⟩
 case rest =>
  clear HC5
  try clear p2
  try clear c3
  try clear c5
  try clear c6
  try clear c6b0
  try clear c6b1
  try clear p6
  obtain ⟨kq, x19_4, rfl, HA, HJ4, ⟨mc4, rfl⟩⟩ := hcut
  cases kq with
  | zero => exact absurd HA.1 (by simp [sat_Mul.j0])
  | succ kj4 =>
   have H := HA.1
   clear HA
   simp only [sat_Mul.j0] at H
   by_cases c7 : x19_4 = true
   ·subst c7
    have H1 : (if ((decide (a0 < 0)) != (decide (a1 < 0))) = true then (some (wrap64 (-(wrap64 (t123 * t124))))) else (some (wrap64 (t123 * t124)))) = some r := by rw [if_pos rfl] at H; exact H
    clear H
    have H := H1
    clear H1
    by_cases c8 : ((decide (a0 < 0)) != (decide (a1 < 0))) = true
    ·rw [if_pos c8] at H
     have c8b0 : ((decide (a0 < 0)) != (decide (a1 < 0))) = true := c8
     (try (have c8b1 : decide ((decide (a0 < 0)) = (decide (a1 < 0))) = false := by simpa using c8))
     (try (have c8b2 : ((decide (a0 < 0)) == (decide (a1 < 0))) = false := by simpa using c8))
     (try (have c8b3 : ¬ ((decide (a0 < 0)) = (decide (a1 < 0))) := by simpa using c8))
     clear c8
     obtain rfl := Option.some.inj H
     go_wp2
     go_ret
     exact ⟨by first | rfl | (simp; done) | (simp [*]; done) | (simp [Int.tdiv_eq_ediv_of_nonneg]; done) | (simp [Go.RowKit.wrap64]; done) | (simp [*, Go.RowKit.wrap64]; done), by repeat (first | exact Drawn0.refl _ | apply Drawn0.step)⟩
    rw [if_neg c8] at H
    have c8b0 : ((decide (a0 < 0)) != (decide (a1 < 0))) = false := by simpa using c8
    (try (have c8b1 : decide ((decide (a0 < 0)) = (decide (a1 < 0))) = true := by simpa using c8))
    (try (have c8b2 : ((decide (a0 < 0)) == (decide (a1 < 0))) = true := by simpa using c8))
    clear c8
    obtain rfl := Option.some.inj H
    go_wp2
    go_ret
    exact ⟨by first | rfl | (simp; done) | (simp [*]; done) | (simp [Int.tdiv_eq_ediv_of_nonneg]; done) | (simp [Go.RowKit.wrap64]; done) | (simp [*, Go.RowKit.wrap64]; done), by repeat (first | exact Drawn0.refl _ | apply Drawn0.step)⟩
   replace c7 := Bool.eq_false_iff.mpr c7
   subst c7
   have H1 : (if ((decide (a0 < 0)) != (decide (a1 < 0))) = true then (some (wrap64 (-2305843009213693952))) else (some 2305843009213693952)) = some r := by rw [if_neg (show ¬ (false = true) by decide)] at H; exact H
   clear H
   have H := H1
   clear H1
   by_cases c9 : ((decide (a0 < 0)) != (decide (a1 < 0))) = true
   ·rw [if_pos c9] at H
    have c9b0 : ((decide (a0 < 0)) != (decide (a1 < 0))) = true := c9
    (try (have c9b1 : decide ((decide (a0 < 0)) = (decide (a1 < 0))) = false := by simpa using c9))
    (try (have c9b2 : ((decide (a0 < 0)) == (decide (a1 < 0))) = false := by simpa using c9))
    (try (have c9b3 : ¬ ((decide (a0 < 0)) = (decide (a1 < 0))) := by simpa using c9))
    clear c9
    obtain rfl := Option.some.inj H
    go_wp2
    go_ret
    exact ⟨by first | rfl | (simp; done) | (simp [*]; done) | (simp [Int.tdiv_eq_ediv_of_nonneg]; done) | (simp [Go.RowKit.wrap64]; done) | (simp [*, Go.RowKit.wrap64]; done), by repeat (first | exact Drawn0.refl _ | apply Drawn0.step)⟩
   rw [if_neg c9] at H
   have c9b0 : ((decide (a0 < 0)) != (decide (a1 < 0))) = false := by simpa using c9
   (try (have c9b1 : decide ((decide (a0 < 0)) = (decide (a1 < 0))) = true := by simpa using c9))
   (try (have c9b2 : ((decide (a0 < 0)) == (decide (a1 < 0))) = true := by simpa using c9))
   clear c9
   obtain rfl := Option.some.inj H
   go_wp2
   go_ret
   exact ⟨by first | rfl | (simp; done) | (simp [*]; done) | (simp [Int.tdiv_eq_ediv_of_nonneg]; done) | (simp [Go.RowKit.wrap64]; done) | (simp [*, Go.RowKit.wrap64]; done), by repeat (first | exact Drawn0.refl _ | apply Drawn0.step)⟩

/-! ### limit_Hop: function 70 -/
def limit_Hop.f (k : Nat) (a0_0 : Int) (a0_1 : Int) (a0_2 : Int) (a0_3 : Int) (a0_4 : Int) (a0_5 : Int) (a0_6 : Int) (a0_7 : Int) (a0_8 : Int) (a0_9 : Int) (a0_10 : Int) (a0_11 : Int) : Option (Int) := (sat_Mul.f k 2 a0_4).bind fun t126 => ((sat_Add.f k (([a0_6, t126] : List Int))).bind fun t130 => (some t130))
theorem limit_Hop.mono : ∀ a0 a1 a2 a3 a4 a5 a6 a7 a8 a9 a10 a11 k, LeO (limit_Hop.f k a0 a1 a2 a3 a4 a5 a6 a7 a8 a9 a10 a11) (limit_Hop.f (k + 1) a0 a1 a2 a3 a4 a5 a6 a7 a8 a9 a10 a11) := by
 intro a0 a1 a2 a3 a4 a5 a6 a7 a8 a9 a10 a11 k
 unfold limit_Hop.f
 repeat' first
   | (with_reducible exact sat_Add.mono _ _)
   | (with_reducible exact sat_Mul.mono _ _ _)
   | (with_reducible exact LeO.refl _)
   | (with_reducible exact LeO.none _)
   | (with_reducible refine LeO.ite ?_ ?_)
   | (with_reducible refine LeO.bind ?_ (fun _ => ?_))
   | exact sat_Add.mono _ _
   | exact sat_Mul.mono _ _ _
   | exact LeO.none _
   | refine LeO.ite ?_ ?_
   | refine LeO.bind ?_ (fun _ => ?_)
def limit_Hop.T1 : Bool × List (List Nat × List Nat) := (true, [([], []), ([0], [0]), ([], []), ([2], [2]), ([3], [3]), ([1, 4], [1, 4]), ([5, 4], [5]), ([6, 6, 0, 1, 2, 3, 4, 5, 6], [6])])
def limit_Hop.B1 : List Nat := [0, 1, 0, 4, 12, 31, 63, 127]
theorem limit_Hop.tab1 : rtab .any (opsOf Tryd.f70 1) = limit_Hop.T1 := by kernel_rfl
theorem limit_Hop.bits1 : waitsOk limit_Hop.T1.2 limit_Hop.B1 = true := by kernel_rfl
set_option maxHeartbeats 8000000 in
set_option maxRecDepth 100000 in
theorem limit_Hop.calls (k : Nat) (a0_0 : Int) (a0_1 : Int) (a0_2 : Int) (a0_3 : Int) (a0_4 : Int) (a0_5 : Int) (a0_6 : Int) (a0_7 : Int) (a0_8 : Int) (a0_9 : Int) (a0_10 : Int) (a0_11 : Int) (r : Int) (w : World) (h : limit_Hop.f k a0_0 a0_1 a0_2 a0_3 a0_4 a0_5 a0_6 a0_7 a0_8 a0_9 a0_10 a0_11 = some r) :
  Calls Tryd.prog 70 #[.agg #[.int .i64 a0_0, .int .i64 a0_1, .int .i64 a0_2, .int .i64 a0_3, .int .i64 a0_4, .int .i64 a0_5, .int .i64 a0_6, .int .i64 a0_7, .int .i64 a0_8, .int .i64 a0_9, .int .i64 a0_10, .int .i64 a0_11]] w fun e w' => e = .returned (.int .i64 r) ∧ Below w.heap.size w w' := by
 have hu23 := Tryd.underlying23
 have HB := mk (Below.refl w.heap.size w)
 have H : ((sat_Mul.f k 2 a0_4).bind fun t126 => ((sat_Add.f k (([a0_6, t126] : List Int))).bind fun t130 => (some t130))) = some r := h
 clear h
 replace H := Option.bind_eq_some_iff.mp H
 obtain ⟨t126, A20, H⟩ := H
 replace H : ((sat_Add.f k (([a0_6, t126] : List Int))).bind fun t130 => (some t130)) = some r := H
 have A2 := mk A20
 clear A20
 obtain ⟨y127, hy127⟩ : ∃ y_ : List Int, y_ = (([a0_6, t126] : List Int)) := ⟨_, rfl⟩
 replace H : ((sat_Add.f k y127).bind fun t130 => (some t130)) = some r := by first | (rw [hy127]; with_reducible exact H) | (have H2_ := (Option.bind_some _ _).symm.trans H; rw [hy127]; with_reducible exact H2_) | (have H2_ := (Option.bind_some _ _).symm.trans H; with_reducible exact H2_) | with_reducible exact H | (rw [hy127]; exact H) | exact H
 have Ny127 := mk hy127
 clear hy127
 replace H := Option.bind_eq_some_iff.mp H
 obtain ⟨t130, A30, H⟩ := H
 replace H : (some t130) = some r := H
 have A3 := mk A30
 clear A30
 obtain rfl := Option.some.inj H
 go_enter Tryd.func70, Tryd.ntmps70
 try go_wp2_with (first | ((with_reducible refine gate_dst (N := 1) rfl ?_); refine bx 1 #[.int .i64 a0_0, .int .i64 a0_1, .int .i64 a0_2, .int .i64 a0_3, .int .i64 a0_4, .int .i64 a0_5, .int .i64 a0_6, .int .i64 a0_7, .int .i64 a0_8, .int .i64 a0_9, .int .i64 a0_10, .int .i64 a0_11] 23 ?_; intro g0_ hg w4 hbox hb; have B0_ := mk (hbox); have W0_ := gl hg zq; have E0_ := gl hg zq; replace HB := mk (below_step zq hb); clear hb hbox hg))
 replace B0_ := mk (blk_drew B0_.1)
 replace HB := mk (below_drew1 HB.1)
 refine start_ (n := 8) (S := fun w' => w'.cell? ⟨g0_, 4, none⟩ = some (.int .i64 a0_4) ∧ w'.cell? ⟨g0_, 6, none⟩ = some (.int .i64 a0_6)) (ds := []) (bs 8 0) (by kernel_rfl) rfl rfl ⟨bQ B0_.1 4, bQ B0_.1 6⟩ (fun hHeld => ?_); refine with_tabW limit_Hop.tab1 limit_Hop.bits1 (fun HT_ HW_ => ?_)
 generalize w4.drew = w5 at B0_ HB hHeld ⊢
 refine pt HT_ 0 3 1 ?_
 refine pt HT_ 2 5 5 ?_
 refine tb HT_ HW_ 1 4 7 hHeld ?_
 refine tb HT_ HW_ 3 6 15 hHeld ?_
 refine one_ (i := 4) (N := some 7) (bs 8 31) rfl rfl (one_of HT_.1 (by kernel_rfl)) (by decide) (fun K hK => ?_)
 refine goes_ Tryd.func54 (by kernel_rfl) rfl #[.int .i64 2, .int .i64 a0_4] (by rfl) rfl rfl (by (try simp only [List.map_toArray, List.map_cons, List.map_nil]); first | done | rfl | (simp only [List.length_drop, List.length_take]; rfl)) ?_
 with_reducible refine (sat_Mul.calls k 2 a0_4 t126 _ A2.1).mono ?_
 rintro e w' ⟨rfl, ⟨nd, rfl⟩⟩
 refine ⟨_, rfl, ?_⟩
 refine hK.out _ _ ⟨bQ B0_.1 4, bQ B0_.1 6⟩ (fun hHeld => ?_)
 clear hK K
 refine nm 7 ?_
 refine one_ (i := 5) (N := some 8) (bs 8 63) rfl rfl (one_of HT_.1 (by kernel_rfl)) (by decide) (fun K hK => ?_)
 refine Kd.R_lit_step (Kd.int .i64) _ 3 ?hg (N := 8) ?hd (xs := ([a0_6, t126] : List Int)) (inner := [.int .i64 a0_6, .int .i64 t126]) (ok := fun _ => True) (okp := fun _ => True) ?hr ?hp (fun _ hk => hk) trivial (Below.refl _ _) (Nat.le_refl _) (by simp) ?_; (case hd => rfl); (case hg => rfl); (case hr => first | (go_simp; done) | (go_simp; rfl)); (case hp => exact (Reps.one (show Kd.M (Kd.int .i64) _ _ _ a0_6 [.int .i64 a0_6] from rfl) (Reps.one (show Kd.M (Kd.int .i64) _ _ _ t126 [.int .i64 t126] from rfl) (Reps.none _ _))))
 intro v128 w6 ho7 hb hg_ hnew_
 clear hg_ hnew_
 (first | rw [← Ny127.1] at ho7 | (simp only [Int.reduceToNat] at ho7; rw [← Ny127.1] at ho7))
 have HO129 := mk (Kd.R_lower ho7 (below_size zq))
 have n1_ := bb hb B0_.1
 have n2_ := mk (below_step zq hb)
 clear B0_ HB
 have B0_ := n1_
 have HB := n2_
 clear n1_ n2_ hb ho7
 obtain ⟨Ao8, co8, eo8⟩ := Kd.R_slice HO129.1
 (first | subst eo8 | (injection eo8 with f1_ f2_ f3_; have f4_ := f1_.symm; have f5_ := f3_.symm; clear f1_ f2_ f3_; subst f4_; subst f5_))
 refine hK.out _ _ ⟨bQ B0_.1 4, bQ B0_.1 6⟩ (fun hHeld => ?_)
 clear hK K
 refine nm 8 ?_
 refine one_ (i := 6) (N := some 9) (bs 8 127) rfl rfl (one_of HT_.1 (by kernel_rfl)) (by decide) (fun K hK => ?_)
 refine goes_ Tryd.func34 (by kernel_rfl) rfl #[.slice Ao8 y127.length co8] (by rfl) rfl rfl (by (try simp only [List.map_toArray, List.map_cons, List.map_nil]); first | done | rfl | (simp only [List.length_drop, List.length_take]; rfl)) ?_
 with_reducible refine (sat_Add.calls k _ _ y127 t130 _ ?side1 ?side2 A3.1).mono ?_
 (case side1 => repeat (first | exact (Kd.R_reads' HO129.1).2.2 | (with_reducible refine Kd.C_alloc ?_ _) | (with_reducible refine Kd.C_drewN ?_ _) | (with_reducible refine Kd.C_drew ?_)))
 (case side2 => exact (Kd.R_reads' HO129.1).2.1)
 rintro e w' ⟨rfl, ⟨nd, rfl⟩⟩
 refine ⟨_, rfl, ?_⟩
 refine hK.out _ _ ⟨bQ B0_.1 4, bQ B0_.1 6⟩ (fun hHeld => ?_)
 clear hK K
 refine nm 9 ?_
 refine pt HT_ 7 2 255 ?_
 refine done_ (done_of HT_.1 (by kernel_rfl)) ?_
 try go_wp2
 go_ret
 exact ⟨by first | rfl | (simp [errW_none, errW_some] <;> rfl) | (simp [*, errW_none, errW_some] <;> rfl), by repeat (first | (with_reducible first | exact HB.1 | apply bA | apply pD | apply b1 | apply bS E0_.1) | exact HB.1)⟩

end Go.Proofs.YtigkjbaclpklpaaDoor.Q
