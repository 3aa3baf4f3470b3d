/- The calls of these Go functions answer what the Lean functions beside them answer; written by a program (wip/pr2.py, out of the print of the loaded program); under no condition but those that stand in the theorems. -/
import Derived.Test.YtigkjbaclpklpaaQx0
import Derived.Test.YtigkjbaclpklpaaQx2
import Derived.Test.YtigkjbaclpklpaaQx7
namespace Go.Proofs.Ytigkjbaclpklpaa.Q
open Go.RowKit Go.Proofs.YtigkjbaclpklpaaW.PrintWords Go.Proofs.YtigkjbaclpklpaaW.PrintLast Go.Proofs.YtigkjbaclpklpaaW.PrintMore
attribute [local go_sem] max2_int min2_int max_two min_two max_three min_three max_four min_four   -- for this text's walks alone
set_option linter.unusedVariables false
set_option linter.unusedSimpArgs false

/-! ### sat_Mul: function 42 -/
def sat_Mul.j0 : Nat → Int → Int → Int → Int → Int → Bool → Option (Int)
 | 0, _, _, _, _, _, _ => none
 | k + 1, x0, x1, x5, x6, x7, x19 => if x19 = true then (if ((decide (x0 < 0)) != (decide (x1 < 0))) = true then (some (wrap64 (-(wrap64 (x5 * x6))))) else (some (wrap64 (x5 * x6)))) else (if ((decide (x0 < 0)) != (decide (x1 < 0))) = true then (some (wrap64 (-x7))) else (some x7))
def sat_Mul.f (k : Nat) (a0 : Int) (a1 : Int) : Option (Int) := (sat_Abs.f k a0).bind fun t128 => ((sat_Abs.f k a1).bind fun t129 => (if t128 = 0 then (sat_Mul.j0 k a0 a1 t128 t129 2305843009213693952 true) else (sat_Mul.j0 k a0 a1 t128 t129 2305843009213693952 (decide (t129 ≤ (wrap64 ((2305843009213693952 : Int) / t128)))))))
theorem sat_Mul.mono_l : ∀ k, (∀ y0 y1 y2 y3 y4 y5, LeO (sat_Mul.j0 k y0 y1 y2 y3 y4 y5) (sat_Mul.j0 (k + 1) y0 y1 y2 y3 y4 y5))
 | 0 => fun _ _ _ _ _ _ r h => by simp [sat_Mul.j0] at h
 | k + 1 => by
  have ih0 := sat_Mul.mono_l k
  intro y0 y1 y2 y3 y4 y5
  unfold sat_Mul.j0
  repeat' first
  | (with_reducible exact ih0 _ _ _ _ _ _)
  | (with_reducible exact sat_Abs.mono _ _)
  | (with_reducible exact LeO.refl _)
  | (with_reducible exact LeO.none _)
  | (with_reducible refine LeO.ite ?_ ?_)
  | (with_reducible refine LeO.bind ?_ (fun _ => ?_))
  | exact ih0 _ _ _ _ _ _
  | exact sat_Abs.mono _ _
  | exact LeO.none _
  | refine LeO.ite ?_ ?_
  | refine LeO.bind ?_ (fun _ => ?_)
theorem sat_Mul.mono : ∀ a0 a1 k, LeO (sat_Mul.f k a0 a1) (sat_Mul.f (k + 1) a0 a1) := by
 intro a0 a1 k
 have ih0 := sat_Mul.mono_l k
 unfold sat_Mul.f
 repeat' first
   | (with_reducible exact ih0 _ _ _ _ _ _)
   | (with_reducible exact sat_Abs.mono _ _)
   | (with_reducible exact LeO.refl _)
   | (with_reducible exact LeO.none _)
   | (with_reducible refine LeO.ite ?_ ?_)
   | (with_reducible refine LeO.bind ?_ (fun _ => ?_))
   | exact ih0 _ _ _ _ _ _
   | exact sat_Abs.mono _ _
   | exact LeO.none _
   | refine LeO.ite ?_ ?_
   | refine LeO.bind ?_ (fun _ => ?_)
set_option maxHeartbeats 8000000 in
set_option maxRecDepth 100000 in
theorem sat_Mul.calls (k : Nat) (a0 : Int) (a1 : Int) (r : Int) (w : World) (h : sat_Mul.f k a0 a1 = some r) :
  Calls Try.prog 42 #[.int .i64 a0, .int .i64 a1] w fun e w' => e = .returned (.int .i64 r) ∧ Drawn0 w w' := by
 have H : ((sat_Abs.f k a0).bind fun t128 => ((sat_Abs.f k a1).bind fun t129 => (if t128 = 0 then (sat_Mul.j0 k a0 a1 t128 t129 2305843009213693952 true) else (sat_Mul.j0 k a0 a1 t128 t129 2305843009213693952 (decide (t129 ≤ (wrap64 ((2305843009213693952 : Int) / t128)))))))) = some r := h
 clear h
 replace H := Option.bind_eq_some_iff.mp H
 obtain ⟨t128, A30, H⟩ := H
 replace H : ((sat_Abs.f k a1).bind fun t129 => (if t128 = 0 then (sat_Mul.j0 k a0 a1 t128 t129 2305843009213693952 true) else (sat_Mul.j0 k a0 a1 t128 t129 2305843009213693952 (decide (t129 ≤ (wrap64 ((2305843009213693952 : Int) / t128))))))) = some r := H
 have A3 := mk A30
 clear A30
 replace H := Option.bind_eq_some_iff.mp H
 obtain ⟨t129, A40, H⟩ := H
 replace H : (if t128 = 0 then (sat_Mul.j0 k a0 a1 t128 t129 2305843009213693952 true) else (sat_Mul.j0 k a0 a1 t128 t129 2305843009213693952 (decide (t129 ≤ (wrap64 ((2305843009213693952 : Int) / t128)))))) = some r := H
 have A4 := mk A40
 clear A40
 have HC5 := mk H
 clear H
 go_enter Try.func42, Try.ntmps42
 go_upto_region 3 with (first | ((with_reducible refine gate_callee (f := 49) rfl ?_); refine goesL_ (some 9) rfl rfl Try.func49 (by kernel_rfl) rfl #[.int .i64 a0] rfl (by (try simp only [List.map_toArray, List.map_cons, List.map_nil]); first | done | rfl | (simp only [List.length_drop, List.length_take]; rfl)) ?_; (with_reducible refine (sat_Abs.calls k a0 t128 _ A3.1).mono ?_); rintro e w' ⟨rfl, ⟨nd, rfl⟩⟩; refine ⟨_, rfl, ?_⟩) | ((with_reducible refine gate_callee (f := 49) rfl ?_); refine goesL_ (some 11) rfl rfl Try.func49 (by kernel_rfl) rfl #[.int .i64 a1] rfl (by (try simp only [List.map_toArray, List.map_cons, List.map_nil]); first | done | rfl | (simp only [List.length_drop, List.length_take]; rfl)) ?_; (with_reducible refine (sat_Abs.calls k a1 t129 _ A4.1).mono ?_); rintro e w' ⟨rfl, ⟨nd, rfl⟩⟩; refine ⟨_, rfl, ?_⟩))
 (try simp only [Act.put, List.setIfInBounds_toArray, List.set_cons_zero, List.set_cons_succ])
 go_cut [19] (fun v19 wc => ∃ (kq : Nat) (x19_4 : Bool), v19 = .bool x19_4 ∧ Aside0 (sat_Mul.j0 kq a0 a1 t128 t129 2305843009213693952 x19_4 = some r) ∧ Aside0 (kq ≤ k) ∧ Drawn0 w wc)
 case first =>
  have H := HC5.out
  clear HC5
  by_cases c6 : t128 = 0
  ·rw [if_pos c6] at H
   have c6b0 : (t128 == 0) = true := beq_iff_eq.mpr c6
   have c6b1 : (t128 != 0) = false := bne_eq_false_iff_eq.mpr c6
   clear c6
   (first | rw [c6b0] | (simp only [i64_w, i32_w]; rw [c6b0]) | skip)
   have H' := mk H
   clear H
   go_wp2
   go_meet
   case rel => exact ⟨_, (true), (by first | rfl | (simp; done) | (simp [*]; done) | (simp [Int.tdiv_eq_ediv_of_nonneg]; done) | (simp [Go.RowKit.wrap64]; done) | (simp [*, Go.RowKit.wrap64]; done)), H', ⟨by first | omega | exact Nat.le_refl _⟩, by repeat (first | exact Drawn0.refl _ | apply Drawn0.step)⟩
  rw [if_neg c6] at H
  have c6b0 : (t128 == 0) = false := beq_eq_false_iff_ne.mpr c6
  have c6b1 : (t128 != 0) = true := bne_iff_ne.mpr c6
  (first | rw [c6b0] | (simp only [i64_w, i32_w]; rw [c6b0]) | skip)
  have H' := mk H
  clear H
  go_wp2
  go_meet
  case rel => exact ⟨_, (decide (t129 ≤ (wrap64 ((2305843009213693952 : Int) / t128)))), (by first | rfl | (simp; done) | (simp [*]; done) | (simp [Int.tdiv_eq_ediv_of_nonneg]; done) | (simp [Go.RowKit.wrap64]; done) | (simp [*, Go.RowKit.wrap64]; done)), H', ⟨by first | omega | exact Nat.le_refl _⟩, by repeat (first | exact Drawn0.refl _ | apply Drawn0.step)⟩
 case rest =>
  clear HC5
  try clear p2
  try clear c4
  try clear c6
  try clear c6b0
  try clear c6b1
  try clear p6
  obtain ⟨kq, x19_4, rfl, HA, HJ4, ⟨mc4, rfl⟩⟩ := hcut
  cases kq with
  | zero => exact absurd HA.out (by simp [sat_Mul.j0])
  | succ kj4 =>
   have H := HA.out
   clear HA
   simp only [sat_Mul.j0] at H
   by_cases c7 : x19_4 = true
   ·subst c7
    have H1 : (if ((decide (a0 < 0)) != (decide (a1 < 0))) = true then (some (wrap64 (-(wrap64 (t128 * t129))))) else (some (wrap64 (t128 * t129)))) = some r := by rw [if_pos rfl] at H; exact H
    clear H
    have H := H1
    clear H1
    by_cases c8 : ((decide (a0 < 0)) != (decide (a1 < 0))) = true
    ·rw [if_pos c8] at H
     have c8b0 : ((decide (a0 < 0)) != (decide (a1 < 0))) = true := c8
     (try (have c8b1 : decide ((decide (a0 < 0)) = (decide (a1 < 0))) = false := by simpa using c8))
     (try (have c8b2 : ((decide (a0 < 0)) == (decide (a1 < 0))) = false := by simpa using c8))
     (try (have c8b3 : ¬ ((decide (a0 < 0)) = (decide (a1 < 0))) := by simpa using c8))
     clear c8
     obtain rfl := Option.some.inj H
     go_wp2
     go_ret
     exact ⟨by first | rfl | (simp; done) | (simp [*]; done) | (simp [Int.tdiv_eq_ediv_of_nonneg]; done) | (simp [Go.RowKit.wrap64]; done) | (simp [*, Go.RowKit.wrap64]; done), by repeat (first | exact Drawn0.refl _ | apply Drawn0.step)⟩
    rw [if_neg c8] at H
    have c8b0 : ((decide (a0 < 0)) != (decide (a1 < 0))) = false := by simpa using c8
    (try (have c8b1 : decide ((decide (a0 < 0)) = (decide (a1 < 0))) = true := by simpa using c8))
    (try (have c8b2 : ((decide (a0 < 0)) == (decide (a1 < 0))) = true := by simpa using c8))
    clear c8
    obtain rfl := Option.some.inj H
    go_wp2
    go_ret
    exact ⟨by first | rfl | (simp; done) | (simp [*]; done) | (simp [Int.tdiv_eq_ediv_of_nonneg]; done) | (simp [Go.RowKit.wrap64]; done) | (simp [*, Go.RowKit.wrap64]; done), by repeat (first | exact Drawn0.refl _ | apply Drawn0.step)⟩
   replace c7 := Bool.eq_false_iff.mpr c7
   subst c7
   have H1 : (if ((decide (a0 < 0)) != (decide (a1 < 0))) = true then (some (wrap64 (-2305843009213693952))) else (some 2305843009213693952)) = some r := by rw [if_neg (show ¬ (false = true) by decide)] at H; exact H
   clear H
   have H := H1
   clear H1
   by_cases c9 : ((decide (a0 < 0)) != (decide (a1 < 0))) = true
   ·rw [if_pos c9] at H
    have c9b0 : ((decide (a0 < 0)) != (decide (a1 < 0))) = true := c9
    (try (have c9b1 : decide ((decide (a0 < 0)) = (decide (a1 < 0))) = false := by simpa using c9))
    (try (have c9b2 : ((decide (a0 < 0)) == (decide (a1 < 0))) = false := by simpa using c9))
    (try (have c9b3 : ¬ ((decide (a0 < 0)) = (decide (a1 < 0))) := by simpa using c9))
    clear c9
    obtain rfl := Option.some.inj H
    go_wp2
    go_ret
    exact ⟨by first | rfl | (simp; done) | (simp [*]; done) | (simp [Int.tdiv_eq_ediv_of_nonneg]; done) | (simp [Go.RowKit.wrap64]; done) | (simp [*, Go.RowKit.wrap64]; done), by repeat (first | exact Drawn0.refl _ | apply Drawn0.step)⟩
   rw [if_neg c9] at H
   have c9b0 : ((decide (a0 < 0)) != (decide (a1 < 0))) = false := by simpa using c9
   (try (have c9b1 : decide ((decide (a0 < 0)) = (decide (a1 < 0))) = true := by simpa using c9))
   (try (have c9b2 : ((decide (a0 < 0)) == (decide (a1 < 0))) = true := by simpa using c9))
   clear c9
   obtain rfl := Option.some.inj H
   go_wp2
   go_ret
   exact ⟨by first | rfl | (simp; done) | (simp [*]; done) | (simp [Int.tdiv_eq_ediv_of_nonneg]; done) | (simp [Go.RowKit.wrap64]; done) | (simp [*, Go.RowKit.wrap64]; done), by repeat (first | exact Drawn0.refl _ | apply Drawn0.step)⟩

/-! ### limit_Hop: function 63 -/
def limit_Hop.f (k : Nat) (a0_0 : Int) (a0_1 : Int) (a0_2 : Int) (a0_3 : Int) (a0_4 : Int) (a0_5 : Int) (a0_6 : Int) (a0_7 : Int) (a0_8 : Int) (a0_9 : Int) (a0_10 : Int) (a0_11 : Int) : Option (Int) := (sat_Mul.f k 2 a0_4).bind fun t131 => ((sat_Add.f k (([a0_6, t131] : List Int))).bind fun t135 => (some t135))
theorem limit_Hop.mono : ∀ a0 a1 a2 a3 a4 a5 a6 a7 a8 a9 a10 a11 k, LeO (limit_Hop.f k a0 a1 a2 a3 a4 a5 a6 a7 a8 a9 a10 a11) (limit_Hop.f (k + 1) a0 a1 a2 a3 a4 a5 a6 a7 a8 a9 a10 a11) := by
 intro a0 a1 a2 a3 a4 a5 a6 a7 a8 a9 a10 a11 k
 unfold limit_Hop.f
 repeat' first
   | (with_reducible exact sat_Add.mono _ _)
   | (with_reducible exact sat_Mul.mono _ _ _)
   | (with_reducible exact LeO.refl _)
   | (with_reducible exact LeO.none _)
   | (with_reducible refine LeO.ite ?_ ?_)
   | (with_reducible refine LeO.bind ?_ (fun _ => ?_))
   | exact sat_Add.mono _ _
   | exact sat_Mul.mono _ _ _
   | exact LeO.none _
   | refine LeO.ite ?_ ?_
   | refine LeO.bind ?_ (fun _ => ?_)
def limit_Hop.T1 : Bool × List (List Nat × List Nat) := (true, [([], []), ([0], [0]), ([], []), ([2], [2]), ([3], [3]), ([1, 4], [1, 4]), ([5, 4], [5]), ([6, 6, 0, 1, 2, 3, 4, 5, 6], [6])])
def limit_Hop.B1 : List Nat := [0, 1, 0, 4, 12, 31, 63, 127]
theorem limit_Hop.tab1 : rtab .any (opsOf Try.f63 1) = limit_Hop.T1 := by kernel_rfl
theorem limit_Hop.bits1 : waitsOk limit_Hop.T1.2 limit_Hop.B1 = true := by kernel_rfl
set_option maxHeartbeats 8000000 in
set_option maxRecDepth 100000 in
theorem limit_Hop.calls (k : Nat) (a0_0 : Int) (a0_1 : Int) (a0_2 : Int) (a0_3 : Int) (a0_4 : Int) (a0_5 : Int) (a0_6 : Int) (a0_7 : Int) (a0_8 : Int) (a0_9 : Int) (a0_10 : Int) (a0_11 : Int) (r : Int) (w : World) (h : limit_Hop.f k a0_0 a0_1 a0_2 a0_3 a0_4 a0_5 a0_6 a0_7 a0_8 a0_9 a0_10 a0_11 = some r) :
  Calls Try.prog 63 #[.agg #[.int .i64 a0_0, .int .i64 a0_1, .int .i64 a0_2, .int .i64 a0_3, .int .i64 a0_4, .int .i64 a0_5, .int .i64 a0_6, .int .i64 a0_7, .int .i64 a0_8, .int .i64 a0_9, .int .i64 a0_10, .int .i64 a0_11]] w fun e w' => e = .returned (.int .i64 r) ∧ Below w.heap.size w w' := by
 have hu23 := Try.underlying23
 have HB := mk (Below.refl w.heap.size w)
 have H : ((sat_Mul.f k 2 a0_4).bind fun t131 => ((sat_Add.f k (([a0_6, t131] : List Int))).bind fun t135 => (some t135))) = some r := h
 clear h
 replace H := Option.bind_eq_some_iff.mp H
 obtain ⟨t131, A20, H⟩ := H
 replace H : ((sat_Add.f k (([a0_6, t131] : List Int))).bind fun t135 => (some t135)) = some r := H
 have A2 := mk A20
 clear A20
 obtain ⟨y132, hy132⟩ : ∃ y_ : List Int, y_ = (([a0_6, t131] : List Int)) := ⟨_, rfl⟩
 replace H : ((sat_Add.f k y132).bind fun t135 => (some t135)) = some r := by first | (rw [hy132]; with_reducible exact H) | (have H2_ := (Option.bind_some _ _).symm.trans H; rw [hy132]; with_reducible exact H2_) | (have H2_ := (Option.bind_some _ _).symm.trans H; with_reducible exact H2_) | with_reducible exact H | (rw [hy132]; exact H) | exact H
 have Ny132 := mk hy132
 clear hy132
 replace H := Option.bind_eq_some_iff.mp H
 obtain ⟨t135, A30, H⟩ := H
 replace H : (some t135) = some r := H
 have A3 := mk A30
 clear A30
 obtain rfl := Option.some.inj H
 go_enter Try.func63, Try.ntmps63
 try go_wp2_with (first | ((with_reducible refine gate_dst (N := 1) rfl ?_); refine box_event ?hg (N := 1) ?hd (cs := #[.int .i64 a0_0, .int .i64 a0_1, .int .i64 a0_2, .int .i64 a0_3, .int .i64 a0_4, .int .i64 a0_5, .int .i64 a0_6, .int .i64 a0_7, .int .i64 a0_8, .int .i64 a0_9, .int .i64 a0_10, .int .i64 a0_11]) (t := 23) ?hr ?_; (case hd => rfl); (case hg => rfl); (case hr => first | (go_simp; done) | (go_simp; rfl)); intro g0_ hg w4 hbox hb; have n0_ := mk (below_step (by repeat first | exact HB.1 | apply pD | apply b1 | refine bT (by assumption) ?_ | apply bA) hb); have n1_ := mk (hbox); have n2_ := gl hg (by repeat first | exact HB.1 | apply pD | apply b1 | refine bT (by assumption) ?_ | apply bA); have n3_ := gl hg (by repeat first | exact HB.1 | apply pD | apply b1 | refine bT (by assumption) ?_ | apply bA); clear HB; have HB := n0_; have B0_ := n1_; have W0_ := n2_; have E0_ := n3_; clear n0_ n1_ n2_ n3_; clear hb hbox hg))
 have n0_ := mk (blk_drew B0_.1)
 have n1_ := mk (below_drew1 HB.1)
 clear B0_ HB
 have B0_ := n0_
 have HB := n1_
 clear n0_ n1_
 refine start_ (n := 8) (S := fun w' => w'.cell? ⟨g0_, 4, none⟩ = some (.int .i64 a0_4) ∧ w'.cell? ⟨g0_, 6, none⟩ = some (.int .i64 a0_6)) (ds := []) (bs 8 0) (by kernel_rfl) rfl rfl ⟨bQ B0_.1 4, bQ B0_.1 6⟩ (fun hHeld => ?_); refine with_tabW limit_Hop.tab1 limit_Hop.bits1 (fun HT_ HW_ => ?_)
 generalize w4.drew = w5 at B0_ HB hHeld ⊢
 refine pure_ (i := 0) (N := some 3) (v := ?_) (a' := ?_) (bs 8 1) rfl rfl (any_of HT_.out (by kernel_rfl)) (fun _ _ _ h => h) (Or.inl ⟨by rfl, ?_⟩) ?_ ?_
 rotate_left
 ·intro w'
  go_simp
  with_reducible rfl
 rotate_left
 ·simp only [Act.put, List.setIfInBounds_toArray, List.set_cons_zero, List.set_cons_succ, i64_w, i32_w]
  rfl
 refine pure_ (i := 2) (N := some 5) (v := ?_) (a' := ?_) (bs 8 5) rfl rfl (any_of HT_.out (by kernel_rfl)) (fun _ _ _ h => h) (Or.inl ⟨by rfl, ?_⟩) ?_ ?_
 rotate_left
 ·intro w'
  go_simp
  with_reducible rfl
 rotate_left
 ·simp only [Act.put, List.setIfInBounds_toArray, List.set_cons_zero, List.set_cons_succ, i64_w, i32_w]
  rfl
 refine take_ (i := 1) (N := some 4) (v := ?_) (a' := ?_) (bs 8 7) rfl rfl (take_ofW HT_.out HW_.out (by kernel_rfl)) (fun _ _ _ h => h) (Or.inl ⟨by rfl, ?_⟩) hHeld ?_ ?_
 rotate_left
 ·rintro w' ⟨s0, s1⟩
  go_simp
  with_reducible rfl
 rotate_left
 ·simp only [Act.put, List.setIfInBounds_toArray, List.set_cons_zero, List.set_cons_succ, i64_w, i32_w]
  rfl
 refine take_ (i := 3) (N := some 6) (v := ?_) (a' := ?_) (bs 8 15) rfl rfl (take_ofW HT_.out HW_.out (by kernel_rfl)) (fun _ _ _ h => h) (Or.inl ⟨by rfl, ?_⟩) hHeld ?_ ?_
 rotate_left
 ·rintro w' ⟨s0, s1⟩
  go_simp
  with_reducible rfl
 rotate_left
 ·simp only [Act.put, List.setIfInBounds_toArray, List.set_cons_zero, List.set_cons_succ, i64_w, i32_w]
  rfl
 refine one_ (i := 4) (N := some 7) (bs 8 31) rfl rfl (one_of HT_.out (by kernel_rfl)) (by decide) (fun K hK => ?_)
 refine goes_ Try.func42 (by kernel_rfl) rfl #[.int .i64 2, .int .i64 a0_4] (by rfl) rfl rfl (by (try simp only [List.map_toArray, List.map_cons, List.map_nil]); first | done | rfl | (simp only [List.length_drop, List.length_take]; rfl)) ?_
 with_reducible refine (sat_Mul.calls k 2 a0_4 t131 _ A2.1).mono ?_
 rintro e w' ⟨rfl, ⟨nd, rfl⟩⟩
 refine ⟨_, rfl, ?_⟩
 refine hK.out _ _ ⟨bQ B0_.1 4, bQ B0_.1 6⟩ (fun hHeld => ?_)
 clear hK K
 refine norm_ (a' := ?_) ?_ ?_
 rotate_left
 ·show Act.put _ (some 7) _ = _
  simp only [Act.put, List.setIfInBounds_toArray, List.set_cons_zero, List.set_cons_succ, i64_w, i32_w]
  rfl
 refine one_ (i := 5) (N := some 8) (bs 8 63) rfl rfl (one_of HT_.out (by kernel_rfl)) (by decide) (fun K hK => ?_)
 refine Kd.R_lit_step (Kd.int .i64) _ 3 ?hg (N := 8) ?hd (xs := ([a0_6, t131] : List Int)) (inner := [.int .i64 a0_6, .int .i64 t131]) (ok := fun _ => True) (okp := fun _ => True) ?hr ?hp (fun _ hk => hk) trivial (Below.refl _ _) (Nat.le_refl _) (by simp) ?_; (case hd => rfl); (case hg => rfl); (case hr => first | (go_simp; done) | (go_simp; rfl)); (case hp => exact (Reps.one (show Kd.M (Kd.int .i64) _ _ _ a0_6 [.int .i64 a0_6] from rfl) (Reps.one (show Kd.M (Kd.int .i64) _ _ _ t131 [.int .i64 t131] from rfl) (Reps.none _ _))))
 intro v133 w6 ho7 hb hg_ hnew_
 clear hg_ hnew_
 (first | rw [← Ny132.out] at ho7 | (simp only [Int.reduceToNat] at ho7; rw [← Ny132.out] at ho7))
 have HO134 := mk (Kd.R_lower ho7 (below_size (by repeat first | exact HB.1 | apply pD | apply b1 | refine bT (by assumption) ?_ | apply bA)))
 have n1_ := bb hb B0_.1
 have n2_ := mk (below_step (by repeat first | exact HB.1 | apply pD | apply b1 | refine bT (by assumption) ?_ | apply bA) hb)
 clear B0_ HB
 have B0_ := n1_
 have HB := n2_
 clear n1_ n2_ hb ho7
 obtain ⟨Ao8, co8, eo8⟩ := Kd.R_slice HO134.1
 (first | subst eo8 | (injection eo8 with f1_ f2_ f3_; have f4_ := f1_.symm; have f5_ := f3_.symm; clear f1_ f2_ f3_; subst f4_; subst f5_))
 refine hK.out _ _ ⟨bQ B0_.1 4, bQ B0_.1 6⟩ (fun hHeld => ?_)
 clear hK K
 refine norm_ (a' := ?_) ?_ ?_
 rotate_left
 ·show Act.put _ (some 8) _ = _
  simp only [Act.put, List.setIfInBounds_toArray, List.set_cons_zero, List.set_cons_succ, i64_w, i32_w]
  rfl
 refine one_ (i := 6) (N := some 9) (bs 8 127) rfl rfl (one_of HT_.out (by kernel_rfl)) (by decide) (fun K hK => ?_)
 refine goes_ Try.func33 (by kernel_rfl) rfl #[.slice Ao8 y132.length co8] (by rfl) rfl rfl (by (try simp only [List.map_toArray, List.map_cons, List.map_nil]); first | done | rfl | (simp only [List.length_drop, List.length_take]; rfl)) ?_
 with_reducible refine (sat_Add.calls k _ _ y132 t135 _ ?side1 ?side2 A3.1).mono ?_
 (case side1 => repeat (first | exact (Kd.R_reads' HO134.1).2.2 | (with_reducible refine Kd.C_alloc ?_ _) | (with_reducible refine Kd.C_drewN ?_ _) | (with_reducible refine Kd.C_drew ?_)))
 (case side2 => exact (Kd.R_reads' HO134.1).2.1)
 rintro e w' ⟨rfl, ⟨nd, rfl⟩⟩
 refine ⟨_, rfl, ?_⟩
 refine hK.out _ _ ⟨bQ B0_.1 4, bQ B0_.1 6⟩ (fun hHeld => ?_)
 clear hK K
 refine norm_ (a' := ?_) ?_ ?_
 rotate_left
 ·show Act.put _ (some 9) _ = _
  simp only [Act.put, List.setIfInBounds_toArray, List.set_cons_zero, List.set_cons_succ, i64_w, i32_w]
  rfl
 refine pure_ (i := 7) (N := some 2) (v := ?_) (a' := ?_) (bs 8 255) rfl rfl (any_of HT_.out (by kernel_rfl)) (fun _ _ _ h => h) (Or.inl ⟨by rfl, ?_⟩) ?_ ?_
 rotate_left
 ·intro w'
  go_simp
  with_reducible rfl
 rotate_left
 ·simp only [Act.put, List.setIfInBounds_toArray, List.set_cons_zero, List.set_cons_succ, i64_w, i32_w]
  rfl
 refine done_ (done_of HT_.out (by kernel_rfl)) ?_
 try go_wp2
 go_ret
 exact ⟨by first | rfl | (simp [errW_none, errW_some] <;> rfl) | (simp [*, errW_none, errW_some] <;> rfl), by repeat (first | (with_reducible first | exact HB.1 | apply bA | apply pD | apply b1 | apply bS E0_.1) | exact HB.1)⟩

end Go.Proofs.Ytigkjbaclpklpaa.Q
