/- The calls of these Go functions answer what the Lean functions beside them answer; written by a program (wip/pr2.py, out of the print of the loaded program); under no condition but those that stand in the theorems. -/
import Derived.Test.YtigpigfoahlfjaaQx0
import Derived.Test.YtigpigfoahlfjaaQx3
import Derived.Test.YtigpigfoahlfjaaQx5
namespace Go.Proofs.Ytigpigfoahlfjaa.Q
open Go.RowKit Go.Proofs.YtigpigfoahlfjaaW.PrintWords Go.Proofs.YtigpigfoahlfjaaW.PrintLast Go.Proofs.YtigpigfoahlfjaaW.PrintMore
attribute [local go_sem] max2_int min2_int max_two min_two max_three min_three max_four min_four   -- for this text's walks alone
set_option linter.unusedVariables false
set_option linter.unusedSimpArgs false

-- NOT PRINTED: function 9 (clepsydralaw20_HlcAhead)

/-! ### probe_least: function 53 -/
def probe_least.f (k : Nat) (a0_0 : Int) (a0_1 : Int) (a0_2 : Int) (a0_3 : Int) (a0_4 : Int) (a0_5 : Int) (a0_6 : Int) (a0_7 : Int) (a0_8 : Int) (a0_9 : Int) (a0_10 : Int) (a0_11 : Int) : Option (Int) := (sat_Sub.f k a0_5 a0_6).bind fun t404 => (some t404)
theorem probe_least.mono : ∀ a0 a1 a2 a3 a4 a5 a6 a7 a8 a9 a10 a11 k, LeO (probe_least.f k a0 a1 a2 a3 a4 a5 a6 a7 a8 a9 a10 a11) (probe_least.f (k + 1) a0 a1 a2 a3 a4 a5 a6 a7 a8 a9 a10 a11) := by
  intro a0 a1 a2 a3 a4 a5 a6 a7 a8 a9 a10 a11 k
  unfold probe_least.f
  repeat' first
      | (with_reducible exact sat_Sub.mono _ _ _)
      | (with_reducible exact LeO.refl _)
      | (with_reducible exact LeO.none _)
      | (with_reducible refine LeO.ite ?_ ?_)
      | (with_reducible refine LeO.bind ?_ (fun _ => ?_))
      | exact sat_Sub.mono _ _ _
      | exact LeO.none _
      | refine LeO.ite ?_ ?_
      | refine LeO.bind ?_ (fun _ => ?_)
set_option maxHeartbeats 8000000 in
set_option maxRecDepth 100000 in
theorem probe_least.calls (k : Nat) (a0_0 : Int) (a0_1 : Int) (a0_2 : Int) (a0_3 : Int) (a0_4 : Int) (a0_5 : Int) (a0_6 : Int) (a0_7 : Int) (a0_8 : Int) (a0_9 : Int) (a0_10 : Int) (a0_11 : Int) (r : Int) (w : World) (h : probe_least.f k a0_0 a0_1 a0_2 a0_3 a0_4 a0_5 a0_6 a0_7 a0_8 a0_9 a0_10 a0_11 = some r) :
    Calls Try.prog 53 #[.agg #[.int .i64 a0_0, .int .i64 a0_1, .int .i64 a0_2, .int .i64 a0_3, .int .i64 a0_4, .int .i64 a0_5, .int .i64 a0_6, .int .i64 a0_7, .int .i64 a0_8, .int .i64 a0_9, .int .i64 a0_10, .int .i64 a0_11]] w fun e w' => e = .returned (.int .i64 r) ∧ Below w.heap.size w w' := by
  have hu23 := Try.underlying23
  have HB := Aside0.mk (Below.refl w.heap.size w)
  have H : ((sat_Sub.f k a0_5 a0_6).bind fun t404 => (some t404)) = some r := h
  clear h
  replace H := Option.bind_eq_some_iff.mp H
  obtain ⟨t404, A20, H⟩ := H
  replace H : (some t404) = some r := H
  have A2 := Aside0.mk A20
  clear A20
  obtain rfl := Option.some.inj H
  go_enter Try.func53, Try.ntmps53
  go_wp2_with (first | ((with_reducible refine gate_dst (N := 1) rfl ?_); refine box_event ?hg (N := 1) ?hd (cs := #[.int .i64 a0_0, .int .i64 a0_1, .int .i64 a0_2, .int .i64 a0_3, .int .i64 a0_4, .int .i64 a0_5, .int .i64 a0_6, .int .i64 a0_7, .int .i64 a0_8, .int .i64 a0_9, .int .i64 a0_10, .int .i64 a0_11]) (t := 23) ?hr ?_; (case hd => rfl); (case hg => rfl); (case hr => first | (go_simp; done) | (go_simp; rfl)); intro gb403 hg w3 hbox hb; have n0_ := Aside0.mk (below_step (by repeat (first | (with_reducible first | exact HB.out | apply below_alloc | apply pw_below_drewN | apply below_drew1) | exact HB.out)) hb); have n1_ := Aside0.mk (hbox); have n2_ := Aside0.mk ((by rw [hg]; exact (below_size (by repeat (first | (with_reducible first | exact HB.out | apply below_alloc | apply pw_below_drewN | apply below_drew1) | exact HB.out))) : w.heap.size ≤ gb403)); have n3_ := Aside0.mk ((by rw [hg]; exact (below_size (by repeat (first | (with_reducible first | exact HB.out | apply below_alloc | apply pw_below_drewN | apply below_drew1) | exact HB.out))) : w.heap.size ≤ gb403)); clear HB; have HB := n0_; have BK403 := n1_; have GW403 := n2_; have GE403 := n3_; clear n0_ n1_ n2_ n3_; clear hb hbox hg; have hcz4_0 : w3.cell? ⟨gb403, 0, none⟩ = some (.int .i64 a0_0) := (blk_cell BK403.out 0).trans rfl; have hcz4_1 : w3.cell? ⟨gb403, 1, none⟩ = some (.int .i64 a0_1) := (blk_cell BK403.out 1).trans rfl; have hcz4_2 : w3.cell? ⟨gb403, 2, none⟩ = some (.int .i64 a0_2) := (blk_cell BK403.out 2).trans rfl; have hcz4_3 : w3.cell? ⟨gb403, 3, none⟩ = some (.int .i64 a0_3) := (blk_cell BK403.out 3).trans rfl; have hcz4_4 : w3.cell? ⟨gb403, 4, none⟩ = some (.int .i64 a0_4) := (blk_cell BK403.out 4).trans rfl; have hcz4_5 : w3.cell? ⟨gb403, 5, none⟩ = some (.int .i64 a0_5) := (blk_cell BK403.out 5).trans rfl; have hcz4_6 : w3.cell? ⟨gb403, 6, none⟩ = some (.int .i64 a0_6) := (blk_cell BK403.out 6).trans rfl; have hcz4_7 : w3.cell? ⟨gb403, 7, none⟩ = some (.int .i64 a0_7) := (blk_cell BK403.out 7).trans rfl; have hcz4_8 : w3.cell? ⟨gb403, 8, none⟩ = some (.int .i64 a0_8) := (blk_cell BK403.out 8).trans rfl; have hcz4_9 : w3.cell? ⟨gb403, 9, none⟩ = some (.int .i64 a0_9) := (blk_cell BK403.out 9).trans rfl; have hcz4_10 : w3.cell? ⟨gb403, 10, none⟩ = some (.int .i64 a0_10) := (blk_cell BK403.out 10).trans rfl; have hcz4_11 : w3.cell? ⟨gb403, 11, none⟩ = some (.int .i64 a0_11) := (blk_cell BK403.out 11).trans rfl; have hfz4_0 := blk_frozen BK403.out 0; have hfz4_1 := blk_frozen BK403.out 1; have hfz4_2 := blk_frozen BK403.out 2; have hfz4_3 := blk_frozen BK403.out 3; have hfz4_4 := blk_frozen BK403.out 4; have hfz4_5 := blk_frozen BK403.out 5; have hfz4_6 := blk_frozen BK403.out 6; have hfz4_7 := blk_frozen BK403.out 7; have hfz4_8 := blk_frozen BK403.out 8; have hfz4_9 := blk_frozen BK403.out 9; have hfz4_10 := blk_frozen BK403.out 10; have hfz4_11 := blk_frozen BK403.out 11) | ((with_reducible refine gate_callee (f := 40) rfl ?_); refine goesL_ (some 7) rfl rfl Try.func40 (by kernel_rfl) rfl #[.int .i64 a0_5, .int .i64 a0_6] rfl (by (try simp only [List.map_toArray, List.map_cons, List.map_nil]); first | done | rfl | (simp only [List.length_drop, List.length_take]; rfl)) ?_; (with_reducible refine (sat_Sub.calls k a0_5 a0_6 t404 _ A2.out).mono ?_); rintro e w' ⟨rfl, ⟨nd, rfl⟩⟩; refine ⟨_, rfl, ?_⟩))
  go_ret
  exact ⟨by first | rfl | (simp [errW_none, errW_some] <;> rfl) | (simp [*, errW_none, errW_some] <;> rfl), by repeat (first | (with_reducible first | exact HB.out | apply below_alloc | apply pw_below_drewN | apply below_drew1 | refine below_set ?_ GE403.out) | exact HB.out)⟩

/-! ### sat_Abs: function 61 -/
def sat_Abs.f (k : Nat) (a0 : Int) : Option (Int) := if a0 < 0 then ((sat_Neg.f k a0).bind fun t405 => (some t405)) else ((sat_Clip.f k a0).bind fun t406 => (some t406))
theorem sat_Abs.mono : ∀ a0 k, LeO (sat_Abs.f k a0) (sat_Abs.f (k + 1) a0) := by
  intro a0 k
  unfold sat_Abs.f
  repeat' first
      | (with_reducible exact sat_Clip.mono _ _)
      | (with_reducible exact sat_Neg.mono _ _)
      | (with_reducible exact LeO.refl _)
      | (with_reducible exact LeO.none _)
      | (with_reducible refine LeO.ite ?_ ?_)
      | (with_reducible refine LeO.bind ?_ (fun _ => ?_))
      | exact sat_Clip.mono _ _
      | exact sat_Neg.mono _ _
      | exact LeO.none _
      | refine LeO.ite ?_ ?_
      | refine LeO.bind ?_ (fun _ => ?_)
set_option maxHeartbeats 8000000 in
set_option maxRecDepth 100000 in
theorem sat_Abs.calls (k : Nat) (a0 : Int) (r : Int) (w : World) (h : sat_Abs.f k a0 = some r) :
    Calls Try.prog 61 #[.int .i64 a0] w fun e w' => e = .returned (.int .i64 r) ∧ Drawn0 w w' := by
  have H : (if a0 < 0 then ((sat_Neg.f k a0).bind fun t405 => (some t405)) else ((sat_Clip.f k a0).bind fun t406 => (some t406))) = some r := h
  clear h
  by_cases c2 : a0 < 0
  · rw [if_pos c2] at H
    have c2b0 : decide (a0 < 0) = true := decide_eq_true c2
    clear c2
    replace H := Option.bind_eq_some_iff.mp H
    obtain ⟨t405, A30, H⟩ := H
    replace H : (some t405) = some r := H
    have A3 := Aside0.mk A30
    clear A30
    obtain rfl := Option.some.inj H
    go_enter Try.func61, Try.ntmps61
    go_wp2_with (first | ((with_reducible refine gate_callee (f := 45) rfl ?_); refine goesL_ (some 6) rfl rfl Try.func45 (by kernel_rfl) rfl #[.int .i64 a0] rfl (by (try simp only [List.map_toArray, List.map_cons, List.map_nil]); first | done | rfl | (simp only [List.length_drop, List.length_take]; rfl)) ?_; (with_reducible refine (sat_Neg.calls k a0 t405 _ A3.out).mono ?_); rintro e w' ⟨rfl, ⟨nd, rfl⟩⟩; refine ⟨_, rfl, ?_⟩))
    go_ret
    exact ⟨by first | rfl | (simp; done) | (simp [*]; done) | (simp [Int.tdiv_eq_ediv_of_nonneg]; done) | (simp [Go.RowKit.wrap64]; done) | (simp [*, Go.RowKit.wrap64]; done), by repeat (first | exact Drawn0.refl _ | apply Drawn0.step)⟩
  · rw [if_neg c2] at H
    have c2b0 : decide (a0 < 0) = false := decide_eq_false c2
    clear c2
    replace H := Option.bind_eq_some_iff.mp H
    obtain ⟨t406, A40, H⟩ := H
    replace H : (some t406) = some r := H
    have A4 := Aside0.mk A40
    clear A40
    obtain rfl := Option.some.inj H
    go_enter Try.func61, Try.ntmps61
    go_wp2_with (first | ((with_reducible refine gate_callee (f := 51) rfl ?_); refine goesL_ (some 8) rfl rfl Try.func51 (by kernel_rfl) rfl #[.int .i64 a0] rfl (by (try simp only [List.map_toArray, List.map_cons, List.map_nil]); first | done | rfl | (simp only [List.length_drop, List.length_take]; rfl)) ?_; (with_reducible refine (sat_Clip.calls k a0 t406 _ A4.out).mono ?_); rintro e w' ⟨rfl, ⟨nd, rfl⟩⟩; refine ⟨_, rfl, ?_⟩))
    go_ret
    exact ⟨by first | rfl | (simp; done) | (simp [*]; done) | (simp [Int.tdiv_eq_ediv_of_nonneg]; done) | (simp [Go.RowKit.wrap64]; done) | (simp [*, Go.RowKit.wrap64]; done), by repeat (first | exact Drawn0.refl _ | apply Drawn0.step)⟩

/-! ### sat_Mul: function 54 -/
def sat_Mul.j0 : Nat → Int → Int → Int → Int → Int → Bool → Option (Int)
  | 0, _, _, _, _, _, _ => none
  | k + 1, x0, x1, x5, x6, x7, x19 => if x19 = true then (if ((decide (x0 < 0)) != (decide (x1 < 0))) = true then (some (wrap64 (-(wrap64 (x5 * x6))))) else (some (wrap64 (x5 * x6)))) else (if ((decide (x0 < 0)) != (decide (x1 < 0))) = true then (some (wrap64 (-x7))) else (some x7))
def sat_Mul.f (k : Nat) (a0 : Int) (a1 : Int) : Option (Int) := (sat_Abs.f k a0).bind fun t407 => ((sat_Abs.f k a1).bind fun t408 => (if t407 = 0 then (sat_Mul.j0 k a0 a1 t407 t408 2305843009213693952 true) else (sat_Mul.j0 k a0 a1 t407 t408 2305843009213693952 (decide (t408 ≤ (wrap64 ((2305843009213693952 : Int) / t407)))))))
theorem sat_Mul.mono_l : ∀ k, (∀ y0 y1 y2 y3 y4 y5, LeO (sat_Mul.j0 k y0 y1 y2 y3 y4 y5) (sat_Mul.j0 (k + 1) y0 y1 y2 y3 y4 y5))
  | 0 => fun _ _ _ _ _ _ r h => by simp [sat_Mul.j0] at h
  | k + 1 => by
    have ih0 := sat_Mul.mono_l k
    · intro y0 y1 y2 y3 y4 y5
      unfold sat_Mul.j0
      repeat' first
      | (with_reducible exact ih0 _ _ _ _ _ _)
      | (with_reducible exact sat_Abs.mono _ _)
      | (with_reducible exact LeO.refl _)
      | (with_reducible exact LeO.none _)
      | (with_reducible refine LeO.ite ?_ ?_)
      | (with_reducible refine LeO.bind ?_ (fun _ => ?_))
      | exact ih0 _ _ _ _ _ _
      | exact sat_Abs.mono _ _
      | exact LeO.none _
      | refine LeO.ite ?_ ?_
      | refine LeO.bind ?_ (fun _ => ?_)
theorem sat_Mul.mono : ∀ a0 a1 k, LeO (sat_Mul.f k a0 a1) (sat_Mul.f (k + 1) a0 a1) := by
  intro a0 a1 k
  have ih0 := sat_Mul.mono_l k
  unfold sat_Mul.f
  repeat' first
      | (with_reducible exact ih0 _ _ _ _ _ _)
      | (with_reducible exact sat_Abs.mono _ _)
      | (with_reducible exact LeO.refl _)
      | (with_reducible exact LeO.none _)
      | (with_reducible refine LeO.ite ?_ ?_)
      | (with_reducible refine LeO.bind ?_ (fun _ => ?_))
      | exact ih0 _ _ _ _ _ _
      | exact sat_Abs.mono _ _
      | exact LeO.none _
      | refine LeO.ite ?_ ?_
      | refine LeO.bind ?_ (fun _ => ?_)
set_option maxHeartbeats 8000000 in
set_option maxRecDepth 100000 in
theorem sat_Mul.calls (k : Nat) (a0 : Int) (a1 : Int) (r : Int) (w : World) (h : sat_Mul.f k a0 a1 = some r) :
    Calls Try.prog 54 #[.int .i64 a0, .int .i64 a1] w fun e w' => e = .returned (.int .i64 r) ∧ Drawn0 w w' := by
  have H : ((sat_Abs.f k a0).bind fun t407 => ((sat_Abs.f k a1).bind fun t408 => (if t407 = 0 then (sat_Mul.j0 k a0 a1 t407 t408 2305843009213693952 true) else (sat_Mul.j0 k a0 a1 t407 t408 2305843009213693952 (decide (t408 ≤ (wrap64 ((2305843009213693952 : Int) / t407)))))))) = some r := h
  clear h
  replace H := Option.bind_eq_some_iff.mp H
  obtain ⟨t407, A30, H⟩ := H
  replace H : ((sat_Abs.f k a1).bind fun t408 => (if t407 = 0 then (sat_Mul.j0 k a0 a1 t407 t408 2305843009213693952 true) else (sat_Mul.j0 k a0 a1 t407 t408 2305843009213693952 (decide (t408 ≤ (wrap64 ((2305843009213693952 : Int) / t407))))))) = some r := H
  have A3 := Aside0.mk A30
  clear A30
  replace H := Option.bind_eq_some_iff.mp H
  obtain ⟨t408, A40, H⟩ := H
  replace H : (if t407 = 0 then (sat_Mul.j0 k a0 a1 t407 t408 2305843009213693952 true) else (sat_Mul.j0 k a0 a1 t407 t408 2305843009213693952 (decide (t408 ≤ (wrap64 ((2305843009213693952 : Int) / t407)))))) = some r := H
  have A4 := Aside0.mk A40
  clear A40
  have HC5 := Aside0.mk H
  clear H
  go_enter Try.func54, Try.ntmps54
  go_upto_region 3 with (first | ((with_reducible refine gate_callee (f := 61) rfl ?_); refine goesL_ (some 9) rfl rfl Try.func61 (by kernel_rfl) rfl #[.int .i64 a0] rfl (by (try simp only [List.map_toArray, List.map_cons, List.map_nil]); first | done | rfl | (simp only [List.length_drop, List.length_take]; rfl)) ?_; (with_reducible refine (sat_Abs.calls k a0 t407 _ A3.out).mono ?_); rintro e w' ⟨rfl, ⟨nd, rfl⟩⟩; refine ⟨_, rfl, ?_⟩) | ((with_reducible refine gate_callee (f := 61) rfl ?_); refine goesL_ (some 11) rfl rfl Try.func61 (by kernel_rfl) rfl #[.int .i64 a1] rfl (by (try simp only [List.map_toArray, List.map_cons, List.map_nil]); first | done | rfl | (simp only [List.length_drop, List.length_take]; rfl)) ?_; (with_reducible refine (sat_Abs.calls k a1 t408 _ A4.out).mono ?_); rintro e w' ⟨rfl, ⟨nd, rfl⟩⟩; refine ⟨_, rfl, ?_⟩))
  (try simp only [Act.put, List.setIfInBounds_toArray, List.set_cons_zero, List.set_cons_succ])
  go_cut [19] (fun v19 wc => ∃ (kq : Nat) (x19_4 : Bool), v19 = .bool x19_4 ∧ Aside0 (sat_Mul.j0 kq a0 a1 t407 t408 2305843009213693952 x19_4 = some r) ∧ Aside0 (kq ≤ k) ∧ Drawn0 w wc)
  case first =>
    have H := HC5.out
    clear HC5
    by_cases c6 : t407 = 0
    · rw [if_pos c6] at H
      have c6b0 : (t407 == 0) = true := beq_iff_eq.mpr c6
      have c6b1 : (t407 != 0) = false := bne_eq_false_iff_eq.mpr c6
      clear c6
      (first | rw [c6b0] | (simp only [i64_w, i32_w]; rw [c6b0]) | skip)
      have H' := Aside0.mk H
      clear H
      go_wp2
      go_meet
      case rel => exact ⟨_, (true), (by first | rfl | (simp; done) | (simp [*]; done) | (simp [Int.tdiv_eq_ediv_of_nonneg]; done) | (simp [Go.RowKit.wrap64]; done) | (simp [*, Go.RowKit.wrap64]; done)), H', ⟨by first | omega | exact Nat.le_refl _⟩, by repeat (first | exact Drawn0.refl _ | apply Drawn0.step)⟩
    · rw [if_neg c6] at H
      have c6b0 : (t407 == 0) = false := beq_eq_false_iff_ne.mpr c6
      have c6b1 : (t407 != 0) = true := bne_iff_ne.mpr c6
      (first | rw [c6b0] | (simp only [i64_w, i32_w]; rw [c6b0]) | skip)
      have H' := Aside0.mk H
      clear H
      go_wp2
      go_meet
      case rel => exact ⟨_, (decide (t408 ≤ (wrap64 ((2305843009213693952 : Int) / t407)))), (by first | rfl | (simp; done) | (simp [*]; done) | (simp [Int.tdiv_eq_ediv_of_nonneg]; done) | (simp [Go.RowKit.wrap64]; done) | (simp [*, Go.RowKit.wrap64]; done)), H', ⟨by first | omega | exact Nat.le_refl _⟩, by repeat (first | exact Drawn0.refl _ | apply Drawn0.step)⟩
  case rest =>
    clear HC5
    try clear p2
    try clear c5
    try clear c6
    try clear c6b0
    try clear c6b1
    try clear p6
    obtain ⟨kq, x19_4, rfl, HA, HJ4, ⟨mc4, rfl⟩⟩ := hcut
    cases kq with
    | zero => exact absurd HA.out (by simp [sat_Mul.j0])
    | succ kj4 =>
      have H := HA.out
      clear HA
      simp only [sat_Mul.j0] at H
      by_cases c7 : x19_4 = true
      · subst c7
        have H1 : (if ((decide (a0 < 0)) != (decide (a1 < 0))) = true then (some (wrap64 (-(wrap64 (t407 * t408))))) else (some (wrap64 (t407 * t408)))) = some r := by rw [if_pos rfl] at H; exact H
        clear H
        have H := H1
        clear H1
        by_cases c8 : ((decide (a0 < 0)) != (decide (a1 < 0))) = true
        · rw [if_pos c8] at H
          have c8b0 : ((decide (a0 < 0)) != (decide (a1 < 0))) = true := c8
          (try (have c8b1 : decide ((decide (a0 < 0)) = (decide (a1 < 0))) = false := by simpa using c8))
          (try (have c8b2 : ((decide (a0 < 0)) == (decide (a1 < 0))) = false := by simpa using c8))
          (try (have c8b3 : ¬ ((decide (a0 < 0)) = (decide (a1 < 0))) := by simpa using c8))
          clear c8
          obtain rfl := Option.some.inj H
          go_wp2
          go_ret
          exact ⟨by first | rfl | (simp; done) | (simp [*]; done) | (simp [Int.tdiv_eq_ediv_of_nonneg]; done) | (simp [Go.RowKit.wrap64]; done) | (simp [*, Go.RowKit.wrap64]; done), by repeat (first | exact Drawn0.refl _ | apply Drawn0.step)⟩
        · rw [if_neg c8] at H
          have c8b0 : ((decide (a0 < 0)) != (decide (a1 < 0))) = false := by simpa using c8
          (try (have c8b1 : decide ((decide (a0 < 0)) = (decide (a1 < 0))) = true := by simpa using c8))
          (try (have c8b2 : ((decide (a0 < 0)) == (decide (a1 < 0))) = true := by simpa using c8))
          clear c8
          obtain rfl := Option.some.inj H
          go_wp2
          go_ret
          exact ⟨by first | rfl | (simp; done) | (simp [*]; done) | (simp [Int.tdiv_eq_ediv_of_nonneg]; done) | (simp [Go.RowKit.wrap64]; done) | (simp [*, Go.RowKit.wrap64]; done), by repeat (first | exact Drawn0.refl _ | apply Drawn0.step)⟩
      · replace c7 := Bool.eq_false_iff.mpr c7
        subst c7
        have H1 : (if ((decide (a0 < 0)) != (decide (a1 < 0))) = true then (some (wrap64 (-2305843009213693952))) else (some 2305843009213693952)) = some r := by rw [if_neg (show ¬ (false = true) by decide)] at H; exact H
        clear H
        have H := H1
        clear H1
        by_cases c9 : ((decide (a0 < 0)) != (decide (a1 < 0))) = true
        · rw [if_pos c9] at H
          have c9b0 : ((decide (a0 < 0)) != (decide (a1 < 0))) = true := c9
          (try (have c9b1 : decide ((decide (a0 < 0)) = (decide (a1 < 0))) = false := by simpa using c9))
          (try (have c9b2 : ((decide (a0 < 0)) == (decide (a1 < 0))) = false := by simpa using c9))
          (try (have c9b3 : ¬ ((decide (a0 < 0)) = (decide (a1 < 0))) := by simpa using c9))
          clear c9
          obtain rfl := Option.some.inj H
          go_wp2
          go_ret
          exact ⟨by first | rfl | (simp; done) | (simp [*]; done) | (simp [Int.tdiv_eq_ediv_of_nonneg]; done) | (simp [Go.RowKit.wrap64]; done) | (simp [*, Go.RowKit.wrap64]; done), by repeat (first | exact Drawn0.refl _ | apply Drawn0.step)⟩
        · rw [if_neg c9] at H
          have c9b0 : ((decide (a0 < 0)) != (decide (a1 < 0))) = false := by simpa using c9
          (try (have c9b1 : decide ((decide (a0 < 0)) = (decide (a1 < 0))) = true := by simpa using c9))
          (try (have c9b2 : ((decide (a0 < 0)) == (decide (a1 < 0))) = true := by simpa using c9))
          clear c9
          obtain rfl := Option.some.inj H
          go_wp2
          go_ret
          exact ⟨by first | rfl | (simp; done) | (simp [*]; done) | (simp [Int.tdiv_eq_ediv_of_nonneg]; done) | (simp [Go.RowKit.wrap64]; done) | (simp [*, Go.RowKit.wrap64]; done), by repeat (first | exact Drawn0.refl _ | apply Drawn0.step)⟩

/-! ### span_All: function 62 -/
def span_All.f  : Option (Int × Int) := some ((-2305843009213693952), 2305843009213693952)
set_option maxHeartbeats 8000000 in
set_option maxRecDepth 100000 in
theorem span_All.calls  (r1 : Int) (r2 : Int) (w : World) (h : span_All.f  = some (r1, r2)) :
    Calls Try.prog 62 #[] w fun e w' => e = .returned (.agg #[.int .i64 r1, .int .i64 r2]) ∧ Below w.heap.size w w' := by
  have hu25 := Try.underlying25
  have HB := Aside0.mk (Below.refl w.heap.size w)
  have H : (some ((-2305843009213693952), 2305843009213693952)) = some (r1, r2) := h
  clear h
  simp only [Option.some.injEq, Prod.mk.injEq] at H
  obtain ⟨rfl, rfl⟩ := H
  go_enter Try.func62, Try.ntmps62
  go_wp2_with (first | ((with_reducible refine gate_dst (N := 0) rfl ?_); refine box_event ?hg (N := 0) ?hd (cs := #[.int .i64 0, .int .i64 0]) (t := 25) ?hr ?_; (case hd => rfl); (case hg => rfl); (case hr => first | (go_simp; done) | (go_simp; rfl)); intro gb409 hg w1 hbox hb; have n0_ := Aside0.mk (below_step (by repeat (first | (with_reducible first | exact HB.out | apply below_alloc | apply pw_below_drewN | apply below_drew1) | exact HB.out)) hb); have n1_ := Aside0.mk (hbox); have n2_ := Aside0.mk ((by rw [hg]; exact (below_size (by repeat (first | (with_reducible first | exact HB.out | apply below_alloc | apply pw_below_drewN | apply below_drew1) | exact HB.out))) : w.heap.size ≤ gb409)); have n3_ := Aside0.mk ((by rw [hg]; exact (below_size (by repeat (first | (with_reducible first | exact HB.out | apply below_alloc | apply pw_below_drewN | apply below_drew1) | exact HB.out))) : w.heap.size ≤ gb409)); clear HB; have HB := n0_; have BK409 := n1_; have GW409 := n2_; have GE409 := n3_; clear n0_ n1_ n2_ n3_; clear hb hbox hg; have hcz2_0 : w1.cell? ⟨gb409, 0, none⟩ = some (.int .i64 0) := (blk_cell BK409.out 0).trans rfl; have hcz2_1 : w1.cell? ⟨gb409, 1, none⟩ = some (.int .i64 0) := (blk_cell BK409.out 1).trans rfl; have hfz2_0 := blk_frozen BK409.out 0; have hfz2_1 := blk_frozen BK409.out 1))
  refine bodyPost_ret (results_cell_row rfl _ _ gb409 25 #[.int .i64 (-2305843009213693952), .int .i64 2305843009213693952] (0, 0) _ rfl (by (with_reducible repeat (first | refine blk_drewN ?_ _ | refine blk_drew ?_ | refine blk_alloc ?_ _)); refine blk_put (cs := #[.int .i64 (-2305843009213693952), .int .i64 0]) ?_ 1 _ rfl; (with_reducible repeat (first | refine blk_drewN ?_ _ | refine blk_drew ?_ | refine blk_alloc ?_ _)); refine blk_put (cs := #[.int .i64 0, .int .i64 0]) ?_ 0 _ rfl; (with_reducible repeat (first | refine blk_drewN ?_ _ | refine blk_drew ?_ | refine blk_alloc ?_ _)); exact BK409.out) Try.underlying25 rfl (by kernel_rfl)) rfl ?_
  exact ⟨by first | rfl | (simp [errW_none, errW_some] <;> rfl) | (simp [*, errW_none, errW_some] <;> rfl), by repeat (first | (with_reducible first | exact HB.out | apply below_alloc | apply pw_below_drewN | apply below_drew1 | refine below_set ?_ GE409.out) | exact HB.out)⟩

/-! ### span_Of: function 63 -/
def span_Of.f (k : Nat) (a0 : Int) (a1 : Int) : Option (Int × Int) := (sat_Clip.f k a0).bind fun t411 => ((sat_Clip.f k a1).bind fun t412 => (some (t411, t412)))
theorem span_Of.mono : ∀ a0 a1 k, LeO (span_Of.f k a0 a1) (span_Of.f (k + 1) a0 a1) := by
  intro a0 a1 k
  unfold span_Of.f
  repeat' first
      | (with_reducible exact sat_Clip.mono _ _)
      | (with_reducible exact LeO.refl _)
      | (with_reducible exact LeO.none _)
      | (with_reducible refine LeO.ite ?_ ?_)
      | (with_reducible refine LeO.bind ?_ (fun _ => ?_))
      | exact sat_Clip.mono _ _
      | exact LeO.none _
      | refine LeO.ite ?_ ?_
      | refine LeO.bind ?_ (fun _ => ?_)
set_option maxHeartbeats 8000000 in
set_option maxRecDepth 100000 in
theorem span_Of.calls (k : Nat) (a0 : Int) (a1 : Int) (r1 : Int) (r2 : Int) (w : World) (h : span_Of.f k a0 a1 = some (r1, r2)) :
    Calls Try.prog 63 #[.int .i64 a0, .int .i64 a1] w fun e w' => e = .returned (.agg #[.int .i64 r1, .int .i64 r2]) ∧ Below w.heap.size w w' := by
  have hu25 := Try.underlying25
  have HB := Aside0.mk (Below.refl w.heap.size w)
  have H : ((sat_Clip.f k a0).bind fun t411 => ((sat_Clip.f k a1).bind fun t412 => (some (t411, t412)))) = some (r1, r2) := h
  clear h
  replace H := Option.bind_eq_some_iff.mp H
  obtain ⟨t411, A30, H⟩ := H
  replace H : ((sat_Clip.f k a1).bind fun t412 => (some (t411, t412))) = some (r1, r2) := H
  have A3 := Aside0.mk A30
  clear A30
  replace H := Option.bind_eq_some_iff.mp H
  obtain ⟨t412, A40, H⟩ := H
  replace H : (some (t411, t412)) = some (r1, r2) := H
  have A4 := Aside0.mk A40
  clear A40
  simp only [Option.some.injEq, Prod.mk.injEq] at H
  obtain ⟨rfl, rfl⟩ := H
  go_enter Try.func63, Try.ntmps63
  go_wp2_with (first | ((with_reducible refine gate_dst (N := 4) rfl ?_); refine box_event ?hg (N := 4) ?hd (cs := #[.int .i64 0, .int .i64 0]) (t := 25) ?hr ?_; (case hd => rfl); (case hg => rfl); (case hr => first | (go_simp; done) | (go_simp; rfl)); intro gb410 hg w5 hbox hb; have n0_ := Aside0.mk (below_step (by repeat (first | (with_reducible first | exact HB.out | apply below_alloc | apply pw_below_drewN | apply below_drew1) | exact HB.out)) hb); have n1_ := Aside0.mk (hbox); have n2_ := Aside0.mk ((by rw [hg]; exact (below_size (by repeat (first | (with_reducible first | exact HB.out | apply below_alloc | apply pw_below_drewN | apply below_drew1) | exact HB.out))) : w.heap.size ≤ gb410)); have n3_ := Aside0.mk ((by rw [hg]; exact (below_size (by repeat (first | (with_reducible first | exact HB.out | apply below_alloc | apply pw_below_drewN | apply below_drew1) | exact HB.out))) : w.heap.size ≤ gb410)); clear HB; have HB := n0_; have BK410 := n1_; have GW410 := n2_; have GE410 := n3_; clear n0_ n1_ n2_ n3_; clear hb hbox hg) | ((with_reducible refine gate_callee (f := 51) rfl ?_); refine goesL_ (some 6) rfl rfl Try.func51 (by kernel_rfl) rfl #[.int .i64 a0] rfl (by (try simp only [List.map_toArray, List.map_cons, List.map_nil]); first | done | rfl | (simp only [List.length_drop, List.length_take]; rfl)) ?_; (with_reducible refine (sat_Clip.calls k a0 t411 _ A3.out).mono ?_); rintro e w' ⟨rfl, ⟨nd, rfl⟩⟩; refine ⟨_, rfl, ?_⟩; (try ((repeat rw [World.drewN_drewN]); rw [drewN_self w5]; generalize hq_ : World.drewN w5 _ = w5; have n0_ : Aside0 (w5.heap[gb410]? = some (.cells #[.int .i64 0, .int .i64 0] 25 (0, 0))) := ⟨by rw [← hq_]; exact (by (with_reducible repeat (first | refine blk_drewN ?_ _ | refine blk_drew ?_ | refine blk_alloc ?_ _)); exact BK410.out)⟩; have n1_ : Aside0 (Below w.heap.size w w5) := ⟨by rw [← hq_]; exact (by repeat (first | (with_reducible first | exact HB.out | apply below_alloc | apply pw_below_drewN | apply below_drew1 | refine below_set ?_ GE410.out) | exact HB.out))⟩; clear BK410 HB hq_; have BK410 := n0_; have HB := n1_; clear n0_ n1_))) | ((with_reducible refine gate_callee (f := 51) rfl ?_); refine goesL_ (some 8) rfl rfl Try.func51 (by kernel_rfl) rfl #[.int .i64 a1] rfl (by (try simp only [List.map_toArray, List.map_cons, List.map_nil]); first | done | rfl | (simp only [List.length_drop, List.length_take]; rfl)) ?_; (with_reducible refine (sat_Clip.calls k a1 t412 _ A4.out).mono ?_); rintro e w' ⟨rfl, ⟨nd, rfl⟩⟩; refine ⟨_, rfl, ?_⟩; (try ((repeat rw [World.drewN_drewN]); rw [drewN_self w5]; generalize hq_ : World.drewN w5 _ = w5; have n0_ : Aside0 (w5.heap[gb410]? = some (.cells #[.int .i64 0, .int .i64 0] 25 (0, 0))) := ⟨by rw [← hq_]; exact (by (with_reducible repeat (first | refine blk_drewN ?_ _ | refine blk_drew ?_ | refine blk_alloc ?_ _)); exact BK410.out)⟩; have n1_ : Aside0 (Below w.heap.size w w5) := ⟨by rw [← hq_]; exact (by repeat (first | (with_reducible first | exact HB.out | apply below_alloc | apply pw_below_drewN | apply below_drew1 | refine below_set ?_ GE410.out) | exact HB.out))⟩; clear BK410 HB hq_; have BK410 := n0_; have HB := n1_; clear n0_ n1_)); have hcz6_0 : w5.cell? ⟨gb410, 0, none⟩ = some (.int .i64 0) := (blk_cell BK410.out 0).trans rfl; have hcz6_1 : w5.cell? ⟨gb410, 1, none⟩ = some (.int .i64 0) := (blk_cell BK410.out 1).trans rfl; have hfz6_0 := blk_frozen BK410.out 0; have hfz6_1 := blk_frozen BK410.out 1))
  refine bodyPost_ret (results_cell_row rfl _ _ gb410 25 #[.int .i64 t411, .int .i64 t412] (0, 0) _ rfl (by (with_reducible repeat (first | refine blk_drewN ?_ _ | refine blk_drew ?_ | refine blk_alloc ?_ _)); refine blk_put (cs := #[.int .i64 t411, .int .i64 0]) ?_ 1 _ rfl; (with_reducible repeat (first | refine blk_drewN ?_ _ | refine blk_drew ?_ | refine blk_alloc ?_ _)); refine blk_put (cs := #[.int .i64 0, .int .i64 0]) ?_ 0 _ rfl; (with_reducible repeat (first | refine blk_drewN ?_ _ | refine blk_drew ?_ | refine blk_alloc ?_ _)); exact BK410.out) Try.underlying25 rfl (by kernel_rfl)) rfl ?_
  exact ⟨by first | rfl | (simp [errW_none, errW_some] <;> rfl) | (simp [*, errW_none, errW_some] <;> rfl), by repeat (first | (with_reducible first | exact HB.out | apply below_alloc | apply pw_below_drewN | apply below_drew1 | refine below_set ?_ GE410.out) | exact HB.out)⟩

/-! ### span_Meet: function 55 -/
def span_Meet.g (p : Int × Int) (s : S25) : Int × Int := (mx p.1 s.f0, mn p.2 s.f1)
def span_Meet.f (k : Nat) (l0 : List (S25)) : Option (Int × Int) := span_Of.f k (l0.foldl span_Meet.g ((-2305843009213693952), 2305843009213693952)).1 (l0.foldl span_Meet.g ((-2305843009213693952), 2305843009213693952)).2
theorem span_Meet.mono : ∀ a0 k, LeO (span_Meet.f k a0) (span_Meet.f (k + 1) a0) := fun a0 k => span_Of.mono _ _ k
theorem span_Meet.next (l : List (S25)) (p : Int × Int) (x : Int) (h0 : 0 ≤ x) (h1 : x < (l.length : Int)) :
    (l.take (x + 1).toNat).foldl span_Meet.g p = span_Meet.g ((l.take x.toNat).foldl span_Meet.g p) (rd_T25 l x) := by
  have hl : x.toNat < l.length := by omega
  rw [show (x + 1).toNat = x.toNat + 1 from by omega, List.take_succ_eq_append_getElem hl, List.foldl_append]
  simp only [List.foldl_cons, List.foldl_nil]
  congr 1
  simp [rd_T25, List.getD_eq_getElem?_getD, List.getElem?_eq_getElem hl]
set_option maxHeartbeats 8000000 in
set_option maxRecDepth 100000 in
theorem span_Meet.calls (k : Nat) (A0 : Option Addr) (c0 : Nat) (l0 : List (S25)) (r1 : Int) (r2 : Int) (w : World) (hr0 : Kd.C k25 w A0 l0.length l0) (hc0 : l0.length ≤ c0) (h : span_Meet.f k l0 = some (r1, r2)) :
    Calls Try.prog 55 #[.slice A0 l0.length c0] w fun e w' => e = .returned (.agg #[.int .i64 r1, .int .i64 r2]) ∧ Below w.heap.size w w' := by
  have hu25 := Try.underlying25
  have HR0 := Aside0.mk hr0
  have HC0 := Aside0.mk hc0
  clear hr0 hc0
  have HB := Aside0.mk (Below.refl w.heap.size w)
  have A1 := Aside0.mk h
  clear h
  go_enter Try.func55, Try.ntmps55
  go_wp2_with (first | ((with_reducible refine gate_dst (N := 2) rfl ?_); refine box_event ?hg (N := 2) ?hd (cs := #[.int .i64 0, .int .i64 0]) (t := 25) ?hr ?_; (case hd => rfl); (case hg => rfl); (case hr => first | (go_simp; done) | (go_simp; rfl)); intro gb2 hg w2 hbox hb; have n0_ := Aside0.mk (below_step (by repeat (first | (with_reducible first | exact HB.out | apply below_alloc | apply pw_below_drewN | apply below_drew1) | exact HB.out)) hb); have n1_ := Aside0.mk (hbox); have n2_ := Aside0.mk ((by rw [hg]; exact (below_size (by repeat (first | (with_reducible first | exact HB.out | apply below_alloc | apply pw_below_drewN | apply below_drew1) | exact HB.out))) : w.heap.size ≤ gb2)); clear HB; have HB := n0_; have BK2 := n1_; have GE2 := n2_; clear n0_ n1_ n2_; clear hb hbox hg) | (go_at_call 62; (with_reducible refine (span_All.calls (-2305843009213693952) 2305843009213693952 _ rfl).mono ?_); rintro e w3 ⟨rfl, hb⟩; have n0_ := Aside0.mk (blk_below (g := gb2) (o := .cells #[.int .i64 0, .int .i64 0] 25 (0, 0)) (by (with_reducible repeat (first | refine blk_drewN ?_ _ | refine blk_drew ?_ | refine blk_alloc ?_ _)); exact BK2.out) hb); have n1_ := Aside0.mk (below_step (by repeat (first | (with_reducible first | exact HB.out | apply below_alloc | apply pw_below_drewN | apply below_drew1 | refine below_set ?_ GE2.out) | exact HB.out)) hb); clear BK2 HB; have BK2 := n0_; have HB := n1_; clear n0_ n1_; clear hb) | ((with_reducible refine gate_dst (N := 3) rfl ?_); refine box_event ?hg (N := 3) ?hd (cs := #[.int .i64 0, .int .i64 0]) (t := 25) ?hr ?_; (case hd => rfl); (case hg => rfl); (case hr => first | (go_simp; done) | (go_simp; rfl)); intro gb3 hg w4 hbox hb; have n0_ := Aside0.mk (blk_below (g := gb2) (o := .cells #[.int .i64 0, .int .i64 0] 25 (0, 0)) (by (with_reducible repeat (first | refine blk_drewN ?_ _ | refine blk_drew ?_ | refine blk_alloc ?_ _)); exact BK2.out) hb); have n1_ := Aside0.mk (below_step (by repeat (first | (with_reducible first | exact HB.out | apply below_alloc | apply pw_below_drewN | apply below_drew1 | refine below_set ?_ GE2.out) | exact HB.out)) hb); have n2_ := Aside0.mk (hbox); have n3_ := Aside0.mk ((by rw [hg]; exact (below_size (by repeat (first | (with_reducible first | exact HB.out | apply below_alloc | apply pw_below_drewN | apply below_drew1 | refine below_set ?_ GE2.out) | exact HB.out))) : w.heap.size ≤ gb3)); have n4_ := Aside0.mk ((by rw [hg]; exact Nat.ne_of_lt (blk_lt (g := gb2) (o := .cells #[.int .i64 0, .int .i64 0] 25 (0, 0)) (by (with_reducible repeat (first | refine blk_drewN ?_ _ | refine blk_drew ?_ | refine blk_alloc ?_ _)); exact BK2.out)) : gb2 ≠ gb3)); clear BK2 HB; have BK2 := n0_; have HB := n1_; have BK3 := n2_; have GE3 := n3_; have NB2_3 := n4_; clear n0_ n1_ n2_ n3_ n4_; clear hb hbox hg; have hcz_0 : w4.cell? ⟨gb3, 0, none⟩ = some (.int .i64 0) := (blk_cell BK3.out 0).trans rfl; have hcz_1 : w4.cell? ⟨gb3, 1, none⟩ = some (.int .i64 0) := (blk_cell BK3.out 1).trans rfl; have hfz_0 := blk_frozen BK3.out 0; have hfz_1 := blk_frozen BK3.out 1))
  clear hcz_0 hcz_1 hfz_0 hfz_1
  go_loopg [9] l0.length (fun kq v9 w' => ∃ (x : Int), v9 = .int .i64 x ∧ Aside0 (0 ≤ x ∧ x + kq = l0.length) ∧ Aside0 (w'.heap[gb2]? = some (.cells #[.int .i64 0, .int .i64 0] 25 (0, 0))) ∧ Aside0 (w'.heap[gb3]? = some (.cells #[.int .i64 ((l0.take x.toNat).foldl span_Meet.g ((-2305843009213693952), 2305843009213693952)).1, .int .i64 ((l0.take x.toNat).foldl span_Meet.g ((-2305843009213693952), 2305843009213693952)).2] 25 (0, 0))) ∧ Aside0 (Below w.heap.size w w'))
  case atStart => exact ⟨0, rfl, ⟨Int.le_refl _, by omega⟩, ⟨by (with_reducible repeat (first | refine blk_drewN ?_ _ | refine blk_drew ?_ | refine blk_alloc ?_ _)); refine blk_far ?_ NB2_3.out _; (with_reducible repeat (first | refine blk_drewN ?_ _ | refine blk_drew ?_ | refine blk_alloc ?_ _)); refine blk_far ?_ NB2_3.out _; exact BK2.out⟩, ⟨by refine blk_put (cs := #[.int .i64 (-2305843009213693952), .int .i64 0]) ?_ 1 _ rfl; refine blk_put (cs := #[.int .i64 0, .int .i64 0]) ?_ 0 _ rfl; exact BK3.out⟩, ⟨by repeat (first | (with_reducible first | exact HB.out | apply below_alloc | apply pw_below_drewN | apply below_drew1 | refine below_set ?_ GE2.out | refine below_set ?_ GE3.out) | exact HB.out)⟩⟩
  case round =>
    have hn23 := NB2_3
    clear BK2 BK3 HB
    obtain ⟨x, rfl, HX, BK2, BK3, HB⟩ := hrel
    have hx0 : 0 ≤ x := HX.out.1
    obtain ⟨p, HP⟩ : ∃ p, p = (l0.take x.toNat).foldl span_Meet.g ((-2305843009213693952), 2305843009213693952) := ⟨_, rfl⟩
    have NP := Aside0.mk HP
    rw [← HP] at BK3
    clear HP
    obtain ⟨pa, pb⟩ := p
    by_cases hlt : x < (l0.length : Int)
    · cases gk with
      | zero => exact absurd HX.out.2 (by omega)
      | succ gk =>
      have c1 : decide (x < (l0.length : Int)) = true := decide_eq_true hlt
      obtain ⟨ad, e1, hx1, hx2⟩ := at_T25 HR0.out x hx0 hlt
      cases e1
      replace hx1 := (HB.out.cell (World.block_lt_of_cell? w _ hx1)).trans hx1
      replace hx2 := (HB.out.cell (World.block_lt_of_cell? w _ hx2)).trans hx2
      obtain ⟨s, HS⟩ : ∃ s, s = rd_T25 l0 x := ⟨_, rfl⟩
      have NS := Aside0.mk HS
      rw [← HS] at hx1 hx2
      clear HS
      replace hx0 := eq_true hx0
      replace hlt := eq_true hlt
      go_wp2_with (first | ((with_reducible refine gate_dst (N := 5) rfl ?_); refine box_event ?hg (N := 5) ?hd (cs := #[.int .i64 0, .int .i64 0]) (t := 25) ?hr ?_; (case hd => rfl); (case hg => rfl); (case hr => first | (go_simp; done) | (go_simp; rfl)); intro gb5 hg w8 hbox hb; have n0_ := Aside0.mk (blk_below (g := gb2) (o := .cells #[.int .i64 0, .int .i64 0] 25 (0, 0)) BK2.out hb); have n1_ := Aside0.mk (blk_below (g := gb3) (o := .cells #[.int .i64 pa, .int .i64 pb] 25 (0, 0)) BK3.out hb); have n2_ := Aside0.mk (below_step HB.out hb); have n3_ := Aside0.mk hbox; have n4_ := Aside0.mk ((by rw [hg]; exact below_size HB.out) : w.heap.size ≤ gb5); have n5_ := Aside0.mk ((by rw [hg]; exact Nat.ne_of_lt (blk_lt BK2.out)) : gb2 ≠ gb5); have n6_ := Aside0.mk ((by rw [hg]; exact Nat.ne_of_lt (blk_lt BK3.out)) : gb3 ≠ gb5); clear BK2 BK3 HB; have BK2 := n0_; have BK3 := n1_; have HB := n2_; have BK5 := n3_; have GE5 := n4_; have NB2_5 := n5_; have NB3_5 := n6_; clear n0_ n1_ n2_ n3_ n4_ n5_ n6_; clear hb hbox hg; have hcz_0 : w8.cell? ⟨gb5, 0, none⟩ = some (.int .i64 0) := (blk_cell BK5.out 0).trans rfl; have hcz_1 : w8.cell? ⟨gb5, 1, none⟩ = some (.int .i64 0) := (blk_cell BK5.out 1).trans rfl; have hfz_0 := blk_frozen BK5.out 0; have hfz_1 := blk_frozen BK5.out 1))
      clear hcz_0 hcz_1 hfz_0 hfz_1 hx1 hx2
      have n0_ : Aside0 (((w8.setCell ⟨gb5, 0, none⟩ (.int .i64 s.f0)).setCell ⟨gb5, 1, none⟩ (.int .i64 s.f1)).heap[gb2]? = some (.cells #[.int .i64 0, .int .i64 0] 25 (0, 0))) := ⟨by refine blk_far ?_ NB2_5.out _; refine blk_far ?_ NB2_5.out _; exact BK2.out⟩
      have n1_ : Aside0 (((w8.setCell ⟨gb5, 0, none⟩ (.int .i64 s.f0)).setCell ⟨gb5, 1, none⟩ (.int .i64 s.f1)).heap[gb3]? = some (.cells #[.int .i64 pa, .int .i64 pb] 25 (0, 0))) := ⟨by refine blk_far ?_ NB3_5.out _; refine blk_far ?_ NB3_5.out _; exact BK3.out⟩
      have n2_ : Aside0 (((w8.setCell ⟨gb5, 0, none⟩ (.int .i64 s.f0)).setCell ⟨gb5, 1, none⟩ (.int .i64 s.f1)).heap[gb5]? = some (.cells #[.int .i64 s.f0, .int .i64 s.f1] 25 (0, 0))) := ⟨by refine blk_put (cs := #[.int .i64 s.f0, .int .i64 0]) ?_ 1 _ rfl; refine blk_put (cs := #[.int .i64 0, .int .i64 0]) ?_ 0 _ rfl; exact BK5.out⟩
      have n3_ : Aside0 (Below w.heap.size w ((w8.setCell ⟨gb5, 0, none⟩ (.int .i64 s.f0)).setCell ⟨gb5, 1, none⟩ (.int .i64 s.f1))) := ⟨by refine below_set ?_ GE5.out; refine below_set ?_ GE5.out; exact HB.out⟩
      clear BK2 BK3 BK5 HB
      generalize ((w8.setCell ⟨gb5, 0, none⟩ (.int .i64 s.f0)).setCell ⟨gb5, 1, none⟩ (.int .i64 s.f1)) = w9 at n0_ n1_ n2_ n3_ ⊢
      have hn35 := NB3_5.out
      have hn53 := (NB3_5.out).symm
      have h30 : w9.cell? ⟨gb3, 0, none⟩ = some (.int .i64 pa) := (blk_cell n1_.out 0).trans rfl
      have h31 : w9.cell? ⟨gb3, 1, none⟩ = some (.int .i64 pb) := (blk_cell n1_.out 1).trans rfl
      have h50 : w9.cell? ⟨gb5, 0, none⟩ = some (.int .i64 s.f0) := (blk_cell n2_.out 0).trans rfl
      have h51 : w9.cell? ⟨gb5, 1, none⟩ = some (.int .i64 s.f1) := (blk_cell n2_.out 1).trans rfl
      have f30 := blk_frozen n1_.out 0
      have f31 := blk_frozen n1_.out 1
      go_region
      clear h30 h31 h50 h51 f30 f31 hn35 hn53
      obtain ⟨ma, hma⟩ : ∃ m, m = mx pa s.f0 := ⟨_, rfl⟩
      obtain ⟨mb, hmb⟩ : ∃ m, m = mn pb s.f1 := ⟨_, rfl⟩
      have e1_ : (if pa < s.f0 then s.f0 else pa) = ma := hma.symm
      have e2_ : (if s.f1 < pb then s.f1 else pb) = mb := hmb.symm
      simp only [e1_, e2_]
      have NM := Aside0.mk (And.intro hma hmb)
      clear e1_ e2_ hma hmb
      go_wp2
      go_roundg gk
      case measure => omega
      case rel =>
        have h0 : 0 ≤ x := HX.out.1
        have h1 : x < (l0.length : Int) := by have := HX.out.2; omega
        have hm := HR0.out.2.1
        have hnx := span_Meet.next l0 ((-2305843009213693952), 2305843009213693952) x h0 h1
        rw [← NP.out, ← NS.out] at hnx
        have hnx2 : span_Meet.g (pa, pb) s = (ma, mb) := by rw [NM.out.1, NM.out.2]; rfl
        rw [hnx2] at hnx
        have hw : wrap64 (x + 1) = x + 1 := by unfold wrap64; omega
        refine ⟨x + 1, by first | rfl | rw [hw] | (simp only [i64_w]; rw [hw]), ⟨by omega, by have := HX.out.2; omega⟩, ⟨?_⟩, ⟨?_⟩, ⟨?_⟩⟩
        · refine blk_drew ?_; refine blk_far ?_ hn23.out _; refine blk_far ?_ hn23.out _; exact n0_.out
        · rw [hnx]; refine blk_drew ?_; refine blk_put (cs := #[.int .i64 ma, .int .i64 pb]) ?_ 1 _ rfl; refine blk_put (cs := #[.int .i64 pa, .int .i64 pb]) ?_ 0 _ rfl; exact n1_.out
        · exact below_drew1 (below_set (below_set n3_.out GE3.out) GE3.out)
    · have hN : (l0.take x.toNat) = l0 := List.take_of_length_le (by have := HX.out; omega)
      rw [hN] at NP
      have h2 : span_Of.f k pa pb = some (r1, r2) := by have h3 := A1.out; unfold span_Meet.f at h3; rw [← NP.out] at h3; exact h3
      have A2 := Aside0.mk h2
      clear h2 hN
      have c1 : decide (x < (l0.length : Int)) = false := decide_eq_false hlt
      have hlt2 : (x < (l0.length : Int)) = False := eq_false hlt
      clear hlt
      have h30 : wr.cell? ⟨gb3, 0, none⟩ = some (.int .i64 pa) := (blk_cell BK3.out 0).trans rfl
      have h31 : wr.cell? ⟨gb3, 1, none⟩ = some (.int .i64 pb) := (blk_cell BK3.out 1).trans rfl
      go_wp2_with (first | (go_at_call 63; (with_reducible refine (span_Of.calls k pa pb r1 r2 _ A2.out).mono ?_); rintro e w5 ⟨rfl, hb⟩; have n0_ := Aside0.mk (blk_below (g := gb2) (o := .cells #[.int .i64 0, .int .i64 0] 25 (0, 0)) BK2.out hb); have n1_ := Aside0.mk (below_step HB.out hb); clear BK2 HB BK3 h30 h31; have BK2 := n0_; have HB := n1_; clear n0_ n1_; clear hb; have hcz_0 : w5.cell? ⟨gb2, 0, none⟩ = some (.int .i64 0) := (blk_cell BK2.out 0).trans rfl; have hcz_1 : w5.cell? ⟨gb2, 1, none⟩ = some (.int .i64 0) := (blk_cell BK2.out 1).trans rfl; have hfz_0 := blk_frozen BK2.out 0; have hfz_1 := blk_frozen BK2.out 1))
      refine bodyPost_ret (results_cell_row rfl _ _ gb2 25 #[.int .i64 r1, .int .i64 r2] (0, 0) _ rfl (by refine blk_put (cs := #[.int .i64 r1, .int .i64 0]) ?_ 1 _ rfl; refine blk_put (cs := #[.int .i64 0, .int .i64 0]) ?_ 0 _ rfl; exact BK2.out) Try.underlying25 rfl (by kernel_rfl)) rfl ?_
      exact ⟨rfl, by refine below_set ?_ GE2.out; refine below_set ?_ GE2.out; exact HB.out⟩

end Go.Proofs.Ytigpigfoahlfjaa.Q
