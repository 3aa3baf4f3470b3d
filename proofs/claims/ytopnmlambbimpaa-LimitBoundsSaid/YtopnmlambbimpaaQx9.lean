/- The calls of these Go functions answer what the Lean functions beside them answer; written by a program (wip/pr2.py, out of the print of the loaded program); under no condition but those that stand in the theorems. -/
import Derived.Test.YtopnmlambbimpaaQx0
import Derived.Test.YtopnmlambbimpaaQx3
import Derived.Test.YtopnmlambbimpaaQx7
import Derived.Test.YtopnmlambbimpaaQx8
namespace Go.Proofs.Ytopnmlambbimpaa.Q
open Go.RowKit Go.Proofs.YtopnmlambbimpaaW.PrintWords Go.Proofs.YtopnmlambbimpaaW.PrintLast Go.Proofs.YtopnmlambbimpaaW.PrintMore
attribute [local go_sem] max2_int min2_int max_two min_two max_three min_three max_four min_four   -- for this text's walks alone
set_option linter.unusedVariables false
set_option linter.unusedSimpArgs false

/-! ### wide_MulDiv: function 45 -/
mutual
def wide_MulDiv.j0 : Nat → Int → Int → Int → Bool → Option (Int)
 | 0, _, _, _, _ => none
 | k + 1, x9, x10, x11, x12 => if x10 ≥ (IntKind.u64.wrap (x9)) then ((wide_end.f x12).bind fun t161 => (some t161)) else ((bits_Div64.f k x10 x11 (IntKind.u64.wrap (x9))).bind fun bt162 => (if x12 = true then (if bt162.2 > 0 then (wide_MulDiv.j1 k x12 bt162.1 (decide (bt162.1 < 2305843009213693952))) else (wide_MulDiv.j1 k x12 bt162.1 false)) else (wide_MulDiv.j1 k x12 bt162.1 false)))
def wide_MulDiv.j1 : Nat → Bool → Int → Bool → Option (Int)
 | 0, _, _, _ => none
 | k + 1, x12, x13, x65 => if x65 = true then (wide_MulDiv.j2 k x12 (IntKind.u64.wrap (x13 + 1))) else (wide_MulDiv.j2 k x12 x13)
def wide_MulDiv.j2 : Nat → Bool → Int → Option (Int)
 | 0, _, _ => none
 | k + 1, x12, x13 => if x13 > 2305843009213693952 then ((wide_end.f x12).bind fun t164 => (some t164)) else (if x12 = true then (some (wrap64 (-(wrap64 (x13))))) else (some (wrap64 (x13))))
end
def wide_MulDiv.f (k : Nat) (a0 : Int) (a1 : Int) (a2 : Int) : Option (Int) := (sat_Abs.f k a0).bind fun t156 => ((sat_Abs.f k a1).bind fun t157 => ((sat_Clip.f k a2).bind fun t158 => ((bits_Mul64.f (IntKind.u64.wrap (t156)) (IntKind.u64.wrap (t157))).bind fun bt159 => (if ((decide (a0 < 0)) != (decide (a1 < 0))) = true then (if t156 = 0 then (wide_MulDiv.j0 k (mx t158 1) bt159.1 bt159.2 false) else (wide_MulDiv.j0 k (mx t158 1) bt159.1 bt159.2 (t157 != 0))) else (wide_MulDiv.j0 k (mx t158 1) bt159.1 bt159.2 false)))))
theorem wide_MulDiv.mono_l : ∀ k, (∀ y0 y1 y2 y3, LeO (wide_MulDiv.j0 k y0 y1 y2 y3) (wide_MulDiv.j0 (k + 1) y0 y1 y2 y3)) ∧ (∀ y0 y1 y2, LeO (wide_MulDiv.j1 k y0 y1 y2) (wide_MulDiv.j1 (k + 1) y0 y1 y2)) ∧ (∀ y0 y1, LeO (wide_MulDiv.j2 k y0 y1) (wide_MulDiv.j2 (k + 1) y0 y1))
 | 0 => ⟨fun _ _ _ _ r h => by simp [wide_MulDiv.j0] at h, fun _ _ _ r h => by simp [wide_MulDiv.j1] at h, fun _ _ r h => by simp [wide_MulDiv.j2] at h⟩
 | k + 1 => by
  obtain ⟨ih0, ih1, ih2⟩ := wide_MulDiv.mono_l k
  refine ⟨?_, ?_, ?_⟩
  ·intro y0 y1 y2 y3
   unfold wide_MulDiv.j0
   repeat' first
   | (with_reducible exact ih0 _ _ _ _)
   | (with_reducible exact ih1 _ _ _)
   | (with_reducible exact ih2 _ _)
   | (with_reducible exact bits_Div64.mono _ _ _ _)
   | (with_reducible exact sat_Abs.mono _ _)
   | (with_reducible exact sat_Clip.mono _ _)
   | (with_reducible exact LeO.refl _)
   | (with_reducible exact LeO.none _)
   | (with_reducible refine LeO.ite ?_ ?_)
   | (with_reducible refine LeO.bind ?_ (fun _ => ?_))
   | exact ih0 _ _ _ _
   | exact ih1 _ _ _
   | exact ih2 _ _
   | exact bits_Div64.mono _ _ _ _
   | exact sat_Abs.mono _ _
   | exact sat_Clip.mono _ _
   | exact LeO.none _
   | refine LeO.ite ?_ ?_
   | refine LeO.bind ?_ (fun _ => ?_)
  ·intro y0 y1 y2
   unfold wide_MulDiv.j1
   repeat' first
   | (with_reducible exact ih0 _ _ _ _)
   | (with_reducible exact ih1 _ _ _)
   | (with_reducible exact ih2 _ _)
   | (with_reducible exact bits_Div64.mono _ _ _ _)
   | (with_reducible exact sat_Abs.mono _ _)
   | (with_reducible exact sat_Clip.mono _ _)
   | (with_reducible exact LeO.refl _)
   | (with_reducible exact LeO.none _)
   | (with_reducible refine LeO.ite ?_ ?_)
   | (with_reducible refine LeO.bind ?_ (fun _ => ?_))
   | exact ih0 _ _ _ _
   | exact ih1 _ _ _
   | exact ih2 _ _
   | exact bits_Div64.mono _ _ _ _
   | exact sat_Abs.mono _ _
   | exact sat_Clip.mono _ _
   | exact LeO.none _
   | refine LeO.ite ?_ ?_
   | refine LeO.bind ?_ (fun _ => ?_)
  ·intro y0 y1
   unfold wide_MulDiv.j2
   repeat' first
   | (with_reducible exact ih0 _ _ _ _)
   | (with_reducible exact ih1 _ _ _)
   | (with_reducible exact ih2 _ _)
   | (with_reducible exact bits_Div64.mono _ _ _ _)
   | (with_reducible exact sat_Abs.mono _ _)
   | (with_reducible exact sat_Clip.mono _ _)
   | (with_reducible exact LeO.refl _)
   | (with_reducible exact LeO.none _)
   | (with_reducible refine LeO.ite ?_ ?_)
   | (with_reducible refine LeO.bind ?_ (fun _ => ?_))
   | exact ih0 _ _ _ _
   | exact ih1 _ _ _
   | exact ih2 _ _
   | exact bits_Div64.mono _ _ _ _
   | exact sat_Abs.mono _ _
   | exact sat_Clip.mono _ _
   | exact LeO.none _
   | refine LeO.ite ?_ ?_
   | refine LeO.bind ?_ (fun _ => ?_)
theorem wide_MulDiv.mono : ∀ a0 a1 a2 k, LeO (wide_MulDiv.f k a0 a1 a2) (wide_MulDiv.f (k + 1) a0 a1 a2) := by
 intro a0 a1 a2 k
 obtain ⟨ih0, ih1, ih2⟩ := wide_MulDiv.mono_l k
 unfold wide_MulDiv.f
 repeat' first
   | (with_reducible exact ih0 _ _ _ _)
   | (with_reducible exact ih1 _ _ _)
   | (with_reducible exact ih2 _ _)
   | (with_reducible exact bits_Div64.mono _ _ _ _)
   | (with_reducible exact sat_Abs.mono _ _)
   | (with_reducible exact sat_Clip.mono _ _)
   | (with_reducible exact LeO.refl _)
   | (with_reducible exact LeO.none _)
   | (with_reducible refine LeO.ite ?_ ?_)
   | (with_reducible refine LeO.bind ?_ (fun _ => ?_))
   | exact ih0 _ _ _ _
   | exact ih1 _ _ _
   | exact ih2 _ _
   | exact bits_Div64.mono _ _ _ _
   | exact sat_Abs.mono _ _
   | exact sat_Clip.mono _ _
   | exact LeO.none _
   | refine LeO.ite ?_ ?_
   | refine LeO.bind ?_ (fun _ => ?_)
set_option maxHeartbeats 8000000 in
set_option maxRecDepth 100000 in
theorem wide_MulDiv.calls (k : Nat) (a0 : Int) (a1 : Int) (a2 : Int) (r : Int) (w : World) (h : wide_MulDiv.f k a0 a1 a2 = some r) :
  Calls Try.prog 45 #[.int .i64 a0, .int .i64 a1, .int .i64 a2] w fun e w' => e = .returned (.int .i64 r) ∧ Below w.heap.size w w' := by
 have HB := Aside0.mk (Below.refl w.heap.size w)
 have H : ((sat_Abs.f k a0).bind fun t156 => ((sat_Abs.f k a1).bind fun t157 => ((sat_Clip.f k a2).bind fun t158 => ((bits_Mul64.f (IntKind.u64.wrap (t156)) (IntKind.u64.wrap (t157))).bind fun bt159 => (if ((decide (a0 < 0)) != (decide (a1 < 0))) = true then (if t156 = 0 then (wide_MulDiv.j0 k (mx t158 1) bt159.1 bt159.2 false) else (wide_MulDiv.j0 k (mx t158 1) bt159.1 bt159.2 (t157 != 0))) else (wide_MulDiv.j0 k (mx t158 1) bt159.1 bt159.2 false)))))) = some r := h
 clear h
 replace H := Option.bind_eq_some_iff.mp H
 obtain ⟨t156, A40, H⟩ := H
 replace H : ((sat_Abs.f k a1).bind fun t157 => ((sat_Clip.f k a2).bind fun t158 => ((bits_Mul64.f (IntKind.u64.wrap (t156)) (IntKind.u64.wrap (t157))).bind fun bt159 => (if ((decide (a0 < 0)) != (decide (a1 < 0))) = true then (if t156 = 0 then (wide_MulDiv.j0 k (mx t158 1) bt159.1 bt159.2 false) else (wide_MulDiv.j0 k (mx t158 1) bt159.1 bt159.2 (t157 != 0))) else (wide_MulDiv.j0 k (mx t158 1) bt159.1 bt159.2 false))))) = some r := H
 have A4 := Aside0.mk A40
 clear A40
 replace H := Option.bind_eq_some_iff.mp H
 obtain ⟨t157, A50, H⟩ := H
 replace H : ((sat_Clip.f k a2).bind fun t158 => ((bits_Mul64.f (IntKind.u64.wrap (t156)) (IntKind.u64.wrap (t157))).bind fun bt159 => (if ((decide (a0 < 0)) != (decide (a1 < 0))) = true then (if t156 = 0 then (wide_MulDiv.j0 k (mx t158 1) bt159.1 bt159.2 false) else (wide_MulDiv.j0 k (mx t158 1) bt159.1 bt159.2 (t157 != 0))) else (wide_MulDiv.j0 k (mx t158 1) bt159.1 bt159.2 false)))) = some r := H
 have A5 := Aside0.mk A50
 clear A50
 replace H := Option.bind_eq_some_iff.mp H
 obtain ⟨t158, A60, H⟩ := H
 replace H : ((bits_Mul64.f (IntKind.u64.wrap (t156)) (IntKind.u64.wrap (t157))).bind fun bt159 => (if ((decide (a0 < 0)) != (decide (a1 < 0))) = true then (if t156 = 0 then (wide_MulDiv.j0 k (mx t158 1) bt159.1 bt159.2 false) else (wide_MulDiv.j0 k (mx t158 1) bt159.1 bt159.2 (t157 != 0))) else (wide_MulDiv.j0 k (mx t158 1) bt159.1 bt159.2 false))) = some r := H
 have A6 := Aside0.mk A60
 clear A60
 obtain ⟨ji7, hji7⟩ : ∃ j_ : Int, (mx t158 1) = j_ := ⟨_, rfl⟩
 replace H : ((bits_Mul64.f (IntKind.u64.wrap (t156)) (IntKind.u64.wrap (t157))).bind fun bt159 => (if ((decide (a0 < 0)) != (decide (a1 < 0))) = true then (if t156 = 0 then (wide_MulDiv.j0 k ji7 bt159.1 bt159.2 false) else (wide_MulDiv.j0 k ji7 bt159.1 bt159.2 (t157 != 0))) else (wide_MulDiv.j0 k ji7 bt159.1 bt159.2 false))) = some r := by first | (rw [hji7] at H; exact H) | (simp only [hji7] at H ⊢; exact H)
 (try rw [hji7] at A4)
 (try rw [hji7] at A5)
 (try rw [hji7] at A6)
 (try (have hji7l : 1 ≤ ji7 := by (rw [← hji7]; unfold mx; (repeat' split) <;> omega)))
 (try (have hji7m : 0 ≤ ji7 := by omega))
 have hji7_ : (if t158 < 1 then 1 else t158) = ji7 := hji7
 replace H := Option.bind_eq_some_iff.mp H
 obtain ⟨⟨t159, t160⟩, A80, H⟩ := H
 replace H : (if ((decide (a0 < 0)) != (decide (a1 < 0))) = true then (if t156 = 0 then (wide_MulDiv.j0 k ji7 t159 t160 false) else (wide_MulDiv.j0 k ji7 t159 t160 (t157 != 0))) else (wide_MulDiv.j0 k ji7 t159 t160 false)) = some r := H
 have A8 := Aside0.mk A80
 clear A80
 have HC9 := Aside0.mk H
 clear H
 go_enter Try.func45, Try.ntmps45
 go_upto_region 3 with (first | ((with_reducible refine gate_callee (f := 37) rfl ?_); refine goesL_ (some 16) rfl rfl Try.func37 (by kernel_rfl) rfl #[.int .i64 a0] rfl (by (try simp only [List.map_toArray, List.map_cons, List.map_nil]); first | done | rfl | (simp only [List.length_drop, List.length_take]; rfl)) ?_; (with_reducible refine (sat_Abs.calls k a0 t156 _ A4.out).mono ?_); rintro e w' ⟨rfl, ⟨nd, rfl⟩⟩; refine ⟨_, rfl, ?_⟩) | ((with_reducible refine gate_callee (f := 37) rfl ?_); refine goesL_ (some 18) rfl rfl Try.func37 (by kernel_rfl) rfl #[.int .i64 a1] rfl (by (try simp only [List.map_toArray, List.map_cons, List.map_nil]); first | done | rfl | (simp only [List.length_drop, List.length_take]; rfl)) ?_; (with_reducible refine (sat_Abs.calls k a1 t157 _ A5.out).mono ?_); rintro e w' ⟨rfl, ⟨nd, rfl⟩⟩; refine ⟨_, rfl, ?_⟩) | ((with_reducible refine gate_callee (f := 23) rfl ?_); refine goesL_ (some 20) rfl rfl Try.func23 (by kernel_rfl) rfl #[.int .i64 a2] rfl (by (try simp only [List.map_toArray, List.map_cons, List.map_nil]); first | done | rfl | (simp only [List.length_drop, List.length_take]; rfl)) ?_; (with_reducible refine (sat_Clip.calls k a2 t158 _ A6.out).mono ?_); rintro e w' ⟨rfl, ⟨nd, rfl⟩⟩; refine ⟨_, rfl, ?_⟩) | ((with_reducible refine gate_callee (f := 48) rfl ?_); refine goesL_ (some 27) rfl rfl Try.func48 (by kernel_rfl) rfl #[.int .u64 (IntKind.u64.wrap (t156)), .int .u64 (IntKind.u64.wrap (t157))] rfl (by (try simp only [List.map_toArray, List.map_cons, List.map_nil]); first | done | rfl | (simp only [List.length_drop, List.length_take]; rfl)) ?_; (with_reducible refine (bits_Mul64.calls (IntKind.u64.wrap (t156)) (IntKind.u64.wrap (t157)) t159 t160 _ A8.out).mono ?_); rintro e w' ⟨rfl, ⟨nd, rfl⟩⟩; refine ⟨_, rfl, ?_⟩))
 (try simp only [Act.put, List.setIfInBounds_toArray, List.set_cons_zero, List.set_cons_succ])
 go_cut [12] (fun v12 wc => ∃ (kq : Nat) (x12_8 : Bool), v12 = .bool x12_8 ∧ Aside0 (wide_MulDiv.j0 kq ji7 t159 t160 x12_8 = some r) ∧ Aside0 (kq ≤ k) ∧ Aside0 (Below w.heap.size w wc))
 case first =>
  have H := HC9.out
  clear HC9
  by_cases c10 : ((decide (a0 < 0)) != (decide (a1 < 0))) = true
  ·rw [if_pos c10] at H
   have c10b0 : ((decide (a0 < 0)) != (decide (a1 < 0))) = true := c10
   (try (have c10b1 : decide ((decide (a0 < 0)) = (decide (a1 < 0))) = false := by simpa using c10))
   (try (have c10b2 : ((decide (a0 < 0)) == (decide (a1 < 0))) = false := by simpa using c10))
   (try (have c10b3 : ¬ ((decide (a0 < 0)) = (decide (a1 < 0))) := by simpa using c10))
   clear c10
   (first | rw [c10b0] | (simp only [i64_w, i32_w]; rw [c10b0]) | skip)
   by_cases c11 : t156 = 0
   ·rw [if_pos c11] at H
    have c11b0 : (t156 == 0) = true := beq_iff_eq.mpr c11
    have c11b1 : (t156 != 0) = false := bne_eq_false_iff_eq.mpr c11
    clear c11
    have H' := Aside0.mk H
    clear H
    go_wp2
    go_meet
    case rel => exact ⟨_, (false), (by first | rfl | (simp; done) | (simp [*]; done) | (simp [Int.tdiv_eq_ediv_of_nonneg]; done) | (simp [Go.RowKit.wrap64]; done) | (simp [*, Go.RowKit.wrap64]; done)), H', ⟨by first | omega | exact Nat.le_refl _⟩, ⟨by repeat (first | (with_reducible first | exact HB.out | apply below_alloc | apply pw_below_drewN | apply below_drew1) | exact HB.out)⟩⟩
   ·rw [if_neg c11] at H
    have c11b0 : (t156 == 0) = false := beq_eq_false_iff_ne.mpr c11
    have c11b1 : (t156 != 0) = true := bne_iff_ne.mpr c11
    have H' := Aside0.mk H
    clear H
    go_wp2
    go_meet
    case rel => exact ⟨_, ((t157 != 0)), (by first | rfl | (simp; done) | (simp [*]; done) | (simp [Int.tdiv_eq_ediv_of_nonneg]; done) | (simp [Go.RowKit.wrap64]; done) | (simp [*, Go.RowKit.wrap64]; done)), H', ⟨by first | omega | exact Nat.le_refl _⟩, ⟨by repeat (first | (with_reducible first | exact HB.out | apply below_alloc | apply pw_below_drewN | apply below_drew1) | exact HB.out)⟩⟩
  ·rw [if_neg c10] at H
   have c10b0 : ((decide (a0 < 0)) != (decide (a1 < 0))) = false := by simpa using c10
   (try (have c10b1 : decide ((decide (a0 < 0)) = (decide (a1 < 0))) = true := by simpa using c10))
   (try (have c10b2 : ((decide (a0 < 0)) == (decide (a1 < 0))) = true := by simpa using c10))
   clear c10
   (first | rw [c10b0] | (simp only [i64_w, i32_w]; rw [c10b0]) | skip)
   have H' := Aside0.mk H
   clear H
   go_wp2
   go_meet
   case rel => exact ⟨_, (false), (by first | rfl | (simp; done) | (simp [*]; done) | (simp [Int.tdiv_eq_ediv_of_nonneg]; done) | (simp [Go.RowKit.wrap64]; done) | (simp [*, Go.RowKit.wrap64]; done)), H', ⟨by first | omega | exact Nat.le_refl _⟩, ⟨by repeat (first | (with_reducible first | exact HB.out | apply below_alloc | apply pw_below_drewN | apply below_drew1) | exact HB.out)⟩⟩
 case rest =>
  clear HC9
  try clear c1
  try clear c2
  try clear p2
  try clear c3
  try clear c4
  try clear c10
  try clear c10b0
  try clear c10b1
  try clear c10b2
  try clear c11
  try clear c11b0
  try clear c11b1
  obtain ⟨kq, x12_8, rfl, HA, HJ8, HB⟩ := hcut
  cases kq with
  | zero => exact absurd HA.out (by simp [wide_MulDiv.j0])
  | succ kj8 =>
   have H := HA.out
   clear HA
   simp only [wide_MulDiv.j0] at H
   by_cases c12 : t159 ≥ (IntKind.u64.wrap (ji7))
   ·rw [if_pos c12] at H
    have c12b0 : decide ((IntKind.u64.wrap (ji7)) ≤ t159) = true := decide_eq_true c12
    clear c12
    replace H := Option.bind_eq_some_iff.mp H
    obtain ⟨t161, A130, H⟩ := H
    replace H : (some t161) = some r := H
    have A13 := Aside0.mk A130
    clear A130
    obtain rfl := Option.some.inj H
    go_wp2_with (first | ((with_reducible refine gate_callee (f := 49) rfl ?_); refine goesL_ (some 48) rfl rfl Try.func49 (by kernel_rfl) rfl #[.bool x12_8] rfl (by (try simp only [List.map_toArray, List.map_cons, List.map_nil]); first | done | rfl | (simp only [List.length_drop, List.length_take]; rfl)) ?_; (with_reducible refine (wide_end.calls x12_8 t161 _ A13.out).mono ?_); rintro e w' ⟨rfl, ⟨nd, rfl⟩⟩; refine ⟨_, rfl, ?_⟩))
    go_ret
    exact ⟨by first | rfl | (simp [errW_none, errW_some] <;> rfl) | (simp only [← hji7]; first | rfl | (simp [errW_none, errW_some] <;> rfl)) | (simp [*, errW_none, errW_some] <;> rfl), by repeat (first | (with_reducible first | exact HB.out | apply below_alloc | apply pw_below_drewN | apply below_drew1) | exact HB.out)⟩
   ·rw [if_neg c12] at H
    have c12b0 : decide ((IntKind.u64.wrap (ji7)) ≤ t159) = false := decide_eq_false c12
    clear c12
    replace H := Option.bind_eq_some_iff.mp H
    obtain ⟨⟨t162, t163⟩, A140, H⟩ := H
    replace H : (if x12_8 = true then (if t163 > 0 then (wide_MulDiv.j1 kj8 x12_8 t162 (decide (t162 < 2305843009213693952))) else (wide_MulDiv.j1 kj8 x12_8 t162 false)) else (wide_MulDiv.j1 kj8 x12_8 t162 false)) = some r := H
    have A14 := Aside0.mk A140
    clear A140
    have HC15 := Aside0.mk H
    clear H
    go_upto_region 7 with (first | ((with_reducible refine gate_callee (f := 50) rfl ?_); refine goesL_ (some 54) rfl rfl Try.func50 (by kernel_rfl) rfl #[.int .u64 t159, .int .u64 t160, .int .u64 (IntKind.u64.wrap (ji7))] rfl (by (try simp only [List.map_toArray, List.map_cons, List.map_nil]); first | done | (simp only [hji7]; rfl) | rfl | (simp only [List.length_drop, List.length_take]; rfl)) ?_; (with_reducible refine (bits_Div64.calls kj8 t159 t160 (IntKind.u64.wrap (ji7)) t162 t163 _ A14.out).mono ?_); rintro e w' ⟨rfl, ⟨nd, rfl⟩⟩; refine ⟨_, rfl, ?_⟩))
    (try simp only [Act.put, List.setIfInBounds_toArray, List.set_cons_zero, List.set_cons_succ])
    go_cut [65] (fun v65 wc => ∃ (kq : Nat) (x65_14 : Bool), v65 = .bool x65_14 ∧ Aside0 (wide_MulDiv.j1 kq x12_8 t162 x65_14 = some r) ∧ Aside0 (kq ≤ kj8) ∧ Aside0 (Below w.heap.size w wc))
    case first =>
     have H := HC15.out
     clear HC15
     by_cases c16 : x12_8 = true
     ·subst c16
      have H1 : (if t163 > 0 then (wide_MulDiv.j1 kj8 true t162 (decide (t162 < 2305843009213693952))) else (wide_MulDiv.j1 kj8 true t162 false)) = some r := by rw [if_pos rfl] at H; exact H
      clear H
      have H := H1
      clear H1
      by_cases c17 : t163 > 0
      ·rw [if_pos c17] at H
       have c17b0 : decide (0 < t163) = true := decide_eq_true c17
       clear c17
       (first | rw [c17b0] | (simp only [i64_w, i32_w]; rw [c17b0]) | skip)
       have H' := Aside0.mk H
       clear H
       go_wp2
       go_meet
       case rel => exact ⟨_, (decide (t162 < 2305843009213693952)), (by first | rfl | (simp; done) | (simp [*]; done) | (simp [Int.tdiv_eq_ediv_of_nonneg]; done) | (simp [Go.RowKit.wrap64]; done) | (simp [*, Go.RowKit.wrap64]; done)), H', ⟨by have := HJ8.out; first | omega | exact Nat.le_refl _⟩, ⟨by repeat (first | (with_reducible first | exact HB.out | apply below_alloc | apply pw_below_drewN | apply below_drew1) | exact HB.out)⟩⟩
      ·rw [if_neg c17] at H
       have c17b0 : decide (0 < t163) = false := decide_eq_false c17
       clear c17
       (first | rw [c17b0] | (simp only [i64_w, i32_w]; rw [c17b0]) | skip)
       have H' := Aside0.mk H
       clear H
       go_wp2
       go_meet
       case rel => exact ⟨_, (false), (by first | rfl | (simp; done) | (simp [*]; done) | (simp [Int.tdiv_eq_ediv_of_nonneg]; done) | (simp [Go.RowKit.wrap64]; done) | (simp [*, Go.RowKit.wrap64]; done)), H', ⟨by have := HJ8.out; first | omega | exact Nat.le_refl _⟩, ⟨by repeat (first | (with_reducible first | exact HB.out | apply below_alloc | apply pw_below_drewN | apply below_drew1) | exact HB.out)⟩⟩
     ·replace c16 := Bool.eq_false_iff.mpr c16
      subst c16
      have H1 : (wide_MulDiv.j1 kj8 false t162 false) = some r := by rw [if_neg (show ¬ (false = true) by decide)] at H; exact H
      clear H
      have H := H1
      clear H1
      have H' := Aside0.mk H
      clear H
      go_wp2
      go_meet
      case rel => exact ⟨_, (false), (by first | rfl | (simp; done) | (simp [*]; done) | (simp [Int.tdiv_eq_ediv_of_nonneg]; done) | (simp [Go.RowKit.wrap64]; done) | (simp [*, Go.RowKit.wrap64]; done)), H', ⟨by have := HJ8.out; first | omega | exact Nat.le_refl _⟩, ⟨by repeat (first | (with_reducible first | exact HB.out | apply below_alloc | apply pw_below_drewN | apply below_drew1) | exact HB.out)⟩⟩
    case rest =>
     clear HC15
     try clear c1
     try clear c2
     try clear p2
     try clear c3
     try clear c4
     try clear c5
     try clear c10
     try clear c10b0
     try clear c10b1
     try clear c10b2
     try clear c11
     try clear c11b0
     try clear c11b1
     try clear c12
     try clear c12b0
     try clear c16
     try clear c17
     try clear c17b0
     try clear p2
     obtain ⟨kq, x65_14, rfl, HA, HJ14, HB⟩ := hcut
     cases kq with
     | zero => exact absurd HA.out (by simp [wide_MulDiv.j1])
     | succ kj14 =>
      have H := HA.out
      clear HA
      simp only [wide_MulDiv.j1] at H
      have HC18 := Aside0.mk H
      clear H
      go_upto_if 65 with (fail)
      go_cut [13] (fun v13 wc => ∃ (kq : Nat) (x13_17 : Int), v13 = .int .u64 x13_17 ∧ Aside0 (wide_MulDiv.j2 kq x12_8 x13_17 = some r) ∧ Aside0 (kq ≤ kj14) ∧ Aside0 (Below w.heap.size w wc))
      case first =>
       have H := HC18.out
       clear HC18
       by_cases c19 : x65_14 = true
       ·subst c19
        have H1 : (wide_MulDiv.j2 kj14 x12_8 (IntKind.u64.wrap (t162 + 1))) = some r := by rw [if_pos rfl] at H; exact H
        clear H
        have H := H1
        clear H1
        have H' := Aside0.mk H
        clear H
        go_wp2
        go_meet
        case rel => exact ⟨_, (IntKind.u64.wrap (t162 + 1)), (by first | rfl | (simp; done) | (simp [*]; done) | (simp [Int.tdiv_eq_ediv_of_nonneg]; done) | (simp [Go.RowKit.wrap64]; done) | (simp [*, Go.RowKit.wrap64]; done)), H', ⟨by have := HJ8.out; have := HJ14.out; first | omega | exact Nat.le_refl _⟩, ⟨by repeat (first | (with_reducible first | exact HB.out | apply below_alloc | apply pw_below_drewN | apply below_drew1) | exact HB.out)⟩⟩
       ·replace c19 := Bool.eq_false_iff.mpr c19
        subst c19
        have H1 : (wide_MulDiv.j2 kj14 x12_8 t162) = some r := by rw [if_neg (show ¬ (false = true) by decide)] at H; exact H
        clear H
        have H := H1
        clear H1
        have H' := Aside0.mk H
        clear H
        go_wp2
        go_meet
        case rel => exact ⟨_, (t162), (by first | rfl | (simp; done) | (simp [*]; done) | (simp [Int.tdiv_eq_ediv_of_nonneg]; done) | (simp [Go.RowKit.wrap64]; done) | (simp [*, Go.RowKit.wrap64]; done)), H', ⟨by have := HJ8.out; have := HJ14.out; first | omega | exact Nat.le_refl _⟩, ⟨by repeat (first | (with_reducible first | exact HB.out | apply below_alloc | apply pw_below_drewN | apply below_drew1) | exact HB.out)⟩⟩
      case rest =>
       clear HC18
       try clear c1
       try clear c2
       try clear p2
       try clear c3
       try clear c4
       try clear c5
       try clear c10
       try clear c10b0
       try clear c10b1
       try clear c10b2
       try clear c11
       try clear c11b0
       try clear c11b1
       try clear c12
       try clear c12b0
       try clear c16
       try clear c17
       try clear c17b0
       try clear c19
       try clear p2
       obtain ⟨kq, x13_17, rfl, HA, HJ17, HB⟩ := hcut
       cases kq with
       | zero => exact absurd HA.out (by simp [wide_MulDiv.j2])
       | succ kj17 =>
        have H := HA.out
        clear HA
        simp only [wide_MulDiv.j2] at H
        by_cases c20 : x13_17 > 2305843009213693952
        ·rw [if_pos c20] at H
         have c20b0 : decide (2305843009213693952 < x13_17) = true := decide_eq_true c20
         clear c20
         replace H := Option.bind_eq_some_iff.mp H
         obtain ⟨t164, A210, H⟩ := H
         replace H : (some t164) = some r := H
         have A21 := Aside0.mk A210
         clear A210
         obtain rfl := Option.some.inj H
         go_wp2_with (first | ((with_reducible refine gate_callee (f := 49) rfl ?_); refine goesL_ (some 71) rfl rfl Try.func49 (by kernel_rfl) rfl #[.bool x12_8] rfl (by (try simp only [List.map_toArray, List.map_cons, List.map_nil]); first | done | rfl | (simp only [List.length_drop, List.length_take]; rfl)) ?_; (with_reducible refine (wide_end.calls x12_8 t164 _ A21.out).mono ?_); rintro e w' ⟨rfl, ⟨nd, rfl⟩⟩; refine ⟨_, rfl, ?_⟩))
         go_ret
         exact ⟨by first | rfl | (simp [errW_none, errW_some] <;> rfl) | (simp only [← hji7]; first | rfl | (simp [errW_none, errW_some] <;> rfl)) | (simp [*, errW_none, errW_some] <;> rfl), by repeat (first | (with_reducible first | exact HB.out | apply below_alloc | apply pw_below_drewN | apply below_drew1) | exact HB.out)⟩
        ·rw [if_neg c20] at H
         have c20b0 : decide (2305843009213693952 < x13_17) = false := decide_eq_false c20
         clear c20
         by_cases c22 : x12_8 = true
         ·subst c22
          have H1 : (some (wrap64 (-(wrap64 (x13_17))))) = some r := by rw [if_pos rfl] at H; exact H
          clear H
          have H := H1
          clear H1
          obtain rfl := Option.some.inj H
          go_wp2
          go_ret
          exact ⟨by first | rfl | (simp [errW_none, errW_some] <;> rfl) | (simp only [← hji7]; first | rfl | (simp [errW_none, errW_some] <;> rfl)) | (simp [*, errW_none, errW_some] <;> rfl), by repeat (first | (with_reducible first | exact HB.out | apply below_alloc | apply pw_below_drewN | apply below_drew1) | exact HB.out)⟩
         ·replace c22 := Bool.eq_false_iff.mpr c22
          subst c22
          have H1 : (some (wrap64 (x13_17))) = some r := by rw [if_neg (show ¬ (false = true) by decide)] at H; exact H
          clear H
          have H := H1
          clear H1
          obtain rfl := Option.some.inj H
          go_wp2
          go_ret
          exact ⟨by first | rfl | (simp [errW_none, errW_some] <;> rfl) | (simp only [← hji7]; first | rfl | (simp [errW_none, errW_some] <;> rfl)) | (simp [*, errW_none, errW_some] <;> rfl), by repeat (first | (with_reducible first | exact HB.out | apply below_alloc | apply pw_below_drewN | apply below_drew1) | exact HB.out)⟩

end Go.Proofs.Ytopnmlambbimpaa.Q
