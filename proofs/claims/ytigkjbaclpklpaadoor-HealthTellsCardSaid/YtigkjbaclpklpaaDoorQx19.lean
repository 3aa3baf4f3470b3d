/- The calls of these Go functions answer what the Lean functions beside them answer; written by a program (wip/pr2.py, out of the print of the loaded program); under no condition but those that stand in the theorems. -/
import Derived.Test.YtigkjbaclpklpaaDoorQx0
import Derived.Test.YtigkjbaclpklpaaDoorQx17
import Derived.Test.YtigkjbaclpklpaaDoorQx18
namespace Go.Proofs.YtigkjbaclpklpaaDoor.Q
open Go.RowKit Go.Proofs.YtigkjbaclpklpaaDoorW.PrintWords Go.Proofs.YtigkjbaclpklpaaDoorW.PrintLast Go.Proofs.YtigkjbaclpklpaaDoorW.PrintMore
attribute [local go_sem] max2_int min2_int max_two min_two max_three min_three max_four min_four   -- for this text's walks alone
set_option linter.unusedVariables false
set_option linter.unusedSimpArgs false

/-! ### civil_Date: function 43 -/
mutual
def civil_Date.j0 : Nat → Int → Bool → Option (Int × Int × Int × Bool)
  | 0, _, _ => none
  | k + 1, x0, x17 => if x17 = true then (some (0, 0, 0, false)) else ((wide_Div.f k x0 366).bind fun bt254 => (civil_Date.l0 k x0 (wrap64 (bt254.1 + 1970))))
def civil_Date.l0 : Nat → Int → Int → Option (Int × Int × Int × Bool)
  | 0, _, _ => none
  | k + 1, x0, x6 => (civil_first.f k (wrap64 (x6 + 1))).bind fun t256 => (if t256 ≤ x0 then ((civil_first.f k x6).bind fun t257 => ((wide_Div.f k (wrap64 (x0 - t257)) 366).bind fun bt258 => (civil_Date.l0 k x0 (wrap64 (x6 + (mx bt258.1 1)))))) else (civil_Date.l1 k x0 x6))
def civil_Date.l1 : Nat → Int → Int → Option (Int × Int × Int × Bool)
  | 0, _, _ => none
  | k + 1, x0, x6 => (civil_first.f k x6).bind fun t260 => (if t260 > x0 then (civil_Date.l1 k x0 (wrap64 (x6 - 1))) else ((civil_first.f k x6).bind fun t261 => (civil_Date.l2 k x6 (wrap64 (x0 - t261)) 1)))
def civil_Date.l2 : Nat → Int → Int → Int → Option (Int × Int × Int × Bool)
  | 0, _, _, _ => none
  | k + 1, x6, x10, x11 => (civil_ahead.f x6 (wrap64 (x11 + 1))).bind fun t262 => (if x10 ≥ t262 then (civil_Date.l2 k x6 x10 (wrap64 (x11 + 1))) else ((civil_ahead.f x6 x11).bind fun t263 => (some (x6, x11, wrap64 ((wrap64 (x10 - t263)) + 1), true))))
end
def civil_Date.f (k : Nat) (a0 : Int) : Option (Int × Int × Int × Bool) := if a0 < (-4294967296) then (civil_Date.j0 k a0 true) else (civil_Date.j0 k a0 (decide (a0 > 4294967296)))
theorem civil_Date.mono_l : ∀ k, (∀ y0 y1, LeO (civil_Date.j0 k y0 y1) (civil_Date.j0 (k + 1) y0 y1)) ∧ (∀ y0 y1, LeO (civil_Date.l0 k y0 y1) (civil_Date.l0 (k + 1) y0 y1)) ∧ (∀ y0 y1, LeO (civil_Date.l1 k y0 y1) (civil_Date.l1 (k + 1) y0 y1)) ∧ (∀ y0 y1 y2, LeO (civil_Date.l2 k y0 y1 y2) (civil_Date.l2 (k + 1) y0 y1 y2))
  | 0 => ⟨fun _ _ r h => by simp [civil_Date.j0] at h, fun _ _ r h => by simp [civil_Date.l0] at h, fun _ _ r h => by simp [civil_Date.l1] at h, fun _ _ _ r h => by simp [civil_Date.l2] at h⟩
  | k + 1 => by
    obtain ⟨ih0, ih1, ih2, ih3⟩ := civil_Date.mono_l k
    refine ⟨?_, ?_, ?_, ?_⟩
    · intro y0 y1
      unfold civil_Date.j0
      repeat' first
      | (with_reducible exact ih0 _ _)
      | (with_reducible exact ih1 _ _)
      | (with_reducible exact ih2 _ _)
      | (with_reducible exact ih3 _ _ _)
      | (with_reducible exact civil_first.mono _ _)
      | (with_reducible exact wide_Div.mono _ _ _)
      | (with_reducible exact LeO.refl _)
      | (with_reducible exact LeO.none _)
      | (with_reducible refine LeO.ite ?_ ?_)
      | (with_reducible refine LeO.bind ?_ (fun _ => ?_))
      | exact ih0 _ _
      | exact ih1 _ _
      | exact ih2 _ _
      | exact ih3 _ _ _
      | exact civil_first.mono _ _
      | exact wide_Div.mono _ _ _
      | exact LeO.none _
      | refine LeO.ite ?_ ?_
      | refine LeO.bind ?_ (fun _ => ?_)
    · intro y0 y1
      unfold civil_Date.l0
      repeat' first
      | (with_reducible exact ih0 _ _)
      | (with_reducible exact ih1 _ _)
      | (with_reducible exact ih2 _ _)
      | (with_reducible exact ih3 _ _ _)
      | (with_reducible exact civil_first.mono _ _)
      | (with_reducible exact wide_Div.mono _ _ _)
      | (with_reducible exact LeO.refl _)
      | (with_reducible exact LeO.none _)
      | (with_reducible refine LeO.ite ?_ ?_)
      | (with_reducible refine LeO.bind ?_ (fun _ => ?_))
      | exact ih0 _ _
      | exact ih1 _ _
      | exact ih2 _ _
      | exact ih3 _ _ _
      | exact civil_first.mono _ _
      | exact wide_Div.mono _ _ _
      | exact LeO.none _
      | refine LeO.ite ?_ ?_
      | refine LeO.bind ?_ (fun _ => ?_)
    · intro y0 y1
      unfold civil_Date.l1
      repeat' first
      | (with_reducible exact ih0 _ _)
      | (with_reducible exact ih1 _ _)
      | (with_reducible exact ih2 _ _)
      | (with_reducible exact ih3 _ _ _)
      | (with_reducible exact civil_first.mono _ _)
      | (with_reducible exact wide_Div.mono _ _ _)
      | (with_reducible exact LeO.refl _)
      | (with_reducible exact LeO.none _)
      | (with_reducible refine LeO.ite ?_ ?_)
      | (with_reducible refine LeO.bind ?_ (fun _ => ?_))
      | exact ih0 _ _
      | exact ih1 _ _
      | exact ih2 _ _
      | exact ih3 _ _ _
      | exact civil_first.mono _ _
      | exact wide_Div.mono _ _ _
      | exact LeO.none _
      | refine LeO.ite ?_ ?_
      | refine LeO.bind ?_ (fun _ => ?_)
    · intro y0 y1 y2
      unfold civil_Date.l2
      repeat' first
      | (with_reducible exact ih0 _ _)
      | (with_reducible exact ih1 _ _)
      | (with_reducible exact ih2 _ _)
      | (with_reducible exact ih3 _ _ _)
      | (with_reducible exact civil_first.mono _ _)
      | (with_reducible exact wide_Div.mono _ _ _)
      | (with_reducible exact LeO.refl _)
      | (with_reducible exact LeO.none _)
      | (with_reducible refine LeO.ite ?_ ?_)
      | (with_reducible refine LeO.bind ?_ (fun _ => ?_))
      | exact ih0 _ _
      | exact ih1 _ _
      | exact ih2 _ _
      | exact ih3 _ _ _
      | exact civil_first.mono _ _
      | exact wide_Div.mono _ _ _
      | exact LeO.none _
      | refine LeO.ite ?_ ?_
      | refine LeO.bind ?_ (fun _ => ?_)
theorem civil_Date.mono : ∀ a0 k, LeO (civil_Date.f k a0) (civil_Date.f (k + 1) a0) := by
  intro a0 k
  obtain ⟨ih0, ih1, ih2, ih3⟩ := civil_Date.mono_l k
  unfold civil_Date.f
  repeat' first
      | (with_reducible exact ih0 _ _)
      | (with_reducible exact ih1 _ _)
      | (with_reducible exact ih2 _ _)
      | (with_reducible exact ih3 _ _ _)
      | (with_reducible exact civil_first.mono _ _)
      | (with_reducible exact wide_Div.mono _ _ _)
      | (with_reducible exact LeO.refl _)
      | (with_reducible exact LeO.none _)
      | (with_reducible refine LeO.ite ?_ ?_)
      | (with_reducible refine LeO.bind ?_ (fun _ => ?_))
      | exact ih0 _ _
      | exact ih1 _ _
      | exact ih2 _ _
      | exact ih3 _ _ _
      | exact civil_first.mono _ _
      | exact wide_Div.mono _ _ _
      | exact LeO.none _
      | refine LeO.ite ?_ ?_
      | refine LeO.bind ?_ (fun _ => ?_)
set_option maxHeartbeats 8000000 in
set_option maxRecDepth 100000 in
theorem civil_Date.calls (k : Nat) (a0 : Int) (r1 : Int) (r2 : Int) (r3 : Int) (r4 : Bool) (w : World) (hM : GM w) (h : civil_Date.f k a0 = some (r1, r2, r3, r4)) :
    Calls Tryd.prog 43 #[.int .i64 a0] w fun e w' => e = .returned (.tuple #[.int .i64 r1, .int .i64 r2, .int .i64 r3, .bool r4]) ∧ Below w.heap.size w w' := by
  have HB := Aside0.mk (Below.refl w.heap.size w)
  have H : (if a0 < (-4294967296) then (civil_Date.j0 k a0 true) else (civil_Date.j0 k a0 (decide (a0 > 4294967296)))) = some (r1, r2, r3, r4) := h
  clear h
  have HC2 := Aside0.mk H
  clear H
  go_enter Tryd.func43, Tryd.ntmps43
  go_upto_region 1 with (fail)
  go_cut [17] (fun v17 wc => ∃ (kq : Nat) (x17_1 : Bool), v17 = .bool x17_1 ∧ Aside0 (civil_Date.j0 kq a0 x17_1 = some (r1, r2, r3, r4)) ∧ Aside0 (kq ≤ k) ∧ Aside0 (Below w.heap.size w wc))
  case first =>
    have H := HC2.1
    clear HC2
    by_cases c3 : a0 < (-4294967296)
    · rw [if_pos c3] at H
      have c3b0 : decide (a0 < (-4294967296)) = true := decide_eq_true c3
      clear c3
      (first | rw [c3b0] | (simp only [i64_w, i32_w]; rw [c3b0]) | skip)
      have H' := Aside0.mk H
      clear H
      go_wp2
      go_meet
      case rel => exact ⟨_, (true), zs, H', ⟨by first | omega | exact Nat.le_refl _⟩, ⟨by repeat (first | (with_reducible first | exact HB.1 | apply below_alloc | apply pw_below_drewN | apply below_drew1) | exact HB.1)⟩⟩
    · rw [if_neg c3] at H
      have c3b0 : decide (a0 < (-4294967296)) = false := decide_eq_false c3
      clear c3
      (first | rw [c3b0] | (simp only [i64_w, i32_w]; rw [c3b0]) | skip)
      have H' := Aside0.mk H
      clear H
      go_wp2
      go_meet
      case rel => exact ⟨_, (decide (a0 > 4294967296)), zs, H', ⟨by first | omega | exact Nat.le_refl _⟩, ⟨by repeat (first | (with_reducible first | exact HB.1 | apply below_alloc | apply pw_below_drewN | apply below_drew1) | exact HB.1)⟩⟩
  case rest =>
    clear HC2
    try clear p2
    try clear c3
    try clear c3b0
    obtain ⟨kq, x17_1, rfl, HA, HJ1, HB⟩ := hcut
    cases kq with
    | zero => exact absurd HA.1 (by simp [civil_Date.j0])
    | succ kj1 =>
      have H := HA.1
      clear HA
      simp only [civil_Date.j0] at H
      by_cases c4 : x17_1 = true
      · subst c4
        have H1 : (some (0, 0, 0, false)) = some (r1, r2, r3, r4) := by rw [if_pos rfl] at H; exact H
        clear H
        have H := H1
        clear H1
        simp only [Option.some.injEq, Prod.mk.injEq] at H
        obtain ⟨rfl, rfl, rfl, rfl⟩ := H
        go_wp2
        refine bodyPost_ret (results_list (rs := [.tmp 2, .tmp 3, .tmp 4, .tmp 5]) rfl (by simp) (.tmp (.tmp (.tmp (.tmp .nil))))) rfl ?_
        exact ⟨by first | rfl | (simp [errW_none, errW_some] <;> rfl) | (simp [*, errW_none, errW_some] <;> rfl), by repeat (first | (with_reducible first | exact HB.1 | apply below_alloc | apply pw_below_drewN | apply below_drew1) | exact HB.1)⟩
      · replace c4 := Bool.eq_false_iff.mpr c4
        subst c4
        have H1 : ((wide_Div.f kj1 a0 366).bind fun bt254 => (civil_Date.l0 kj1 a0 (wrap64 (bt254.1 + 1970)))) = some (r1, r2, r3, r4) := by rw [if_neg (show ¬ (false = true) by decide)] at H; exact H
        clear H
        have H := H1
        clear H1
        replace H := Option.bind_eq_some_iff.mp H
        obtain ⟨⟨t254, t255⟩, A50, H⟩ := H
        replace H : (civil_Date.l0 kj1 a0 (wrap64 (t254 + 1970))) = some (r1, r2, r3, r4) := H
        have A5 := Aside0.mk A50
        clear A50
        have H' := Aside0.mk H
        clear H
        go_wp2_with (first | ((with_reducible refine gate_callee (f := 20) rfl ?_); refine goesL_ (some 20) rfl rfl Tryd.func20 (by kernel_rfl) rfl #[.int .i64 a0, .int .i64 366] rfl (by (try simp only [List.map_toArray, List.map_cons, List.map_nil]); first | done | rfl | (simp only [List.length_drop, List.length_take]; rfl)) ?_; (with_reducible refine (wide_Div.calls kj1 a0 366 t254 t255 _ A5.out).mono ?_); rintro e w6 ⟨rfl, hb⟩; refine ⟨_, rfl, ?_⟩; replace HB := Aside0.mk (below_step (by repeat (first | (with_reducible first | exact HB.1 | apply below_alloc | apply pw_below_drewN | apply below_drew1) | exact HB.1)) hb); (try clear hb); (try clear hb2); (try clear hk); (try clear hi)))
        go_loopg [6] kj1 (fun kq v6 w' => ∃ (x6_2 : Int), v6 = .int .i64 x6_2 ∧ Aside0 (civil_Date.l0 kq a0 x6_2 = some (r1, r2, r3, r4)) ∧ Aside0 (kq ≤ kj1) ∧ Aside0 (Below w.heap.size w w'))
        case atStart => exact ⟨(wrap64 (t254 + 1970)), zs, H', ⟨Nat.le_refl _⟩, ⟨by repeat (first | (with_reducible first | exact HB.1 | apply below_alloc | apply pw_below_drewN | apply below_drew1) | exact HB.1)⟩⟩
        case round =>
          clear H'
          try clear c2
          try clear p2
          try clear c3
          try clear c3b0
          try clear c4
          try clear p6
          try clear p2
          obtain ⟨x6_2, rfl, HA, HK2, HB⟩ := hrel
          cases gk with
          | zero => exact absurd HA.1 (by simp [civil_Date.l0])
          | succ k2 =>
            have H := HA.1
            clear HA
            simp only [civil_Date.l0] at H
            replace H := Option.bind_eq_some_iff.mp H
            obtain ⟨t256, A70, H⟩ := H
            replace H : (if t256 ≤ a0 then ((civil_first.f k2 x6_2).bind fun t257 => ((wide_Div.f k2 (wrap64 (a0 - t257)) 366).bind fun bt258 => (civil_Date.l0 k2 a0 (wrap64 (x6_2 + (mx bt258.1 1)))))) else (civil_Date.l1 k2 a0 x6_2)) = some (r1, r2, r3, r4) := H
            have A7 := Aside0.mk A70
            clear A70
            by_cases c8 : t256 ≤ a0
            · rw [if_pos c8] at H
              have c8b0 : decide (t256 ≤ a0) = true := decide_eq_true c8
              clear c8
              replace H := Option.bind_eq_some_iff.mp H
              obtain ⟨t257, A90, H⟩ := H
              replace H : ((wide_Div.f k2 (wrap64 (a0 - t257)) 366).bind fun bt258 => (civil_Date.l0 k2 a0 (wrap64 (x6_2 + (mx bt258.1 1))))) = some (r1, r2, r3, r4) := H
              have A9 := Aside0.mk A90
              clear A90
              replace H := Option.bind_eq_some_iff.mp H
              obtain ⟨⟨t258, t259⟩, A100, H⟩ := H
              replace H : (civil_Date.l0 k2 a0 (wrap64 (x6_2 + (mx t258 1)))) = some (r1, r2, r3, r4) := H
              have A10 := Aside0.mk A100
              clear A100
              obtain ⟨ji11, hji11⟩ : ∃ j_ : Int, (mx t258 1) = j_ := ⟨_, rfl⟩
              replace H : (civil_Date.l0 k2 a0 (wrap64 (x6_2 + (ji11)))) = some (r1, r2, r3, r4) := by first | (rw [hji11] at H; exact H) | (simp only [hji11] at H ⊢; exact H)
              (try rw [hji11] at A7)
              (try rw [hji11] at A9)
              (try rw [hji11] at A10)
              (try (have hji11l : 1 ≤ ji11 := by (rw [← hji11]; unfold mx; (repeat' split) <;> omega)))
              (try (have hji11m : 0 ≤ ji11 := by omega))
              have hji11_ : (if t258 < 1 then 1 else t258) = ji11 := hji11
              have H' := Aside0.mk H
              clear H
              go_wp2_with (first | ((with_reducible refine gate_callee (f := 64) rfl ?_); refine goesL_ (some 27) rfl rfl Tryd.func64 (by kernel_rfl) rfl #[.int .i64 (wrap64 (x6_2 + 1))] rfl (by (try simp only [List.map_toArray, List.map_cons, List.map_nil]); first | done | rfl | (simp only [List.length_drop, List.length_take]; rfl)) ?_; (with_reducible refine (civil_first.calls k2 (wrap64 (x6_2 + 1)) t256 _ A7.out).mono ?_); rintro e w12 ⟨rfl, hb⟩; refine ⟨_, rfl, ?_⟩; replace HB := Aside0.mk (below_step (by repeat (first | (with_reducible first | exact HB.1 | apply below_alloc | apply pw_below_drewN | apply below_drew1) | exact HB.1)) hb); (try clear hb); (try clear hb2); (try clear hk); (try clear hi)) | ((with_reducible refine gate_callee (f := 64) rfl ?_); refine goesL_ (some 33) rfl rfl Tryd.func64 (by kernel_rfl) rfl #[.int .i64 x6_2] rfl (by (try simp only [List.map_toArray, List.map_cons, List.map_nil]); first | done | rfl | (simp only [List.length_drop, List.length_take]; rfl)) ?_; (with_reducible refine (civil_first.calls k2 x6_2 t257 _ A9.out).mono ?_); rintro e w13 ⟨rfl, hb⟩; refine ⟨_, rfl, ?_⟩; replace HB := Aside0.mk (below_step (by repeat (first | (with_reducible first | exact HB.1 | apply below_alloc | apply pw_below_drewN | apply below_drew1) | exact HB.1)) hb); (try clear hb); (try clear hb2); (try clear hk); (try clear hi)) | ((with_reducible refine gate_callee (f := 20) rfl ?_); refine goesL_ (some 35) rfl rfl Tryd.func20 (by kernel_rfl) rfl #[.int .i64 (wrap64 (a0 - t257)), .int .i64 366] rfl (by (try simp only [List.map_toArray, List.map_cons, List.map_nil]); first | done | rfl | (simp only [List.length_drop, List.length_take]; rfl)) ?_; (with_reducible refine (wide_Div.calls k2 (wrap64 (a0 - t257)) 366 t258 t259 _ A10.out).mono ?_); rintro e w14 ⟨rfl, hb⟩; refine ⟨_, rfl, ?_⟩; replace HB := Aside0.mk (below_step (by repeat (first | (with_reducible first | exact HB.1 | apply below_alloc | apply pw_below_drewN | apply below_drew1) | exact HB.1)) hb); (try clear hb); (try clear hb2); (try clear hk); (try clear hi)))
              go_roundg k2
              case measure => have := HJ1.1; have := HK2.1; omega
              case rel => exact ⟨(wrap64 (x6_2 + (ji11))), (by first | rfl | (simp; done) | (simp only [← hji11] <;> (first | rfl | simp)) | (simp [*]; done)), H', ⟨by have := HJ1.1; have := HK2.1; omega⟩, ⟨by repeat (first | (with_reducible first | exact HB.1 | apply below_alloc | apply pw_below_drewN | apply below_drew1) | exact HB.1)⟩⟩
            · rw [if_neg c8] at H
              have c8b0 : decide (t256 ≤ a0) = false := decide_eq_false c8
              clear c8
              have H' := Aside0.mk H
              clear H
              go_wp2_with (first | ((with_reducible refine gate_callee (f := 64) rfl ?_); refine goesL_ (some 27) rfl rfl Tryd.func64 (by kernel_rfl) rfl #[.int .i64 (wrap64 (x6_2 + 1))] rfl (by (try simp only [List.map_toArray, List.map_cons, List.map_nil]); first | done | rfl | (simp only [List.length_drop, List.length_take]; rfl)) ?_; (with_reducible refine (civil_first.calls k2 (wrap64 (x6_2 + 1)) t256 _ A7.out).mono ?_); rintro e w15 ⟨rfl, hb⟩; refine ⟨_, rfl, ?_⟩; replace HB := Aside0.mk (below_step (by repeat (first | (with_reducible first | exact HB.1 | apply below_alloc | apply pw_below_drewN | apply below_drew1) | exact HB.1)) hb); (try clear hb); (try clear hb2); (try clear hk); (try clear hi)))
              go_loopg [6] k2 (fun kq v6 w' => ∃ (x6_3 : Int), v6 = .int .i64 x6_3 ∧ Aside0 (civil_Date.l1 kq a0 x6_3 = some (r1, r2, r3, r4)) ∧ Aside0 (kq ≤ k2) ∧ Aside0 (Below w.heap.size w w'))
              case atStart => exact ⟨(x6_2), zs, H', ⟨Nat.le_refl _⟩, ⟨by repeat (first | (with_reducible first | exact HB.1 | apply below_alloc | apply pw_below_drewN | apply below_drew1) | exact HB.1)⟩⟩
              case round =>
                clear H'
                try clear c2
                try clear p2
                try clear c3
                try clear c3b0
                try clear c4
                try clear c6
                try clear p6
                try clear c8
                try clear c8b0
                try clear p2
                try clear p6
                obtain ⟨x6_3, rfl, HA, HK3, HB⟩ := hrel
                cases gk with
                | zero => exact absurd HA.1 (by simp [civil_Date.l1])
                | succ k3 =>
                  have H := HA.1
                  clear HA
                  simp only [civil_Date.l1] at H
                  replace H := Option.bind_eq_some_iff.mp H
                  obtain ⟨t260, A160, H⟩ := H
                  replace H : (if t260 > a0 then (civil_Date.l1 k3 a0 (wrap64 (x6_3 - 1))) else ((civil_first.f k3 x6_3).bind fun t261 => (civil_Date.l2 k3 x6_3 (wrap64 (a0 - t261)) 1))) = some (r1, r2, r3, r4) := H
                  have A16 := Aside0.mk A160
                  clear A160
                  by_cases c17 : t260 > a0
                  · rw [if_pos c17] at H
                    have c17b0 : decide (a0 < t260) = true := decide_eq_true c17
                    clear c17
                    have H' := Aside0.mk H
                    clear H
                    go_wp2_with (first | ((with_reducible refine gate_callee (f := 64) rfl ?_); refine goesL_ (some 43) rfl rfl Tryd.func64 (by kernel_rfl) rfl #[.int .i64 x6_3] rfl (by (try simp only [List.map_toArray, List.map_cons, List.map_nil]); first | done | rfl | (simp only [List.length_drop, List.length_take]; rfl)) ?_; (with_reducible refine (civil_first.calls k3 x6_3 t260 _ A16.out).mono ?_); rintro e w18 ⟨rfl, hb⟩; refine ⟨_, rfl, ?_⟩; replace HB := Aside0.mk (below_step (by repeat (first | (with_reducible first | exact HB.1 | apply below_alloc | apply pw_below_drewN | apply below_drew1) | exact HB.1)) hb); (try clear hb); (try clear hb2); (try clear hk); (try clear hi)))
                    go_roundg k3
                    case measure => have := HJ1.1; have := HK2.1; have := HK3.1; omega
                    case rel => exact ⟨(wrap64 (x6_3 - 1)), zs, H', ⟨by have := HJ1.1; have := HK2.1; have := HK3.1; omega⟩, ⟨by repeat (first | (with_reducible first | exact HB.1 | apply below_alloc | apply pw_below_drewN | apply below_drew1) | exact HB.1)⟩⟩
                  · rw [if_neg c17] at H
                    have c17b0 : decide (a0 < t260) = false := decide_eq_false c17
                    clear c17
                    replace H := Option.bind_eq_some_iff.mp H
                    obtain ⟨t261, A190, H⟩ := H
                    replace H : (civil_Date.l2 k3 x6_3 (wrap64 (a0 - t261)) 1) = some (r1, r2, r3, r4) := H
                    have A19 := Aside0.mk A190
                    clear A190
                    obtain rfl : t260 = t261 := Option.some.inj (A16.out.symm.trans A19.out)
                    have H' := Aside0.mk H
                    clear H
                    go_wp2_with (first | ((with_reducible refine gate_callee (f := 64) rfl ?_); refine goesL_ (some 43) rfl rfl Tryd.func64 (by kernel_rfl) rfl #[.int .i64 x6_3] rfl (by (try simp only [List.map_toArray, List.map_cons, List.map_nil]); first | done | rfl | (simp only [List.length_drop, List.length_take]; rfl)) ?_; (with_reducible refine (civil_first.calls k3 x6_3 t260 _ A16.out).mono ?_); rintro e w20 ⟨rfl, hb⟩; refine ⟨_, rfl, ?_⟩; replace HB := Aside0.mk (below_step (by repeat (first | (with_reducible first | exact HB.1 | apply below_alloc | apply pw_below_drewN | apply below_drew1) | exact HB.1)) hb); (try clear hb); (try clear hb2); (try clear hk); (try clear hi)) | ((with_reducible refine gate_callee (f := 64) rfl ?_); refine goesL_ (some 50) rfl rfl Tryd.func64 (by kernel_rfl) rfl #[.int .i64 x6_3] rfl (by (try simp only [List.map_toArray, List.map_cons, List.map_nil]); first | done | rfl | (simp only [List.length_drop, List.length_take]; rfl)) ?_; (with_reducible refine (civil_first.calls k3 x6_3 t260 _ A19.out).mono ?_); rintro e w21 ⟨rfl, hb⟩; refine ⟨_, rfl, ?_⟩; replace HB := Aside0.mk (below_step (by repeat (first | (with_reducible first | exact HB.1 | apply below_alloc | apply pw_below_drewN | apply below_drew1) | exact HB.1)) hb); (try clear hb); (try clear hb2); (try clear hk); (try clear hi)))
                    go_loopg [11] k3 (fun kq v11 w' => ∃ (x11_4 : Int), v11 = .int .i64 x11_4 ∧ Aside0 (civil_Date.l2 kq x6_3 (wrap64 (a0 - t260)) x11_4 = some (r1, r2, r3, r4)) ∧ Aside0 (kq ≤ k3) ∧ Aside0 (Below w.heap.size w w'))
                    case atStart => exact ⟨(1), zs, H', ⟨Nat.le_refl _⟩, ⟨by repeat (first | (with_reducible first | exact HB.1 | apply below_alloc | apply pw_below_drewN | apply below_drew1) | exact HB.1)⟩⟩
                    case round =>
                      clear H'
                      try clear c1
                      try clear c2
                      try clear p2
                      try clear c3
                      try clear c3b0
                      try clear c4
                      try clear c6
                      try clear p6
                      try clear c8
                      try clear c8b0
                      try clear c17
                      try clear c17b0
                      try clear c20
                      try clear p2
                      try clear p6
                      obtain ⟨x11_4, rfl, HA, HK4, HB⟩ := hrel
                      cases gk with
                      | zero => exact absurd HA.1 (by simp [civil_Date.l2])
                      | succ k4 =>
                        have H := HA.1
                        clear HA
                        simp only [civil_Date.l2] at H
                        replace H := Option.bind_eq_some_iff.mp H
                        obtain ⟨t262, A220, H⟩ := H
                        replace H : (if (wrap64 (a0 - t260)) ≥ t262 then (civil_Date.l2 k4 x6_3 (wrap64 (a0 - t260)) (wrap64 (x11_4 + 1))) else ((civil_ahead.f x6_3 x11_4).bind fun t263 => (some (x6_3, x11_4, wrap64 ((wrap64 ((wrap64 (a0 - t260)) - t263)) + 1), true)))) = some (r1, r2, r3, r4) := H
                        have A22 := Aside0.mk A220
                        clear A220
                        by_cases c23 : (wrap64 (a0 - t260)) ≥ t262
                        · rw [if_pos c23] at H
                          have c23b0 : decide (t262 ≤ (wrap64 (a0 - t260))) = true := decide_eq_true c23
                          clear c23
                          have H' := Aside0.mk H
                          clear H
                          go_wp2_with (first | ((with_reducible refine gate_callee (f := 65) rfl ?_); refine goesL_ (some 56) rfl rfl Tryd.func65 (by kernel_rfl) rfl #[.int .i64 x6_3, .int .i64 (wrap64 (x11_4 + 1))] rfl (by (try simp only [List.map_toArray, List.map_cons, List.map_nil]); first | done | rfl | (simp only [List.length_drop, List.length_take]; rfl)) ?_; (with_reducible refine (civil_ahead.calls x6_3 (wrap64 (x11_4 + 1)) t262 _ (by first | exact hM | exact hM.below HB.1 | repeat (first | exact hM | exact hM.below HB.1 | apply GM.drewN | apply GM.drew)) A22.out).mono ?_); rintro e w' ⟨rfl, ⟨nd, rfl⟩⟩; refine ⟨_, rfl, ?_⟩))
                          go_roundg k4
                          case measure => have := HJ1.1; have := HK2.1; have := HK3.1; have := HK4.1; omega
                          case rel => exact ⟨(wrap64 (x11_4 + 1)), zs, H', ⟨by have := HJ1.1; have := HK2.1; have := HK3.1; have := HK4.1; omega⟩, ⟨by repeat (first | (with_reducible first | exact HB.1 | apply below_alloc | apply pw_below_drewN | apply below_drew1) | exact HB.1)⟩⟩
                        · rw [if_neg c23] at H
                          have c23b0 : decide (t262 ≤ (wrap64 (a0 - t260))) = false := decide_eq_false c23
                          clear c23
                          replace H := Option.bind_eq_some_iff.mp H
                          obtain ⟨t263, A240, H⟩ := H
                          replace H : (some (x6_3, x11_4, wrap64 ((wrap64 ((wrap64 (a0 - t260)) - t263)) + 1), true)) = some (r1, r2, r3, r4) := H
                          have A24 := Aside0.mk A240
                          clear A240
                          simp only [Option.some.injEq, Prod.mk.injEq] at H
                          obtain ⟨rfl, rfl, rfl, rfl⟩ := H
                          go_wp2_with (first | ((with_reducible refine gate_callee (f := 65) rfl ?_); refine goesL_ (some 56) rfl rfl Tryd.func65 (by kernel_rfl) rfl #[.int .i64 x6_3, .int .i64 (wrap64 (x11_4 + 1))] rfl (by (try simp only [List.map_toArray, List.map_cons, List.map_nil]); first | done | rfl | (simp only [List.length_drop, List.length_take]; rfl)) ?_; (with_reducible refine (civil_ahead.calls x6_3 (wrap64 (x11_4 + 1)) t262 _ (by first | exact hM | exact hM.below HB.1 | repeat (first | exact hM | exact hM.below HB.1 | apply GM.drewN | apply GM.drew)) A22.out).mono ?_); rintro e w' ⟨rfl, ⟨nd, rfl⟩⟩; refine ⟨_, rfl, ?_⟩) | ((with_reducible refine gate_callee (f := 65) rfl ?_); refine goesL_ (some 65) rfl rfl Tryd.func65 (by kernel_rfl) rfl #[.int .i64 x6_3, .int .i64 x11_4] rfl (by (try simp only [List.map_toArray, List.map_cons, List.map_nil]); first | done | rfl | (simp only [List.length_drop, List.length_take]; rfl)) ?_; (with_reducible refine (civil_ahead.calls x6_3 x11_4 t263 _ (by first | exact hM | exact hM.below HB.1 | repeat (first | exact hM | exact hM.below HB.1 | apply GM.drewN | apply GM.drew)) A24.out).mono ?_); rintro e w' ⟨rfl, ⟨nd, rfl⟩⟩; refine ⟨_, rfl, ?_⟩))
                          refine bodyPost_ret (results_list (rs := [.tmp 2, .tmp 3, .tmp 4, .tmp 5]) rfl (by simp) (.tmp (.tmp (.tmp (.tmp .nil))))) rfl ?_
                          exact ⟨by first | rfl | (simp [errW_none, errW_some] <;> rfl) | (simp [*, errW_none, errW_some] <;> rfl), by repeat (first | (with_reducible first | exact HB.1 | apply below_alloc | apply pw_below_drewN | apply below_drew1) | exact HB.1)⟩

end Go.Proofs.YtigkjbaclpklpaaDoor.Q
