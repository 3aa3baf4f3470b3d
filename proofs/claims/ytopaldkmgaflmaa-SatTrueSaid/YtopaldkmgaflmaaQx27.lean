/- The calls of these Go functions answer what the Lean functions beside them answer; written by a program (wip/pr2.py, out of the print of the loaded program); under no condition but those that stand in the theorems. -/
import Derived.Test.YtopaldkmgaflmaaQx0
import Derived.Test.YtopaldkmgaflmaaQx9
import Derived.Test.YtopaldkmgaflmaaQx11
import Derived.Test.YtopaldkmgaflmaaQx17
namespace Go.Proofs.Ytopaldkmgaflmaa.Q
open Go.RowKit Go.Proofs.YtopaldkmgaflmaaW.PrintWords Go.Proofs.YtopaldkmgaflmaaW.PrintLast Go.Proofs.YtopaldkmgaflmaaW.PrintMore
attribute [local go_sem] max2_int min2_int max_two min_two max_three min_three max_four min_four   -- for this text's walks alone
set_option linter.unusedVariables false
set_option linter.unusedSimpArgs false

/-! ### clepsydralaw01_SatTrue: function 13 -/
def clepsydralaw01_SatTrue.j0 : Nat → Int → Int → Int → Bool → Option (Bool)
  | 0, _, _, _, _ => none
  | k + 1, x5, x6, x7, x23 => if x23 = true then ((sat_Mul.f k x5 x6).bind fun t307 => ((sat_Abs.f k t307).bind fun t308 => (some (t308 == 2305843009213693952)))) else ((sat_Add.f k (([x5, x6] : List Int))).bind fun t312 => (if t312 = (wrap64 (x5 + x6)) then ((sat_Sub.f k x5 x6).bind fun t313 => (if t313 = (wrap64 (x5 - x6)) then ((sat_Mul.f k x5 x6).bind fun t314 => (some (t314 == x7))) else (some false))) else (some false)))
def clepsydralaw01_SatTrue.f (k : Nat) (a0 : Int) (a1 : Int) : Option (Bool) := (sat_Add.f k (([3, 4] : List Int))).bind fun t306 => (if t306 = 7 then (if (wrap64 ((wrap64 (a0)) * (wrap64 (a1)))) > 2305843009213693952 then (clepsydralaw01_SatTrue.j0 k (wrap64 (a0)) (wrap64 (a1)) (wrap64 ((wrap64 (a0)) * (wrap64 (a1)))) true) else (clepsydralaw01_SatTrue.j0 k (wrap64 (a0)) (wrap64 (a1)) (wrap64 ((wrap64 (a0)) * (wrap64 (a1)))) (decide ((wrap64 ((wrap64 (a0)) * (wrap64 (a1)))) < (-2305843009213693952))))) else (some false))
theorem clepsydralaw01_SatTrue.mono_l : ∀ k, (∀ y0 y1 y2 y3, LeO (clepsydralaw01_SatTrue.j0 k y0 y1 y2 y3) (clepsydralaw01_SatTrue.j0 (k + 1) y0 y1 y2 y3))
  | 0 => fun _ _ _ _ r h => by simp [clepsydralaw01_SatTrue.j0] at h
  | k + 1 => by
    have ih0 := clepsydralaw01_SatTrue.mono_l k
    · intro y0 y1 y2 y3
      unfold clepsydralaw01_SatTrue.j0
      repeat' first
      | (with_reducible exact ih0 _ _ _ _)
      | (with_reducible exact sat_Abs.mono _ _)
      | (with_reducible exact sat_Add.mono _ _)
      | (with_reducible exact sat_Mul.mono _ _ _)
      | (with_reducible exact sat_Sub.mono _ _ _)
      | (with_reducible exact LeO.refl _)
      | (with_reducible exact LeO.none _)
      | (with_reducible refine LeO.ite ?_ ?_)
      | (with_reducible refine LeO.bind ?_ (fun _ => ?_))
      | exact ih0 _ _ _ _
      | exact sat_Abs.mono _ _
      | exact sat_Add.mono _ _
      | exact sat_Mul.mono _ _ _
      | exact sat_Sub.mono _ _ _
      | exact LeO.none _
      | refine LeO.ite ?_ ?_
      | refine LeO.bind ?_ (fun _ => ?_)
theorem clepsydralaw01_SatTrue.mono : ∀ a0 a1 k, LeO (clepsydralaw01_SatTrue.f k a0 a1) (clepsydralaw01_SatTrue.f (k + 1) a0 a1) := by
  intro a0 a1 k
  have ih0 := clepsydralaw01_SatTrue.mono_l k
  unfold clepsydralaw01_SatTrue.f
  repeat' first
      | (with_reducible exact ih0 _ _ _ _)
      | (with_reducible exact sat_Abs.mono _ _)
      | (with_reducible exact sat_Add.mono _ _)
      | (with_reducible exact sat_Mul.mono _ _ _)
      | (with_reducible exact sat_Sub.mono _ _ _)
      | (with_reducible exact LeO.refl _)
      | (with_reducible exact LeO.none _)
      | (with_reducible refine LeO.ite ?_ ?_)
      | (with_reducible refine LeO.bind ?_ (fun _ => ?_))
      | exact ih0 _ _ _ _
      | exact sat_Abs.mono _ _
      | exact sat_Add.mono _ _
      | exact sat_Mul.mono _ _ _
      | exact sat_Sub.mono _ _ _
      | exact LeO.none _
      | refine LeO.ite ?_ ?_
      | refine LeO.bind ?_ (fun _ => ?_)
set_option maxHeartbeats 8000000 in
set_option maxRecDepth 100000 in
theorem clepsydralaw01_SatTrue.calls (k : Nat) (a0 : Int) (a1 : Int) (r : Bool) (w : World) (hT : Aside0 (r = true)) (h : clepsydralaw01_SatTrue.f k a0 a1 = some r) :
    Calls Try.prog 13 #[.int .i32 a0, .int .i32 a1] w fun e w' => e = .returned (.bool r) ∧ Below w.heap.size w w' := by
  have HB := Aside0.mk (Below.refl w.heap.size w)
  have H : ((sat_Add.f k (([3, 4] : List Int))).bind fun t306 => (if t306 = 7 then (if (wrap64 ((wrap64 (a0)) * (wrap64 (a1)))) > 2305843009213693952 then (clepsydralaw01_SatTrue.j0 k (wrap64 (a0)) (wrap64 (a1)) (wrap64 ((wrap64 (a0)) * (wrap64 (a1)))) true) else (clepsydralaw01_SatTrue.j0 k (wrap64 (a0)) (wrap64 (a1)) (wrap64 ((wrap64 (a0)) * (wrap64 (a1)))) (decide ((wrap64 ((wrap64 (a0)) * (wrap64 (a1)))) < (-2305843009213693952))))) else (some false))) = some r := h
  clear h
  obtain ⟨y303, hy303⟩ : ∃ y_ : List Int, y_ = (([3, 4] : List Int)) := ⟨_, rfl⟩
  replace H : ((sat_Add.f k y303).bind fun t306 => (if t306 = 7 then (if (wrap64 ((wrap64 (a0)) * (wrap64 (a1)))) > 2305843009213693952 then (clepsydralaw01_SatTrue.j0 k (wrap64 (a0)) (wrap64 (a1)) (wrap64 ((wrap64 (a0)) * (wrap64 (a1)))) true) else (clepsydralaw01_SatTrue.j0 k (wrap64 (a0)) (wrap64 (a1)) (wrap64 ((wrap64 (a0)) * (wrap64 (a1)))) (decide ((wrap64 ((wrap64 (a0)) * (wrap64 (a1)))) < (-2305843009213693952))))) else (some false))) = some r := by first | (rw [hy303]; with_reducible exact H) | (have H2_ := (Option.bind_some _ _).symm.trans H; rw [hy303]; with_reducible exact H2_) | (have H2_ := (Option.bind_some _ _).symm.trans H; with_reducible exact H2_) | with_reducible exact H | (rw [hy303]; exact H) | exact H
  have Ny303 := Aside0.mk hy303
  clear hy303
  replace H := Option.bind_eq_some_iff.mp H
  obtain ⟨t306, A30, H⟩ := H
  replace H : (if t306 = 7 then (if (wrap64 ((wrap64 (a0)) * (wrap64 (a1)))) > 2305843009213693952 then (clepsydralaw01_SatTrue.j0 k (wrap64 (a0)) (wrap64 (a1)) (wrap64 ((wrap64 (a0)) * (wrap64 (a1)))) true) else (clepsydralaw01_SatTrue.j0 k (wrap64 (a0)) (wrap64 (a1)) (wrap64 ((wrap64 (a0)) * (wrap64 (a1)))) (decide ((wrap64 ((wrap64 (a0)) * (wrap64 (a1)))) < (-2305843009213693952))))) else (some false)) = some r := H
  have A3 := Aside0.mk A30
  clear A30
  by_cases c4 : t306 = 7
  · rw [if_pos c4] at H
    have c4b0 : (t306 == 7) = true := beq_iff_eq.mpr c4
    have c4b1 : (t306 != 7) = false := bne_eq_false_iff_eq.mpr c4
    clear c4
    have HC5 := Aside0.mk H
    clear H
    go_enter Try.func13, Try.ntmps13
    go_upto_region 5 with (first | ((with_reducible refine gate_dst (N := 8) rfl ?_); refine Kd.R_lit (Kd.int .i64) _ 3 ?hg (N := 8) ?hd (xs := ([3, 4] : List Int)) (inner := [.int .i64 3, .int .i64 4]) (ok := fun _ => True) (okp := fun _ => True) ?hr ?hp (fun _ hk => hk) trivial (Below.refl _ _) (Nat.le_refl _) (by simp) ?_; (case hd => rfl); (case hg => rfl); (case hr => first | (go_simp; done) | (go_simp; rfl)); (case hp => exact (Reps.one (show Kd.M (Kd.int .i64) _ _ _ 3 [.int .i64 3] from rfl) (Reps.one (show Kd.M (Kd.int .i64) _ _ _ 4 [.int .i64 4] from rfl) (Reps.none _ _)))); intro v304 w6 ho7 hb hg_ hnew_; clear hg_ hnew_; (first | rw [← Ny303.out] at ho7 | (simp only [Int.reduceToNat] at ho7; rw [← Ny303.out] at ho7)); have n0_ := Aside0.mk (Kd.R_lower ho7 (below_size (by repeat (first | (with_reducible first | exact HB.out | apply below_alloc | apply pw_below_drewN | apply below_drew1) | exact HB.out)))); have n1_ := Aside0.mk (below_step (by repeat (first | (with_reducible first | exact HB.out | apply below_alloc | apply pw_below_drewN | apply below_drew1) | exact HB.out)) hb); clear HB; have HO305 := n0_; have HB := n1_; clear n0_ n1_; clear hb ho7; obtain ⟨Ao8, co8, eo8⟩ := Kd.R_slice HO305.out; subst eo8) | ((with_reducible refine gate_callee (f := 24) rfl ?_); refine goesL_ (some 9) rfl rfl Try.func24 (by kernel_rfl) rfl #[.slice Ao8 y303.length co8] rfl (by (try simp only [List.map_toArray, List.map_cons, List.map_nil]); first | done | rfl | (simp only [List.length_drop, List.length_take]; rfl)) ?_; (with_reducible refine (sat_Add.calls k _ _ y303 t306 _ ?side1 ?side2 A3.out).mono ?_); (case side1 => repeat (first | exact (Kd.R_reads' HO305.out).2.2 | (with_reducible refine Kd.C_alloc ?_ _) | (with_reducible refine Kd.C_drewN ?_ _) | (with_reducible refine Kd.C_drew ?_))); (case side2 => exact (Kd.R_reads' HO305.out).2.1); rintro e w' ⟨rfl, ⟨nd, rfl⟩⟩; refine ⟨_, rfl, ?_⟩))
    (try simp only [Act.put, List.setIfInBounds_toArray, List.set_cons_zero, List.set_cons_succ])
    go_cut [23] (fun v23 wc => ∃ (kq : Nat) (x23_4 : Bool), v23 = .bool x23_4 ∧ Aside0 (clepsydralaw01_SatTrue.j0 kq (wrap64 (a0)) (wrap64 (a1)) (wrap64 ((wrap64 (a0)) * (wrap64 (a1)))) x23_4 = some r) ∧ Aside0 (kq ≤ k) ∧ Aside0 (Below w.heap.size w wc))
    case first =>
      have H := HC5.out
      clear HC5
      by_cases c9 : (wrap64 ((wrap64 (a0)) * (wrap64 (a1)))) > 2305843009213693952
      · rw [if_pos c9] at H
        have c9b0 : decide (2305843009213693952 < (wrap64 ((wrap64 (a0)) * (wrap64 (a1))))) = true := decide_eq_true c9
        clear c9
        (first | rw [c9b0] | (simp only [i64_w, i32_w]; rw [c9b0]) | skip)
        have H' := Aside0.mk H
        clear H
        go_wp2
        go_meet
        case rel => exact ⟨_, (true), (by first | rfl | (simp; done) | (simp [*]; done) | (simp [Int.tdiv_eq_ediv_of_nonneg]; done) | (simp [Go.RowKit.wrap64]; done) | (simp [*, Go.RowKit.wrap64]; done)), H', ⟨by first | omega | exact Nat.le_refl _⟩, ⟨by repeat (first | (with_reducible first | exact HB.out | apply below_alloc | apply pw_below_drewN | apply below_drew1) | exact HB.out)⟩⟩
      · rw [if_neg c9] at H
        have c9b0 : decide (2305843009213693952 < (wrap64 ((wrap64 (a0)) * (wrap64 (a1))))) = false := decide_eq_false c9
        clear c9
        (first | rw [c9b0] | (simp only [i64_w, i32_w]; rw [c9b0]) | skip)
        have H' := Aside0.mk H
        clear H
        go_wp2
        go_meet
        case rel => exact ⟨_, (decide ((wrap64 ((wrap64 (a0)) * (wrap64 (a1)))) < (-2305843009213693952))), (by first | rfl | (simp; done) | (simp [*]; done) | (simp [Int.tdiv_eq_ediv_of_nonneg]; done) | (simp [Go.RowKit.wrap64]; done) | (simp [*, Go.RowKit.wrap64]; done)), H', ⟨by first | omega | exact Nat.le_refl _⟩, ⟨by repeat (first | (with_reducible first | exact HB.out | apply below_alloc | apply pw_below_drewN | apply below_drew1) | exact HB.out)⟩⟩
    case rest =>
      clear HC5
      try clear c1
      try clear c2
      try clear p2
      try clear c4
      try clear c4b0
      try clear c4b1
      try clear p6
      try clear c9
      try clear c9b0
      obtain ⟨kq, x23_4, rfl, HA, HJ4, HB⟩ := hcut
      cases kq with
      | zero => exact absurd HA.out (by simp [clepsydralaw01_SatTrue.j0])
      | succ kj4 =>
        have H := HA.out
        clear HA
        simp only [clepsydralaw01_SatTrue.j0] at H
        by_cases c10 : x23_4 = true
        · subst c10
          have H1 : ((sat_Mul.f kj4 (wrap64 (a0)) (wrap64 (a1))).bind fun t307 => ((sat_Abs.f kj4 t307).bind fun t308 => (some (t308 == 2305843009213693952)))) = some r := by rw [if_pos rfl] at H; exact H
          clear H
          have H := H1
          clear H1
          replace H := Option.bind_eq_some_iff.mp H
          obtain ⟨t307, A110, H⟩ := H
          replace H : ((sat_Abs.f kj4 t307).bind fun t308 => (some (t308 == 2305843009213693952))) = some r := H
          have A11 := Aside0.mk A110
          clear A110
          replace H := Option.bind_eq_some_iff.mp H
          obtain ⟨t308, A120, H⟩ := H
          replace H : (some (t308 == 2305843009213693952)) = some r := H
          have A12 := Aside0.mk A120
          clear A120
          obtain rfl := Option.some.inj H
          go_wp2_with (first | ((with_reducible refine gate_callee (f := 34) rfl ?_); refine goesL_ (some 26) rfl rfl Try.func34 (by kernel_rfl) rfl #[.int .i64 (wrap64 (a0)), .int .i64 (wrap64 (a1))] rfl (by (try simp only [List.map_toArray, List.map_cons, List.map_nil]); first | done | rfl | (simp only [List.length_drop, List.length_take]; rfl)) ?_; (with_reducible refine (sat_Mul.calls kj4 (wrap64 (a0)) (wrap64 (a1)) t307 _ A11.out).mono ?_); rintro e w' ⟨rfl, ⟨nd, rfl⟩⟩; refine ⟨_, rfl, ?_⟩) | ((with_reducible refine gate_callee (f := 22) rfl ?_); refine goesL_ (some 27) rfl rfl Try.func22 (by kernel_rfl) rfl #[.int .i64 t307] rfl (by (try simp only [List.map_toArray, List.map_cons, List.map_nil]); first | done | rfl | (simp only [List.length_drop, List.length_take]; rfl)) ?_; (with_reducible refine (sat_Abs.calls kj4 t307 t308 _ A12.out).mono ?_); rintro e w' ⟨rfl, ⟨nd, rfl⟩⟩; refine ⟨_, rfl, ?_⟩))
          go_ret
          exact ⟨by first | rfl | (simp [errW_none, errW_some] <;> rfl) | (simp [*, errW_none, errW_some] <;> rfl), by repeat (first | (with_reducible first | exact HB.out | apply below_alloc | apply pw_below_drewN | apply below_drew1) | exact HB.out)⟩
        · replace c10 := Bool.eq_false_iff.mpr c10
          subst c10
          have H1 : ((sat_Add.f kj4 (([(wrap64 (a0)), (wrap64 (a1))] : List Int))).bind fun t312 => (if t312 = (wrap64 ((wrap64 (a0)) + (wrap64 (a1)))) then ((sat_Sub.f kj4 (wrap64 (a0)) (wrap64 (a1))).bind fun t313 => (if t313 = (wrap64 ((wrap64 (a0)) - (wrap64 (a1)))) then ((sat_Mul.f kj4 (wrap64 (a0)) (wrap64 (a1))).bind fun t314 => (some (t314 == (wrap64 ((wrap64 (a0)) * (wrap64 (a1))))))) else (some false))) else (some false))) = some r := by rw [if_neg (show ¬ (false = true) by decide)] at H; exact H
          clear H
          have H := H1
          clear H1
          obtain ⟨y309, hy309⟩ : ∃ y_ : List Int, y_ = (([(wrap64 (a0)), (wrap64 (a1))] : List Int)) := ⟨_, rfl⟩
          replace H : ((sat_Add.f kj4 y309).bind fun t312 => (if t312 = (wrap64 ((wrap64 (a0)) + (wrap64 (a1)))) then ((sat_Sub.f kj4 (wrap64 (a0)) (wrap64 (a1))).bind fun t313 => (if t313 = (wrap64 ((wrap64 (a0)) - (wrap64 (a1)))) then ((sat_Mul.f kj4 (wrap64 (a0)) (wrap64 (a1))).bind fun t314 => (some (t314 == (wrap64 ((wrap64 (a0)) * (wrap64 (a1))))))) else (some false))) else (some false))) = some r := by first | (rw [hy309]; with_reducible exact H) | (have H2_ := (Option.bind_some _ _).symm.trans H; rw [hy309]; with_reducible exact H2_) | (have H2_ := (Option.bind_some _ _).symm.trans H; with_reducible exact H2_) | with_reducible exact H | (rw [hy309]; exact H) | exact H
          have Ny309 := Aside0.mk hy309
          clear hy309
          replace H := Option.bind_eq_some_iff.mp H
          obtain ⟨t312, A130, H⟩ := H
          replace H : (if t312 = (wrap64 ((wrap64 (a0)) + (wrap64 (a1)))) then ((sat_Sub.f kj4 (wrap64 (a0)) (wrap64 (a1))).bind fun t313 => (if t313 = (wrap64 ((wrap64 (a0)) - (wrap64 (a1)))) then ((sat_Mul.f kj4 (wrap64 (a0)) (wrap64 (a1))).bind fun t314 => (some (t314 == (wrap64 ((wrap64 (a0)) * (wrap64 (a1))))))) else (some false))) else (some false)) = some r := H
          have A13 := Aside0.mk A130
          clear A130
          by_cases c14 : t312 = (wrap64 ((wrap64 (a0)) + (wrap64 (a1))))
          · rw [if_pos c14] at H
            have c14b0 : (t312 == (wrap64 ((wrap64 (a0)) + (wrap64 (a1))))) = true := beq_iff_eq.mpr c14
            have c14b1 : (t312 != (wrap64 ((wrap64 (a0)) + (wrap64 (a1))))) = false := bne_eq_false_iff_eq.mpr c14
            clear c14
            replace H := Option.bind_eq_some_iff.mp H
            obtain ⟨t313, A150, H⟩ := H
            replace H : (if t313 = (wrap64 ((wrap64 (a0)) - (wrap64 (a1)))) then ((sat_Mul.f kj4 (wrap64 (a0)) (wrap64 (a1))).bind fun t314 => (some (t314 == (wrap64 ((wrap64 (a0)) * (wrap64 (a1))))))) else (some false)) = some r := H
            have A15 := Aside0.mk A150
            clear A150
            by_cases c16 : t313 = (wrap64 ((wrap64 (a0)) - (wrap64 (a1))))
            · rw [if_pos c16] at H
              have c16b0 : (t313 == (wrap64 ((wrap64 (a0)) - (wrap64 (a1))))) = true := beq_iff_eq.mpr c16
              have c16b1 : (t313 != (wrap64 ((wrap64 (a0)) - (wrap64 (a1))))) = false := bne_eq_false_iff_eq.mpr c16
              clear c16
              replace H := Option.bind_eq_some_iff.mp H
              obtain ⟨t314, A170, H⟩ := H
              replace H : (some (t314 == (wrap64 ((wrap64 (a0)) * (wrap64 (a1)))))) = some r := H
              have A17 := Aside0.mk A170
              clear A170
              obtain rfl := Option.some.inj H
              go_wp2_with (first | ((with_reducible refine gate_dst (N := 31) rfl ?_); refine Kd.R_lit (Kd.int .i64) _ 3 ?hg (N := 31) ?hd (xs := ([(wrap64 (a0)), (wrap64 (a1))] : List Int)) (inner := [.int .i64 (wrap64 (a0)), .int .i64 (wrap64 (a1))]) (ok := fun _ => True) (okp := fun _ => True) ?hr ?hp (fun _ hk => hk) trivial (Below.refl _ _) (Nat.le_refl _) (by simp) ?_; (case hd => rfl); (case hg => rfl); (case hr => first | (go_simp; done) | (go_simp; rfl)); (case hp => exact (Reps.one (show Kd.M (Kd.int .i64) _ _ _ (wrap64 (a0)) [.int .i64 (wrap64 (a0))] from rfl) (Reps.one (show Kd.M (Kd.int .i64) _ _ _ (wrap64 (a1)) [.int .i64 (wrap64 (a1))] from rfl) (Reps.none _ _)))); intro v310 w18 ho19 hb hg_ hnew_; clear hg_ hnew_; (first | rw [← Ny309.out] at ho19 | (simp only [Int.reduceToNat] at ho19; rw [← Ny309.out] at ho19)); have n0_ := Aside0.mk (Kd.R_lower ho19 (below_size (by repeat (first | (with_reducible first | exact HB.out | apply below_alloc | apply pw_below_drewN | apply below_drew1) | exact HB.out)))); have n1_ := Aside0.mk (below_step (by repeat (first | (with_reducible first | exact HB.out | apply below_alloc | apply pw_below_drewN | apply below_drew1) | exact HB.out)) hb); clear HB; have HO311 := n0_; have HB := n1_; clear n0_ n1_; clear hb ho19; obtain ⟨Ao20, co20, eo20⟩ := Kd.R_slice HO311.out; subst eo20) | ((with_reducible refine gate_callee (f := 24) rfl ?_); refine goesL_ (some 32) rfl rfl Try.func24 (by kernel_rfl) rfl #[.slice Ao20 y309.length co20] rfl (by (try simp only [List.map_toArray, List.map_cons, List.map_nil]); first | done | rfl | (simp only [List.length_drop, List.length_take]; rfl)) ?_; (with_reducible refine (sat_Add.calls kj4 _ _ y309 t312 _ ?side1 ?side2 A13.out).mono ?_); (case side1 => repeat (first | exact (Kd.R_reads' HO311.out).2.2 | (with_reducible refine Kd.C_alloc ?_ _) | (with_reducible refine Kd.C_drewN ?_ _) | (with_reducible refine Kd.C_drew ?_))); (case side2 => exact (Kd.R_reads' HO311.out).2.1); rintro e w' ⟨rfl, ⟨nd, rfl⟩⟩; refine ⟨_, rfl, ?_⟩) | (go_at_call 26; (with_reducible refine (sat_Sub.calls kj4 (wrap64 (a0)) (wrap64 (a1)) t313 _ A15.out).mono ?_); rintro e w' ⟨rfl, ⟨nd, rfl⟩⟩) | (go_at_call 34; (with_reducible refine (sat_Mul.calls kj4 (wrap64 (a0)) (wrap64 (a1)) t314 _ A17.out).mono ?_); rintro e w' ⟨rfl, ⟨nd, rfl⟩⟩))
              go_ret
              exact ⟨by first | rfl | (simp [errW_none, errW_some] <;> rfl) | (simp [*, errW_none, errW_some] <;> rfl), by repeat (first | (with_reducible first | exact HB.out | apply below_alloc | apply pw_below_drewN | apply below_drew1) | exact HB.out)⟩
            · rw [if_neg c16] at H
              have c16b0 : (t313 == (wrap64 ((wrap64 (a0)) - (wrap64 (a1))))) = false := beq_eq_false_iff_ne.mpr c16
              have c16b1 : (t313 != (wrap64 ((wrap64 (a0)) - (wrap64 (a1))))) = true := bne_iff_ne.mpr c16
              exact absurd ((Option.some.inj H).trans hT.out) (by decide)
          · rw [if_neg c14] at H
            have c14b0 : (t312 == (wrap64 ((wrap64 (a0)) + (wrap64 (a1))))) = false := beq_eq_false_iff_ne.mpr c14
            have c14b1 : (t312 != (wrap64 ((wrap64 (a0)) + (wrap64 (a1))))) = true := bne_iff_ne.mpr c14
            exact absurd ((Option.some.inj H).trans hT.out) (by decide)
  · rw [if_neg c4] at H
    have c4b0 : (t306 == 7) = false := beq_eq_false_iff_ne.mpr c4
    have c4b1 : (t306 != 7) = true := bne_iff_ne.mpr c4
    exact absurd ((Option.some.inj H).trans hT.out) (by decide)

end Go.Proofs.Ytopaldkmgaflmaa.Q
