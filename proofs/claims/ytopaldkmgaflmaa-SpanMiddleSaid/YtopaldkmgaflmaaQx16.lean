/- The calls of these Go functions answer what the Lean functions beside them answer; written by a program (wip/pr2.py, out of the print of the loaded program); under no condition but those that stand in the theorems. -/
import Derived.Test.YtopaldkmgaflmaaQx0
import Derived.Test.YtopaldkmgaflmaaQx15
namespace Go.Proofs.Ytopaldkmgaflmaa.Q
open Go.RowKit Go.Proofs.YtopaldkmgaflmaaW.PrintWords Go.Proofs.YtopaldkmgaflmaaW.PrintLast Go.Proofs.YtopaldkmgaflmaaW.PrintMore
attribute [local go_sem] max2_int min2_int max_two min_two max_three min_three max_four min_four   -- for this text's walks alone
set_option linter.unusedVariables false
set_option linter.unusedSimpArgs false

/-! ### clepsydralaw03_SpanMiddle: function 8 -/
def clepsydralaw03_SpanMiddle.j0 : Nat → Bool → Int → Int → Option (Bool)
  | 0, _, _, _ => none
  | k + 1, x21, x213000, x213001 => if x21 = true then (some true) else ((span_Mid.f k x213000 x213001).bind fun t214 => ((span_Has.f x213000 x213001 t214).bind fun t215 => (if t215 = true then (if (wrap64 (t214 - x213000)) ≤ (wrap64 ((wrap64 (Int.tdiv (wrap64 (x213001 - x213000)) 2)) + (Int.tmod (wrap64 (x213001 - x213000)) 2))) then (some (decide ((wrap64 (x213001 - t214)) ≤ (wrap64 ((wrap64 (Int.tdiv (wrap64 (x213001 - x213000)) 2)) + (Int.tmod (wrap64 (x213001 - x213000)) 2)))))) else (some false)) else (some false))))
def clepsydralaw03_SpanMiddle.f (k : Nat) (a0_0 : Int) (a0_1 : Int) : Option (Bool) := (clepsydralaw03_alive.f k).bind fun t213 => (if t213 = true then (if a0_0 > a0_1 then (clepsydralaw03_SpanMiddle.j0 k true a0_0 a0_1) else (if a0_0 < (-2305843009213693952) then (clepsydralaw03_SpanMiddle.j0 k true a0_0 a0_1) else (clepsydralaw03_SpanMiddle.j0 k (decide (a0_1 > 2305843009213693952)) a0_0 a0_1))) else (some false))
theorem clepsydralaw03_SpanMiddle.mono_l : ∀ k, (∀ y0 y1 y2, LeO (clepsydralaw03_SpanMiddle.j0 k y0 y1 y2) (clepsydralaw03_SpanMiddle.j0 (k + 1) y0 y1 y2))
  | 0 => fun _ _ _ r h => by simp [clepsydralaw03_SpanMiddle.j0] at h
  | k + 1 => by
    have ih0 := clepsydralaw03_SpanMiddle.mono_l k
    · intro y0 y1 y2
      unfold clepsydralaw03_SpanMiddle.j0
      repeat' first
      | (with_reducible exact ih0 _ _ _)
      | (with_reducible exact clepsydralaw03_alive.mono _)
      | (with_reducible exact span_Mid.mono _ _ _)
      | (with_reducible exact LeO.refl _)
      | (with_reducible exact LeO.none _)
      | (with_reducible refine LeO.ite ?_ ?_)
      | (with_reducible refine LeO.bind ?_ (fun _ => ?_))
      | exact ih0 _ _ _
      | exact clepsydralaw03_alive.mono _
      | exact span_Mid.mono _ _ _
      | exact LeO.none _
      | refine LeO.ite ?_ ?_
      | refine LeO.bind ?_ (fun _ => ?_)
theorem clepsydralaw03_SpanMiddle.mono : ∀ a0 a1 k, LeO (clepsydralaw03_SpanMiddle.f k a0 a1) (clepsydralaw03_SpanMiddle.f (k + 1) a0 a1) := by
  intro a0 a1 k
  have ih0 := clepsydralaw03_SpanMiddle.mono_l k
  unfold clepsydralaw03_SpanMiddle.f
  repeat' first
      | (with_reducible exact ih0 _ _ _)
      | (with_reducible exact clepsydralaw03_alive.mono _)
      | (with_reducible exact span_Mid.mono _ _ _)
      | (with_reducible exact LeO.refl _)
      | (with_reducible exact LeO.none _)
      | (with_reducible refine LeO.ite ?_ ?_)
      | (with_reducible refine LeO.bind ?_ (fun _ => ?_))
      | exact ih0 _ _ _
      | exact clepsydralaw03_alive.mono _
      | exact span_Mid.mono _ _ _
      | exact LeO.none _
      | refine LeO.ite ?_ ?_
      | refine LeO.bind ?_ (fun _ => ?_)
set_option maxHeartbeats 8000000 in
set_option maxRecDepth 100000 in
theorem clepsydralaw03_SpanMiddle.calls (k : Nat) (a0_0 : Int) (a0_1 : Int) (r : Bool) (w : World) (hT : Aside0 (r = true)) (h : clepsydralaw03_SpanMiddle.f k a0_0 a0_1 = some r) :
    Calls Try.prog 8 #[.agg #[.int .i64 a0_0, .int .i64 a0_1]] w fun e w' => e = .returned (.bool r) ∧ Below w.heap.size w w' := by
  have hu38 := Try.underlying38
  have HB := Aside0.mk (Below.refl w.heap.size w)
  have H : ((clepsydralaw03_alive.f k).bind fun t213 => (if t213 = true then (if a0_0 > a0_1 then (clepsydralaw03_SpanMiddle.j0 k true a0_0 a0_1) else (if a0_0 < (-2305843009213693952) then (clepsydralaw03_SpanMiddle.j0 k true a0_0 a0_1) else (clepsydralaw03_SpanMiddle.j0 k (decide (a0_1 > 2305843009213693952)) a0_0 a0_1))) else (some false))) = some r := h
  clear h
  replace H := Option.bind_eq_some_iff.mp H
  obtain ⟨t213, A20, H⟩ := H
  replace H : (if t213 = true then (if a0_0 > a0_1 then (clepsydralaw03_SpanMiddle.j0 k true a0_0 a0_1) else (if a0_0 < (-2305843009213693952) then (clepsydralaw03_SpanMiddle.j0 k true a0_0 a0_1) else (clepsydralaw03_SpanMiddle.j0 k (decide (a0_1 > 2305843009213693952)) a0_0 a0_1))) else (some false)) = some r := H
  have A2 := Aside0.mk A20
  clear A20
  by_cases c3 : t213 = true
  · subst c3
    have H1 : (if a0_0 > a0_1 then (clepsydralaw03_SpanMiddle.j0 k true a0_0 a0_1) else (if a0_0 < (-2305843009213693952) then (clepsydralaw03_SpanMiddle.j0 k true a0_0 a0_1) else (clepsydralaw03_SpanMiddle.j0 k (decide (a0_1 > 2305843009213693952)) a0_0 a0_1))) = some r := by rw [if_pos rfl] at H; exact H
    clear H
    have H := H1
    clear H1
    have HC4 := Aside0.mk H
    clear H
    go_enter Try.func8, Try.ntmps8
    go_upto_region 3 with (first | ((with_reducible refine gate_dst (N := 1) rfl ?_); refine box_event ?hg (N := 1) ?hd (cs := #[.int .i64 a0_0, .int .i64 a0_1]) (t := 38) ?hr ?_; (case hd => rfl); (case hg => rfl); (case hr => first | (go_simp; done) | (go_simp; rfl)); intro gb212 hg w5 hbox hb; have n0_ := Aside0.mk (below_step (by repeat (first | (with_reducible first | exact HB.out | apply below_alloc | apply pw_below_drewN | apply below_drew1) | exact HB.out)) hb); have n1_ := Aside0.mk (hbox); have n2_ := Aside0.mk ((by rw [hg]; exact (below_size (by repeat (first | (with_reducible first | exact HB.out | apply below_alloc | apply pw_below_drewN | apply below_drew1) | exact HB.out))) : w.heap.size ≤ gb212)); have n3_ := Aside0.mk ((by rw [hg]; exact (below_size (by repeat (first | (with_reducible first | exact HB.out | apply below_alloc | apply pw_below_drewN | apply below_drew1) | exact HB.out))) : w.heap.size ≤ gb212)); clear HB; have HB := n0_; have BK212 := n1_; have GW212 := n2_; have GE212 := n3_; clear n0_ n1_ n2_ n3_; clear hb hbox hg) | ((with_reducible refine gate_callee (f := 31) rfl ?_); refine goesL_ (some 5) rfl rfl Try.func31 (by kernel_rfl) rfl #[] rfl (by (try simp only [List.map_toArray, List.map_cons, List.map_nil]); first | done | rfl | (simp only [List.length_drop, List.length_take]; rfl)) ?_; (with_reducible refine (clepsydralaw03_alive.calls k  true _ A2.out).mono ?_); rintro e w6 ⟨rfl, hb⟩; refine ⟨_, rfl, ?_⟩; have n0_ := Aside0.mk (blk_below (g := gb212) (o := .cells #[.int .i64 a0_0, .int .i64 a0_1] 38 (0, 0)) (by (with_reducible repeat (first | refine blk_drewN ?_ _ | refine blk_drew ?_ | refine blk_alloc ?_ _)); exact BK212.out) hb); have n1_ := Aside0.mk (below_step (by repeat (first | (with_reducible first | exact HB.out | apply below_alloc | apply pw_below_drewN | apply below_drew1 | refine below_set ?_ GE212.out) | exact HB.out)) hb); clear BK212; clear HB; have BK212 := n0_; have HB := n1_; clear n0_ n1_; (try clear hb); (try clear hb2); (try clear hk); (try clear hi)))
    (try simp only [Act.put, List.setIfInBounds_toArray, List.set_cons_zero, List.set_cons_succ])
    go_cut [21] (fun v21 wc => ∃ (kq : Nat) (x21_3 : Bool), v21 = .bool x21_3 ∧ Aside0 (clepsydralaw03_SpanMiddle.j0 kq x21_3 a0_0 a0_1 = some r) ∧ Aside0 (kq ≤ k) ∧ Aside0 (wc.heap[gb212]? = some (.cells #[.int .i64 a0_0, .int .i64 a0_1] 38 (0, 0))) ∧ Aside0 (Below w.heap.size w wc))
    case first =>
      have H := HC4.out
      clear HC4
      by_cases c7 : a0_0 > a0_1
      · rw [if_pos c7] at H
        have c7b0 : decide (a0_1 < a0_0) = true := decide_eq_true c7
        clear c7
        (first | rw [c7b0] | (simp only [i64_w, i32_w]; rw [c7b0]) | skip)
        have H' := Aside0.mk H
        clear H
        have hcz8_0 : w6.cell? ⟨gb212, 0, none⟩ = some (.int .i64 a0_0) := (blk_cell BK212.out 0).trans rfl
        have hcz8_1 : w6.cell? ⟨gb212, 1, none⟩ = some (.int .i64 a0_1) := (blk_cell BK212.out 1).trans rfl
        have hfz8_0 := blk_frozen BK212.out 0
        have hfz8_1 := blk_frozen BK212.out 1
        go_wp2
        go_meet
        case rel => exact ⟨_, (true), (by first | rfl | (simp; done) | (simp [*]; done) | (simp [Int.tdiv_eq_ediv_of_nonneg]; done) | (simp [Go.RowKit.wrap64]; done) | (simp [*, Go.RowKit.wrap64]; done)), H', ⟨by first | omega | exact Nat.le_refl _⟩, ⟨by (with_reducible repeat (first | refine blk_drewN ?_ _ | refine blk_drew ?_ | refine blk_alloc ?_ _)); exact BK212.out⟩, ⟨by repeat (first | (with_reducible first | exact HB.out | apply below_alloc | apply pw_below_drewN | apply below_drew1 | refine below_set ?_ GE212.out) | exact HB.out)⟩⟩
      · rw [if_neg c7] at H
        have c7b0 : decide (a0_1 < a0_0) = false := decide_eq_false c7
        clear c7
        (first | rw [c7b0] | (simp only [i64_w, i32_w]; rw [c7b0]) | skip)
        by_cases c9 : a0_0 < (-2305843009213693952)
        · rw [if_pos c9] at H
          have c9b0 : decide (a0_0 < (-2305843009213693952)) = true := decide_eq_true c9
          clear c9
          have H' := Aside0.mk H
          clear H
          have hcz10_0 : w6.cell? ⟨gb212, 0, none⟩ = some (.int .i64 a0_0) := (blk_cell BK212.out 0).trans rfl
          have hcz10_1 : w6.cell? ⟨gb212, 1, none⟩ = some (.int .i64 a0_1) := (blk_cell BK212.out 1).trans rfl
          have hfz10_0 := blk_frozen BK212.out 0
          have hfz10_1 := blk_frozen BK212.out 1
          go_wp2
          go_meet
          case rel => exact ⟨_, (true), (by first | rfl | (simp; done) | (simp [*]; done) | (simp [Int.tdiv_eq_ediv_of_nonneg]; done) | (simp [Go.RowKit.wrap64]; done) | (simp [*, Go.RowKit.wrap64]; done)), H', ⟨by first | omega | exact Nat.le_refl _⟩, ⟨by (with_reducible repeat (first | refine blk_drewN ?_ _ | refine blk_drew ?_ | refine blk_alloc ?_ _)); exact BK212.out⟩, ⟨by repeat (first | (with_reducible first | exact HB.out | apply below_alloc | apply pw_below_drewN | apply below_drew1 | refine below_set ?_ GE212.out) | exact HB.out)⟩⟩
        · rw [if_neg c9] at H
          have c9b0 : decide (a0_0 < (-2305843009213693952)) = false := decide_eq_false c9
          clear c9
          have H' := Aside0.mk H
          clear H
          have hcz11_0 : w6.cell? ⟨gb212, 0, none⟩ = some (.int .i64 a0_0) := (blk_cell BK212.out 0).trans rfl
          have hcz11_1 : w6.cell? ⟨gb212, 1, none⟩ = some (.int .i64 a0_1) := (blk_cell BK212.out 1).trans rfl
          have hfz11_0 := blk_frozen BK212.out 0
          have hfz11_1 := blk_frozen BK212.out 1
          go_wp2
          go_meet
          case rel => exact ⟨_, (decide (a0_1 > 2305843009213693952)), (by first | rfl | (simp; done) | (simp [*]; done) | (simp [Int.tdiv_eq_ediv_of_nonneg]; done) | (simp [Go.RowKit.wrap64]; done) | (simp [*, Go.RowKit.wrap64]; done)), H', ⟨by first | omega | exact Nat.le_refl _⟩, ⟨by (with_reducible repeat (first | refine blk_drewN ?_ _ | refine blk_drew ?_ | refine blk_alloc ?_ _)); exact BK212.out⟩, ⟨by repeat (first | (with_reducible first | exact HB.out | apply below_alloc | apply pw_below_drewN | apply below_drew1 | refine below_set ?_ GE212.out) | exact HB.out)⟩⟩
    case rest =>
      clear HC4
      try clear p2
      try clear c3
      try clear c7
      try clear c7b0
      try clear c8
      try clear c9
      try clear c9b0
      try clear hcz10_0
      try clear hcz10_1
      try clear hcz11_0
      try clear hcz11_1
      try clear hcz8_0
      try clear hcz8_1
      try clear hfz10_0
      try clear hfz10_1
      try clear hfz11_0
      try clear hfz11_1
      try clear hfz8_0
      try clear hfz8_1
      obtain ⟨kq, x21_3, rfl, HA, HJ3, BK212, HB⟩ := hcut
      cases kq with
      | zero => exact absurd HA.out (by simp [clepsydralaw03_SpanMiddle.j0])
      | succ kj3 =>
        have H := HA.out
        clear HA
        simp only [clepsydralaw03_SpanMiddle.j0] at H
        by_cases c12 : x21_3 = true
        · subst c12
          have H1 : (some true) = some r := by rw [if_pos rfl] at H; exact H
          clear H
          have H := H1
          clear H1
          obtain rfl := Option.some.inj H
          go_wp2
          go_ret
          exact ⟨by first | rfl | (simp [errW_none, errW_some] <;> rfl) | (simp [*, errW_none, errW_some] <;> rfl), by repeat (first | (with_reducible first | exact HB.out | apply below_alloc | apply pw_below_drewN | apply below_drew1 | refine below_set ?_ GE212.out) | exact HB.out)⟩
        · replace c12 := Bool.eq_false_iff.mpr c12
          subst c12
          have H1 : ((span_Mid.f kj3 a0_0 a0_1).bind fun t214 => ((span_Has.f a0_0 a0_1 t214).bind fun t215 => (if t215 = true then (if (wrap64 (t214 - a0_0)) ≤ (wrap64 ((wrap64 (Int.tdiv (wrap64 (a0_1 - a0_0)) 2)) + (Int.tmod (wrap64 (a0_1 - a0_0)) 2))) then (some (decide ((wrap64 (a0_1 - t214)) ≤ (wrap64 ((wrap64 (Int.tdiv (wrap64 (a0_1 - a0_0)) 2)) + (Int.tmod (wrap64 (a0_1 - a0_0)) 2)))))) else (some false)) else (some false)))) = some r := by rw [if_neg (show ¬ (false = true) by decide)] at H; exact H
          clear H
          have H := H1
          clear H1
          replace H := Option.bind_eq_some_iff.mp H
          obtain ⟨t214, A130, H⟩ := H
          replace H : ((span_Has.f a0_0 a0_1 t214).bind fun t215 => (if t215 = true then (if (wrap64 (t214 - a0_0)) ≤ (wrap64 ((wrap64 (Int.tdiv (wrap64 (a0_1 - a0_0)) 2)) + (Int.tmod (wrap64 (a0_1 - a0_0)) 2))) then (some (decide ((wrap64 (a0_1 - t214)) ≤ (wrap64 ((wrap64 (Int.tdiv (wrap64 (a0_1 - a0_0)) 2)) + (Int.tmod (wrap64 (a0_1 - a0_0)) 2)))))) else (some false)) else (some false))) = some r := H
          have A13 := Aside0.mk A130
          clear A130
          replace H := Option.bind_eq_some_iff.mp H
          obtain ⟨t215, A140, H⟩ := H
          replace H : (if t215 = true then (if (wrap64 (t214 - a0_0)) ≤ (wrap64 ((wrap64 (Int.tdiv (wrap64 (a0_1 - a0_0)) 2)) + (Int.tmod (wrap64 (a0_1 - a0_0)) 2))) then (some (decide ((wrap64 (a0_1 - t214)) ≤ (wrap64 ((wrap64 (Int.tdiv (wrap64 (a0_1 - a0_0)) 2)) + (Int.tmod (wrap64 (a0_1 - a0_0)) 2)))))) else (some false)) else (some false)) = some r := H
          have A14 := Aside0.mk A140
          clear A140
          by_cases c15 : t215 = true
          · subst c15
            have H1 : (if (wrap64 (t214 - a0_0)) ≤ (wrap64 ((wrap64 (Int.tdiv (wrap64 (a0_1 - a0_0)) 2)) + (Int.tmod (wrap64 (a0_1 - a0_0)) 2))) then (some (decide ((wrap64 (a0_1 - t214)) ≤ (wrap64 ((wrap64 (Int.tdiv (wrap64 (a0_1 - a0_0)) 2)) + (Int.tmod (wrap64 (a0_1 - a0_0)) 2)))))) else (some false)) = some r := by rw [if_pos rfl] at H; exact H
            clear H
            have H := H1
            clear H1
            by_cases c16 : (wrap64 (t214 - a0_0)) ≤ (wrap64 ((wrap64 (Int.tdiv (wrap64 (a0_1 - a0_0)) 2)) + (Int.tmod (wrap64 (a0_1 - a0_0)) 2)))
            · rw [if_pos c16] at H
              have c16b0 : decide ((wrap64 (t214 - a0_0)) ≤ (wrap64 ((wrap64 (Int.tdiv (wrap64 (a0_1 - a0_0)) 2)) + (Int.tmod (wrap64 (a0_1 - a0_0)) 2)))) = true := decide_eq_true c16
              clear c16
              obtain rfl := Option.some.inj H
              have hcz17_0 : wc.cell? ⟨gb212, 0, none⟩ = some (.int .i64 a0_0) := (blk_cell BK212.out 0).trans rfl
              have hcz17_1 : wc.cell? ⟨gb212, 1, none⟩ = some (.int .i64 a0_1) := (blk_cell BK212.out 1).trans rfl
              have hfz17_0 := blk_frozen BK212.out 0
              have hfz17_1 := blk_frozen BK212.out 1
              go_wp2_with (first | ((with_reducible refine gate_callee (f := 32) rfl ?_); refine goesL_ (some 23) rfl rfl Try.func32 (by kernel_rfl) rfl #[.agg #[.int .i64 a0_0, .int .i64 a0_1]] rfl (by (try simp only [List.map_toArray, List.map_cons, List.map_nil]); first | done | rfl | (simp only [List.length_drop, List.length_take]; rfl)) ?_; (with_reducible refine (span_Mid.calls kj3 a0_0 a0_1 t214 _ A13.out).mono ?_); rintro e w18 ⟨rfl, hb⟩; refine ⟨_, rfl, ?_⟩; have n0_ := Aside0.mk (blk_below (g := gb212) (o := .cells #[.int .i64 a0_0, .int .i64 a0_1] 38 (0, 0)) (by (with_reducible repeat (first | refine blk_drewN ?_ _ | refine blk_drew ?_ | refine blk_alloc ?_ _)); exact BK212.out) hb); have n1_ := Aside0.mk (below_step (by repeat (first | (with_reducible first | exact HB.out | apply below_alloc | apply pw_below_drewN | apply below_drew1 | refine below_set ?_ GE212.out) | exact HB.out)) hb); clear BK212; clear HB; have BK212 := n0_; have HB := n1_; clear n0_ n1_; (try clear hb); (try clear hb2); (try clear hk); (try clear hi); have hcz19_0 : w18.cell? ⟨gb212, 0, none⟩ = some (.int .i64 a0_0) := (blk_cell BK212.out 0).trans rfl; have hcz19_1 : w18.cell? ⟨gb212, 1, none⟩ = some (.int .i64 a0_1) := (blk_cell BK212.out 1).trans rfl; have hfz19_0 := blk_frozen BK212.out 0; have hfz19_1 := blk_frozen BK212.out 1) | ((with_reducible refine gate_callee (f := 33) rfl ?_); refine goesL_ (some 39) rfl rfl Try.func33 (by kernel_rfl) rfl #[.agg #[.int .i64 a0_0, .int .i64 a0_1], .int .i64 t214] rfl (by (try simp only [List.map_toArray, List.map_cons, List.map_nil]); first | done | rfl | (simp only [List.length_drop, List.length_take]; rfl)) ?_; (with_reducible refine (span_Has.calls a0_0 a0_1 t214 true _ A14.out).mono ?_); rintro e w20 ⟨rfl, hb⟩; refine ⟨_, rfl, ?_⟩; have n0_ := Aside0.mk (blk_below (g := gb212) (o := .cells #[.int .i64 a0_0, .int .i64 a0_1] 38 (0, 0)) (by (with_reducible repeat (first | refine blk_drewN ?_ _ | refine blk_drew ?_ | refine blk_alloc ?_ _)); exact BK212.out) hb); have n1_ := Aside0.mk (below_step (by repeat (first | (with_reducible first | exact HB.out | apply below_alloc | apply pw_below_drewN | apply below_drew1 | refine below_set ?_ GE212.out) | exact HB.out)) hb); clear BK212; clear HB; have BK212 := n0_; have HB := n1_; clear n0_ n1_; (try clear hb); (try clear hb2); (try clear hk); (try clear hi); have hcz21_0 : w20.cell? ⟨gb212, 0, none⟩ = some (.int .i64 a0_0) := (blk_cell BK212.out 0).trans rfl; have hcz21_1 : w20.cell? ⟨gb212, 1, none⟩ = some (.int .i64 a0_1) := (blk_cell BK212.out 1).trans rfl; have hfz21_0 := blk_frozen BK212.out 0; have hfz21_1 := blk_frozen BK212.out 1))
              go_ret
              exact ⟨by first | rfl | (simp [errW_none, errW_some] <;> rfl) | (simp [*, errW_none, errW_some] <;> rfl), by repeat (first | (with_reducible first | exact HB.out | apply below_alloc | apply pw_below_drewN | apply below_drew1 | refine below_set ?_ GE212.out) | exact HB.out)⟩
            · rw [if_neg c16] at H
              have c16b0 : decide ((wrap64 (t214 - a0_0)) ≤ (wrap64 ((wrap64 (Int.tdiv (wrap64 (a0_1 - a0_0)) 2)) + (Int.tmod (wrap64 (a0_1 - a0_0)) 2)))) = false := decide_eq_false c16
              clear c16
              exact absurd ((Option.some.inj H).trans hT.out) (by decide)
          · replace c15 := Bool.eq_false_iff.mpr c15
            subst c15
            have H1 : (some false) = some r := by rw [if_neg (show ¬ (false = true) by decide)] at H; exact H
            clear H
            have H := H1
            clear H1
            exact absurd ((Option.some.inj H).trans hT.out) (by decide)
  · replace c3 := Bool.eq_false_iff.mpr c3
    subst c3
    have H1 : (some false) = some r := by rw [if_neg (show ¬ (false = true) by decide)] at H; exact H
    clear H
    have H := H1
    clear H1
    exact absurd ((Option.some.inj H).trans hT.out) (by decide)

end Go.Proofs.Ytopaldkmgaflmaa.Q
