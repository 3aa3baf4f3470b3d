/- The calls of these Go functions answer what the Lean functions beside them answer; written by a program (wip/pr2.py, out of the print of the loaded program); under no condition but those that stand in the theorems. -/
import Derived.Test.YtidoeplhgckmaaaQx0
import Derived.Test.YtidoeplhgckmaaaQx8
import Derived.Test.YtidoeplhgckmaaaQx9
namespace Go.Proofs.Ytidoeplhgckmaaa.Q
open Go.RowKit Go.Proofs.YtidoeplhgckmaaaW.PrintWords Go.Proofs.YtidoeplhgckmaaaW.PrintLast Go.Proofs.YtidoeplhgckmaaaW.PrintMore
attribute [local go_sem] max2_int min2_int max_two min_two max_three min_three max_four min_four   -- for this text's walks alone
set_option linter.unusedVariables false
set_option linter.unusedSimpArgs false

/-! ### clepsydralaw02_WideCompares: function 4 -/
def clepsydralaw02_WideCompares.f (k : Nat) (a0_0 : Int) (a0_1 : Int) (a1_0 : Int) (a1_1 : Int) : Option (Bool) := (wide_Compare.f k 1 2 2 3).bind fun t167 => (if t167 = (-1) then ((wide_Compare.f k a0_0 a0_1 a1_0 a1_1).bind fun t168 => ((clepsydraref02_Compare.f k a0_0 a0_1 a1_0 a1_1).bind fun t169 => (if t168 = t169 then ((wide_Compare.f k a1_0 a1_1 a0_0 a0_1).bind fun t170 => (if t170 = (wrap64 (-t168)) then ((wide_Compare.f k a0_0 a0_1 a0_0 a0_1).bind fun t171 => (some (t171 == 0))) else (some false))) else (some false)))) else (some false))
theorem clepsydralaw02_WideCompares.mono : ∀ a0 a1 a2 a3 k, LeO (clepsydralaw02_WideCompares.f k a0 a1 a2 a3) (clepsydralaw02_WideCompares.f (k + 1) a0 a1 a2 a3) := by
  intro a0 a1 a2 a3 k
  unfold clepsydralaw02_WideCompares.f
  repeat' first
      | (with_reducible exact clepsydraref02_Compare.mono _ _ _ _ _)
      | (with_reducible exact wide_Compare.mono _ _ _ _ _)
      | (with_reducible exact LeO.refl _)
      | (with_reducible exact LeO.none _)
      | (with_reducible refine LeO.ite ?_ ?_)
      | (with_reducible refine LeO.bind ?_ (fun _ => ?_))
      | exact clepsydraref02_Compare.mono _ _ _ _ _
      | exact wide_Compare.mono _ _ _ _ _
      | exact LeO.none _
      | refine LeO.ite ?_ ?_
      | refine LeO.bind ?_ (fun _ => ?_)
set_option maxHeartbeats 8000000 in
set_option maxRecDepth 100000 in
theorem clepsydralaw02_WideCompares.calls (k : Nat) (a0_0 : Int) (a0_1 : Int) (a1_0 : Int) (a1_1 : Int) (r : Bool) (w : World) (hT : Aside0 (r = true)) (h : clepsydralaw02_WideCompares.f k a0_0 a0_1 a1_0 a1_1 = some r) :
    Calls Try.prog 4 #[.agg #[.int .i64 a0_0, .int .i64 a0_1], .agg #[.int .i64 a1_0, .int .i64 a1_1]] w fun e w' => e = .returned (.bool r) ∧ Below w.heap.size w w' := by
  have hu27 := Try.underlying27
  have HB := Aside0.mk (Below.refl w.heap.size w)
  have H : ((wide_Compare.f k 1 2 2 3).bind fun t167 => (if t167 = (-1) then ((wide_Compare.f k a0_0 a0_1 a1_0 a1_1).bind fun t168 => ((clepsydraref02_Compare.f k a0_0 a0_1 a1_0 a1_1).bind fun t169 => (if t168 = t169 then ((wide_Compare.f k a1_0 a1_1 a0_0 a0_1).bind fun t170 => (if t170 = (wrap64 (-t168)) then ((wide_Compare.f k a0_0 a0_1 a0_0 a0_1).bind fun t171 => (some (t171 == 0))) else (some false))) else (some false)))) else (some false))) = some r := h
  clear h
  replace H := Option.bind_eq_some_iff.mp H
  obtain ⟨t167, A30, H⟩ := H
  replace H : (if t167 = (-1) then ((wide_Compare.f k a0_0 a0_1 a1_0 a1_1).bind fun t168 => ((clepsydraref02_Compare.f k a0_0 a0_1 a1_0 a1_1).bind fun t169 => (if t168 = t169 then ((wide_Compare.f k a1_0 a1_1 a0_0 a0_1).bind fun t170 => (if t170 = (wrap64 (-t168)) then ((wide_Compare.f k a0_0 a0_1 a0_0 a0_1).bind fun t171 => (some (t171 == 0))) else (some false))) else (some false)))) else (some false)) = some r := H
  have A3 := Aside0.mk A30
  clear A30
  by_cases c4 : t167 = (-1)
  · rw [if_pos c4] at H
    have c4b0 : (t167 == (-1)) = true := beq_iff_eq.mpr c4
    have c4b1 : (t167 != (-1)) = false := bne_eq_false_iff_eq.mpr c4
    clear c4
    replace H := Option.bind_eq_some_iff.mp H
    obtain ⟨t168, A50, H⟩ := H
    replace H : ((clepsydraref02_Compare.f k a0_0 a0_1 a1_0 a1_1).bind fun t169 => (if t168 = t169 then ((wide_Compare.f k a1_0 a1_1 a0_0 a0_1).bind fun t170 => (if t170 = (wrap64 (-t168)) then ((wide_Compare.f k a0_0 a0_1 a0_0 a0_1).bind fun t171 => (some (t171 == 0))) else (some false))) else (some false))) = some r := H
    have A5 := Aside0.mk A50
    clear A50
    replace H := Option.bind_eq_some_iff.mp H
    obtain ⟨t169, A60, H⟩ := H
    replace H : (if t168 = t169 then ((wide_Compare.f k a1_0 a1_1 a0_0 a0_1).bind fun t170 => (if t170 = (wrap64 (-t168)) then ((wide_Compare.f k a0_0 a0_1 a0_0 a0_1).bind fun t171 => (some (t171 == 0))) else (some false))) else (some false)) = some r := H
    have A6 := Aside0.mk A60
    clear A60
    by_cases c7 : t168 = t169
    · rw [if_pos c7] at H
      have c7b0 : (t168 == t169) = true := beq_iff_eq.mpr c7
      have c7b1 : (t168 != t169) = false := bne_eq_false_iff_eq.mpr c7
      clear c7
      replace H := Option.bind_eq_some_iff.mp H
      obtain ⟨t170, A80, H⟩ := H
      replace H : (if t170 = (wrap64 (-t168)) then ((wide_Compare.f k a0_0 a0_1 a0_0 a0_1).bind fun t171 => (some (t171 == 0))) else (some false)) = some r := H
      have A8 := Aside0.mk A80
      clear A80
      by_cases c9 : t170 = (wrap64 (-t168))
      · rw [if_pos c9] at H
        have c9b0 : (t170 == (wrap64 (-t168))) = true := beq_iff_eq.mpr c9
        have c9b1 : (t170 != (wrap64 (-t168))) = false := bne_eq_false_iff_eq.mpr c9
        clear c9
        replace H := Option.bind_eq_some_iff.mp H
        obtain ⟨t171, A100, H⟩ := H
        replace H : (some (t171 == 0)) = some r := H
        have A10 := Aside0.mk A100
        clear A100
        obtain rfl := Option.some.inj H
        go_enter Try.func4, Try.ntmps4
        go_wp2_with (first | ((with_reducible refine gate_dst (N := 2) rfl ?_); refine box_event ?hg (N := 2) ?hd (cs := #[.int .i64 a0_0, .int .i64 a0_1]) (t := 27) ?hr ?_; (case hd => rfl); (case hg => rfl); (case hr => first | (go_simp; done) | (go_simp; rfl)); intro gb165 hg w11 hbox hb; have n0_ := Aside0.mk (below_step (by repeat (first | (with_reducible first | exact HB.out | apply below_alloc | apply pw_below_drewN | apply below_drew1) | exact HB.out)) hb); have n1_ := Aside0.mk (hbox); have n2_ := Aside0.mk ((by rw [hg]; exact (below_size (by repeat (first | (with_reducible first | exact HB.out | apply below_alloc | apply pw_below_drewN | apply below_drew1) | exact HB.out))) : w.heap.size ≤ gb165)); have n3_ := Aside0.mk ((by rw [hg]; exact (below_size (by repeat (first | (with_reducible first | exact HB.out | apply below_alloc | apply pw_below_drewN | apply below_drew1) | exact HB.out))) : w.heap.size ≤ gb165)); clear HB; have HB := n0_; have BK165 := n1_; have GW165 := n2_; have GE165 := n3_; clear n0_ n1_ n2_ n3_; clear hb hbox hg) | ((with_reducible refine gate_dst (N := 3) rfl ?_); refine box_event ?hg (N := 3) ?hd (cs := #[.int .i64 a1_0, .int .i64 a1_1]) (t := 27) ?hr ?_; (case hd => rfl); (case hg => rfl); (case hr => first | (go_simp; done) | (go_simp; rfl)); intro gb166 hg w12 hbox hb; have n0_ := Aside0.mk (blk_below (g := gb165) (o := .cells #[.int .i64 a0_0, .int .i64 a0_1] 27 (0, 0)) (by (with_reducible repeat (first | refine blk_drewN ?_ _ | refine blk_drew ?_ | refine blk_alloc ?_ _)); exact BK165.out) hb); have n1_ := Aside0.mk (below_step (by repeat (first | (with_reducible first | exact HB.out | apply below_alloc | apply pw_below_drewN | apply below_drew1 | refine below_set ?_ GE165.out) | exact HB.out)) hb); have n2_ := Aside0.mk (hbox); have n3_ := Aside0.mk ((by rw [hg]; exact (below_size (by repeat (first | (with_reducible first | exact HB.out | apply below_alloc | apply pw_below_drewN | apply below_drew1 | refine below_set ?_ GE165.out) | exact HB.out))) : w.heap.size ≤ gb166)); have n4_ := Aside0.mk ((by rw [hg]; exact (below_size (by repeat (first | (with_reducible first | exact HB.out | apply below_alloc | apply pw_below_drewN | apply below_drew1 | refine below_set ?_ GE165.out) | exact HB.out))) : w.heap.size ≤ gb166)); have n5_ := Aside0.mk ((by rw [hg]; exact Nat.ne_of_lt (blk_lt (g := gb165) (o := .cells #[.int .i64 a0_0, .int .i64 a0_1] 27 (0, 0)) (by (with_reducible repeat (first | refine blk_drewN ?_ _ | refine blk_drew ?_ | refine blk_alloc ?_ _)); exact BK165.out)) : gb165 ≠ gb166)); have n6_ := Aside0.mk ((by rw [hg]; exact Nat.ne_of_gt (blk_lt (g := gb165) (o := .cells #[.int .i64 a0_0, .int .i64 a0_1] 27 (0, 0)) (by (with_reducible repeat (first | refine blk_drewN ?_ _ | refine blk_drew ?_ | refine blk_alloc ?_ _)); exact BK165.out)) : gb166 ≠ gb165)); clear BK165; clear HB; have BK165 := n0_; have HB := n1_; have BK166 := n2_; have GW166 := n3_; have GE166 := n4_; have NB165_166 := n5_; have NB166_165 := n6_; clear n0_ n1_ n2_ n3_ n4_ n5_ n6_; clear hb hbox hg) | ((with_reducible refine gate_callee (f := 12) rfl ?_); refine goesL_ (some 8) rfl rfl Try.func12 (by kernel_rfl) rfl #[.agg #[.int .i64 1, .int .i64 2], .agg #[.int .i64 2, .int .i64 3]] rfl (by (try simp only [List.map_toArray, List.map_cons, List.map_nil]); first | done | rfl | (simp only [List.length_drop, List.length_take]; rfl)) ?_; (with_reducible refine (wide_Compare.calls k 1 2 2 3 t167 _ A3.out).mono ?_); rintro e w13 ⟨rfl, hb⟩; refine ⟨_, rfl, ?_⟩; have n0_ := Aside0.mk (blk_below (g := gb165) (o := .cells #[.int .i64 a0_0, .int .i64 a0_1] 27 (0, 0)) (by (with_reducible repeat (first | refine blk_drewN ?_ _ | refine blk_drew ?_ | refine blk_alloc ?_ _)); exact BK165.out) hb); have n1_ := Aside0.mk (blk_below (g := gb166) (o := .cells #[.int .i64 a1_0, .int .i64 a1_1] 27 (0, 0)) (by (with_reducible repeat (first | refine blk_drewN ?_ _ | refine blk_drew ?_ | refine blk_alloc ?_ _)); exact BK166.out) hb); have n2_ := Aside0.mk (below_step (by repeat (first | (with_reducible first | exact HB.out | apply below_alloc | apply pw_below_drewN | apply below_drew1 | refine below_set ?_ GE165.out | refine below_set ?_ GE166.out) | exact HB.out)) hb); clear BK165; clear BK166; clear HB; have BK165 := n0_; have BK166 := n1_; have HB := n2_; clear n0_ n1_ n2_; (try clear hb); (try clear hb2); (try clear hk); (try clear hi); have hnb14 := NB165_166.out; have hnc14 := NB166_165.out; have hcz15_0 : w13.cell? ⟨gb165, 0, none⟩ = some (.int .i64 a0_0) := (blk_cell BK165.out 0).trans rfl; have hcz15_1 : w13.cell? ⟨gb165, 1, none⟩ = some (.int .i64 a0_1) := (blk_cell BK165.out 1).trans rfl; have hfz15_0 := blk_frozen BK165.out 0; have hfz15_1 := blk_frozen BK165.out 1; have hcz16_0 : w13.cell? ⟨gb166, 0, none⟩ = some (.int .i64 a1_0) := (blk_cell BK166.out 0).trans rfl; have hcz16_1 : w13.cell? ⟨gb166, 1, none⟩ = some (.int .i64 a1_1) := (blk_cell BK166.out 1).trans rfl; have hfz16_0 := blk_frozen BK166.out 0; have hfz16_1 := blk_frozen BK166.out 1) | ((with_reducible refine gate_callee (f := 12) rfl ?_); refine goesL_ (some 12) rfl rfl Try.func12 (by kernel_rfl) rfl #[.agg #[.int .i64 a0_0, .int .i64 a0_1], .agg #[.int .i64 a1_0, .int .i64 a1_1]] rfl (by (try simp only [List.map_toArray, List.map_cons, List.map_nil]); first | done | rfl | (simp only [List.length_drop, List.length_take]; rfl)) ?_; (with_reducible refine (wide_Compare.calls k a0_0 a0_1 a1_0 a1_1 t168 _ A5.out).mono ?_); rintro e w17 ⟨rfl, hb⟩; refine ⟨_, rfl, ?_⟩; have n0_ := Aside0.mk (blk_below (g := gb165) (o := .cells #[.int .i64 a0_0, .int .i64 a0_1] 27 (0, 0)) (by (with_reducible repeat (first | refine blk_drewN ?_ _ | refine blk_drew ?_ | refine blk_alloc ?_ _)); exact BK165.out) hb); have n1_ := Aside0.mk (blk_below (g := gb166) (o := .cells #[.int .i64 a1_0, .int .i64 a1_1] 27 (0, 0)) (by (with_reducible repeat (first | refine blk_drewN ?_ _ | refine blk_drew ?_ | refine blk_alloc ?_ _)); exact BK166.out) hb); have n2_ := Aside0.mk (below_step (by repeat (first | (with_reducible first | exact HB.out | apply below_alloc | apply pw_below_drewN | apply below_drew1 | refine below_set ?_ GE165.out | refine below_set ?_ GE166.out) | exact HB.out)) hb); clear BK165; clear BK166; clear HB; have BK165 := n0_; have BK166 := n1_; have HB := n2_; clear n0_ n1_ n2_; (try clear hb); (try clear hb2); (try clear hk); (try clear hi); have hcz18_0 : w17.cell? ⟨gb165, 0, none⟩ = some (.int .i64 a0_0) := (blk_cell BK165.out 0).trans rfl; have hcz18_1 : w17.cell? ⟨gb165, 1, none⟩ = some (.int .i64 a0_1) := (blk_cell BK165.out 1).trans rfl; have hfz18_0 := blk_frozen BK165.out 0; have hfz18_1 := blk_frozen BK165.out 1; have hcz19_0 : w17.cell? ⟨gb166, 0, none⟩ = some (.int .i64 a1_0) := (blk_cell BK166.out 0).trans rfl; have hcz19_1 : w17.cell? ⟨gb166, 1, none⟩ = some (.int .i64 a1_1) := (blk_cell BK166.out 1).trans rfl; have hfz19_0 := blk_frozen BK166.out 0; have hfz19_1 := blk_frozen BK166.out 1) | ((with_reducible refine gate_callee (f := 13) rfl ?_); refine goesL_ (some 22) rfl rfl Try.func13 (by kernel_rfl) rfl #[.int .i64 a0_0, .int .i64 a0_1, .int .i64 a1_0, .int .i64 a1_1] rfl (by (try simp only [List.map_toArray, List.map_cons, List.map_nil]); first | done | rfl | (simp only [List.length_drop, List.length_take]; rfl)) ?_; (with_reducible refine (clepsydraref02_Compare.calls k a0_0 a0_1 a1_0 a1_1 t169 _ A6.out).mono ?_); rintro e w20 ⟨rfl, hb⟩; refine ⟨_, rfl, ?_⟩; have n0_ := Aside0.mk (blk_below (g := gb165) (o := .cells #[.int .i64 a0_0, .int .i64 a0_1] 27 (0, 0)) (by (with_reducible repeat (first | refine blk_drewN ?_ _ | refine blk_drew ?_ | refine blk_alloc ?_ _)); exact BK165.out) hb); have n1_ := Aside0.mk (blk_below (g := gb166) (o := .cells #[.int .i64 a1_0, .int .i64 a1_1] 27 (0, 0)) (by (with_reducible repeat (first | refine blk_drewN ?_ _ | refine blk_drew ?_ | refine blk_alloc ?_ _)); exact BK166.out) hb); have n2_ := Aside0.mk (below_step (by repeat (first | (with_reducible first | exact HB.out | apply below_alloc | apply pw_below_drewN | apply below_drew1 | refine below_set ?_ GE165.out | refine below_set ?_ GE166.out) | exact HB.out)) hb); clear BK165; clear BK166; clear HB; have BK165 := n0_; have BK166 := n1_; have HB := n2_; clear n0_ n1_ n2_; (try clear hb); (try clear hb2); (try clear hk); (try clear hi); have hcz21_0 : w20.cell? ⟨gb166, 0, none⟩ = some (.int .i64 a1_0) := (blk_cell BK166.out 0).trans rfl; have hcz21_1 : w20.cell? ⟨gb166, 1, none⟩ = some (.int .i64 a1_1) := (blk_cell BK166.out 1).trans rfl; have hfz21_0 := blk_frozen BK166.out 0; have hfz21_1 := blk_frozen BK166.out 1; have hcz22_0 : w20.cell? ⟨gb165, 0, none⟩ = some (.int .i64 a0_0) := (blk_cell BK165.out 0).trans rfl; have hcz22_1 : w20.cell? ⟨gb165, 1, none⟩ = some (.int .i64 a0_1) := (blk_cell BK165.out 1).trans rfl; have hfz22_0 := blk_frozen BK165.out 0; have hfz22_1 := blk_frozen BK165.out 1) | (go_at_call 12; (with_reducible refine (wide_Compare.calls k a1_0 a1_1 a0_0 a0_1 t170 _ A8.out).mono ?_); rintro e w23 ⟨rfl, hb⟩; have n0_ := Aside0.mk (blk_below (g := gb165) (o := .cells #[.int .i64 a0_0, .int .i64 a0_1] 27 (0, 0)) (by (with_reducible repeat (first | refine blk_drewN ?_ _ | refine blk_drew ?_ | refine blk_alloc ?_ _)); exact BK165.out) hb); have n1_ := Aside0.mk (blk_below (g := gb166) (o := .cells #[.int .i64 a1_0, .int .i64 a1_1] 27 (0, 0)) (by (with_reducible repeat (first | refine blk_drewN ?_ _ | refine blk_drew ?_ | refine blk_alloc ?_ _)); exact BK166.out) hb); have n2_ := Aside0.mk (below_step (by repeat (first | (with_reducible first | exact HB.out | apply below_alloc | apply pw_below_drewN | apply below_drew1 | refine below_set ?_ GE165.out | refine below_set ?_ GE166.out) | exact HB.out)) hb); clear BK165; clear BK166; clear HB; have BK165 := n0_; have BK166 := n1_; have HB := n2_; clear n0_ n1_ n2_; (try clear hb); (try clear hb2); (try clear hk); (try clear hi); have hcz24_0 : w23.cell? ⟨gb165, 0, none⟩ = some (.int .i64 a0_0) := (blk_cell BK165.out 0).trans rfl; have hcz24_1 : w23.cell? ⟨gb165, 1, none⟩ = some (.int .i64 a0_1) := (blk_cell BK165.out 1).trans rfl; have hfz24_0 := blk_frozen BK165.out 0; have hfz24_1 := blk_frozen BK165.out 1) | (go_at_call 12; (with_reducible refine (wide_Compare.calls k a0_0 a0_1 a0_0 a0_1 t171 _ A10.out).mono ?_); rintro e w25 ⟨rfl, hb⟩; have n0_ := Aside0.mk (blk_below (g := gb165) (o := .cells #[.int .i64 a0_0, .int .i64 a0_1] 27 (0, 0)) (by (with_reducible repeat (first | refine blk_drewN ?_ _ | refine blk_drew ?_ | refine blk_alloc ?_ _)); exact BK165.out) hb); have n1_ := Aside0.mk (blk_below (g := gb166) (o := .cells #[.int .i64 a1_0, .int .i64 a1_1] 27 (0, 0)) (by (with_reducible repeat (first | refine blk_drewN ?_ _ | refine blk_drew ?_ | refine blk_alloc ?_ _)); exact BK166.out) hb); have n2_ := Aside0.mk (below_step (by repeat (first | (with_reducible first | exact HB.out | apply below_alloc | apply pw_below_drewN | apply below_drew1 | refine below_set ?_ GE165.out | refine below_set ?_ GE166.out) | exact HB.out)) hb); clear BK165; clear BK166; clear HB; have BK165 := n0_; have BK166 := n1_; have HB := n2_; clear n0_ n1_ n2_; (try clear hb); (try clear hb2); (try clear hk); (try clear hi)))
        go_ret
        exact ⟨by first | rfl | (simp [errW_none, errW_some] <;> rfl) | (simp [*, errW_none, errW_some] <;> rfl), by repeat (first | (with_reducible first | exact HB.out | apply below_alloc | apply pw_below_drewN | apply below_drew1 | refine below_set ?_ GE165.out | refine below_set ?_ GE166.out) | exact HB.out)⟩
      · rw [if_neg c9] at H
        have c9b0 : (t170 == (wrap64 (-t168))) = false := beq_eq_false_iff_ne.mpr c9
        have c9b1 : (t170 != (wrap64 (-t168))) = true := bne_iff_ne.mpr c9
        exact absurd ((Option.some.inj H).trans hT.out) (by decide)
    · rw [if_neg c7] at H
      have c7b0 : (t168 == t169) = false := beq_eq_false_iff_ne.mpr c7
      have c7b1 : (t168 != t169) = true := bne_iff_ne.mpr c7
      exact absurd ((Option.some.inj H).trans hT.out) (by decide)
  · rw [if_neg c4] at H
    have c4b0 : (t167 == (-1)) = false := beq_eq_false_iff_ne.mpr c4
    have c4b1 : (t167 != (-1)) = true := bne_iff_ne.mpr c4
    exact absurd ((Option.some.inj H).trans hT.out) (by decide)

end Go.Proofs.Ytidoeplhgckmaaa.Q
