/- The calls of these Go functions answer what the Lean functions beside them answer; written by a program (wip/pr2.py, out of the print of the loaded program); under no condition but those that stand in the theorems. -/
import Derived.Test.YtigkjbaclpklpaaQx0
namespace Go.Proofs.Ytigkjbaclpklpaa.Q
open Go.RowKit Go.Proofs.YtigkjbaclpklpaaW.PrintWords Go.Proofs.YtigkjbaclpklpaaW.PrintLast Go.Proofs.YtigkjbaclpklpaaW.PrintMore
attribute [local go_sem] max2_int min2_int max_two min_two max_three min_three max_four min_four   -- for this text's walks alone
set_option linter.unusedVariables false
set_option linter.unusedSimpArgs false

-- NOT PRINTED: function 5 (clepsydralaw21_HealthStays)

/-! ### clepsydraref01_Clip: function 38 -/
def clepsydraref01_Clip.f (a0 : Int) : Option (Int) := if a0 > 2305843009213693952 then (some 2305843009213693952) else (if a0 < (-2305843009213693952) then (some (-2305843009213693952)) else (some a0))
set_option maxHeartbeats 8000000 in
set_option maxRecDepth 100000 in
theorem clepsydraref01_Clip.calls (a0 : Int) (r : Int) (w : World) (h : clepsydraref01_Clip.f a0 = some r) :
    Calls Try.prog 38 #[.int .i64 a0] w fun e w' => e = .returned (.int .i64 r) ∧ Drawn0 w w' := by
  have H : (if a0 > 2305843009213693952 then (some 2305843009213693952) else (if a0 < (-2305843009213693952) then (some (-2305843009213693952)) else (some a0))) = some r := h
  clear h
  by_cases c2 : a0 > 2305843009213693952
  · rw [if_pos c2] at H
    have c2b0 : decide (2305843009213693952 < a0) = true := decide_eq_true c2
    clear c2
    obtain rfl := Option.some.inj H
    go_enter Try.func38, Try.ntmps38
    go_wp2
    go_ret
    exact ⟨by first | rfl | (simp; done) | (simp [*]; done) | (simp [Int.tdiv_eq_ediv_of_nonneg]; done) | (simp [Go.RowKit.wrap64]; done) | (simp [*, Go.RowKit.wrap64]; done), by repeat (first | exact Drawn0.refl _ | apply Drawn0.step)⟩
  · rw [if_neg c2] at H
    have c2b0 : decide (2305843009213693952 < a0) = false := decide_eq_false c2
    clear c2
    by_cases c3 : a0 < (-2305843009213693952)
    · rw [if_pos c3] at H
      have c3b0 : decide (a0 < (-2305843009213693952)) = true := decide_eq_true c3
      clear c3
      obtain rfl := Option.some.inj H
      go_enter Try.func38, Try.ntmps38
      go_wp2
      go_ret
      exact ⟨by first | rfl | (simp; done) | (simp [*]; done) | (simp [Int.tdiv_eq_ediv_of_nonneg]; done) | (simp [Go.RowKit.wrap64]; done) | (simp [*, Go.RowKit.wrap64]; done), by repeat (first | exact Drawn0.refl _ | apply Drawn0.step)⟩
    · rw [if_neg c3] at H
      have c3b0 : decide (a0 < (-2305843009213693952)) = false := decide_eq_false c3
      clear c3
      obtain rfl := Option.some.inj H
      go_enter Try.func38, Try.ntmps38
      go_wp2
      go_ret
      exact ⟨by first | rfl | (simp; done) | (simp [*]; done) | (simp [Int.tdiv_eq_ediv_of_nonneg]; done) | (simp [Go.RowKit.wrap64]; done) | (simp [*, Go.RowKit.wrap64]; done), by repeat (first | exact Drawn0.refl _ | apply Drawn0.step)⟩

/-! ### clepsydraref20_Right: function 23 -/
def clepsydraref20_Right.f (a0_0 : Int) (a0_1 : Int) : Option (Bool) := (clepsydraref01_Clip.f a0_0).bind fun t267 => (if t267 = a0_0 then (if a0_1 ≥ 0 then (some (decide (a0_1 ≤ 1073741824))) else (some false)) else (some false))
set_option maxHeartbeats 8000000 in
set_option maxRecDepth 100000 in
theorem clepsydraref20_Right.calls (a0_0 : Int) (a0_1 : Int) (r : Bool) (w : World) (h : clepsydraref20_Right.f a0_0 a0_1 = some r) :
  Calls Try.prog 23 #[.agg #[.int .i64 a0_0, .int .i64 a0_1]] w fun e w' => e = .returned (.bool r) ∧ Below w.heap.size w w' := by
 have hu28 := Try.underlying28
 have HB := mk (Below.refl w.heap.size w)
 have H : ((clepsydraref01_Clip.f a0_0).bind fun t267 => (if t267 = a0_0 then (if a0_1 ≥ 0 then (some (decide (a0_1 ≤ 1073741824))) else (some false)) else (some false))) = some r := h
 clear h
 replace H := Option.bind_eq_some_iff.mp H
 obtain ⟨t267, A20, H⟩ := H
 replace H : (if t267 = a0_0 then (if a0_1 ≥ 0 then (some (decide (a0_1 ≤ 1073741824))) else (some false)) else (some false)) = some r := H
 have A2 := mk A20
 clear A20
 by_cases c3 : t267 = a0_0
 ·rw [if_pos c3] at H
  have c3b0 : (t267 == a0_0) = true := beq_iff_eq.mpr c3
  have c3b1 : (t267 != a0_0) = false := bne_eq_false_iff_eq.mpr c3
  clear c3
  by_cases c4 : a0_1 ≥ 0
  ·rw [if_pos c4] at H
   have c4b0 : decide (0 ≤ a0_1) = true := decide_eq_true c4
   clear c4
   obtain rfl := Option.some.inj H
   go_enter Try.func23, Try.ntmps23
   go_wp2_with (first | ((with_reducible refine gate_dst (N := 1) rfl ?_); refine box_event ?hg (N := 1) ?hd (cs := #[.int .i64 a0_0, .int .i64 a0_1]) (t := 28) ?hr ?_; (case hd => rfl); (case hg => rfl); (case hr => first | (go_simp; done) | (go_simp; rfl)); intro g0_ hg w5 hbox hb; have n0_ := mk (below_step (by repeat first | exact HB.1 | apply pD | apply b1 | refine bT (by assumption) ?_ | apply bA) hb); have n1_ := mk (hbox); have n2_ := gl hg (by repeat first | exact HB.1 | apply pD | apply b1 | refine bT (by assumption) ?_ | apply bA); have n3_ := gl hg (by repeat first | exact HB.1 | apply pD | apply b1 | refine bT (by assumption) ?_ | apply bA); clear HB; have HB := n0_; have B0_ := n1_; have W0_ := n2_; have E0_ := n3_; clear n0_ n1_ n2_ n3_; clear hb hbox hg; have hcz6_0 : w5.cell? ⟨g0_, 0, none⟩ = some (.int .i64 a0_0) := bQ B0_.1 0; have hcz6_1 : w5.cell? ⟨g0_, 1, none⟩ = some (.int .i64 a0_1) := bQ B0_.1 1; have hfz6_0 := blk_frozen B0_.1 0; have hfz6_1 := blk_frozen B0_.1 1) | (go_at_call 38; (with_reducible refine (clepsydraref01_Clip.calls a0_0 t267 _ A2.1).mono ?_); rintro e w' ⟨rfl, ⟨nd, rfl⟩⟩; (try first | exact ⟨rfl, _, World.drewN_drewN _ _ _⟩ | exact ⟨rfl, _, Eq.trans (World.drewN_drewN _ _ _) (congrArg (World.drewN _) (Nat.add_assoc _ _ _))⟩)))
   repeat (go_quiet (first | ((with_reducible refine gate_dst (N := 1) rfl ?_); refine box_event ?hg (N := 1) ?hd (cs := #[.int .i64 a0_0, .int .i64 a0_1]) (t := 28) ?hr ?_; (case hd => rfl); (case hg => rfl); (case hr => first | (go_simp; done) | (go_simp; rfl)); intro g0_ hg w5 hbox hb; have n0_ := mk (below_step (by repeat first | exact HB.1 | apply pD | apply b1 | refine bT (by assumption) ?_ | apply bA) hb); have n1_ := mk (hbox); have n2_ := gl hg (by repeat first | exact HB.1 | apply pD | apply b1 | refine bT (by assumption) ?_ | apply bA); have n3_ := gl hg (by repeat first | exact HB.1 | apply pD | apply b1 | refine bT (by assumption) ?_ | apply bA); clear HB; have HB := n0_; have B0_ := n1_; have W0_ := n2_; have E0_ := n3_; clear n0_ n1_ n2_ n3_; clear hb hbox hg; have hcz6_0 : w5.cell? ⟨g0_, 0, none⟩ = some (.int .i64 a0_0) := bQ B0_.1 0; have hcz6_1 : w5.cell? ⟨g0_, 1, none⟩ = some (.int .i64 a0_1) := bQ B0_.1 1; have hfz6_0 := blk_frozen B0_.1 0; have hfz6_1 := blk_frozen B0_.1 1) | (go_at_call 38; (with_reducible refine (clepsydraref01_Clip.calls a0_0 t267 _ A2.1).mono ?_); rintro e w' ⟨rfl, ⟨nd, rfl⟩⟩; (try first | exact ⟨rfl, _, World.drewN_drewN _ _ _⟩ | exact ⟨rfl, _, Eq.trans (World.drewN_drewN _ _ _) (congrArg (World.drewN _) (Nat.add_assoc _ _ _))⟩))); try go_wp2_with (first | ((with_reducible refine gate_dst (N := 1) rfl ?_); refine box_event ?hg (N := 1) ?hd (cs := #[.int .i64 a0_0, .int .i64 a0_1]) (t := 28) ?hr ?_; (case hd => rfl); (case hg => rfl); (case hr => first | (go_simp; done) | (go_simp; rfl)); intro g0_ hg w5 hbox hb; have n0_ := mk (below_step (by repeat first | exact HB.1 | apply pD | apply b1 | refine bT (by assumption) ?_ | apply bA) hb); have n1_ := mk (hbox); have n2_ := gl hg (by repeat first | exact HB.1 | apply pD | apply b1 | refine bT (by assumption) ?_ | apply bA); have n3_ := gl hg (by repeat first | exact HB.1 | apply pD | apply b1 | refine bT (by assumption) ?_ | apply bA); clear HB; have HB := n0_; have B0_ := n1_; have W0_ := n2_; have E0_ := n3_; clear n0_ n1_ n2_ n3_; clear hb hbox hg; have hcz6_0 : w5.cell? ⟨g0_, 0, none⟩ = some (.int .i64 a0_0) := bQ B0_.1 0; have hcz6_1 : w5.cell? ⟨g0_, 1, none⟩ = some (.int .i64 a0_1) := bQ B0_.1 1; have hfz6_0 := blk_frozen B0_.1 0; have hfz6_1 := blk_frozen B0_.1 1) | (go_at_call 38; (with_reducible refine (clepsydraref01_Clip.calls a0_0 t267 _ A2.1).mono ?_); rintro e w' ⟨rfl, ⟨nd, rfl⟩⟩; (try first | exact ⟨rfl, _, World.drewN_drewN _ _ _⟩ | exact ⟨rfl, _, Eq.trans (World.drewN_drewN _ _ _) (congrArg (World.drewN _) (Nat.add_assoc _ _ _))⟩))))
   go_ret
   exact ⟨by first | rfl | (simp [errW_none, errW_some] <;> rfl) | (simp [*, errW_none, errW_some] <;> rfl), by repeat (first | (with_reducible first | exact HB.1 | apply bA | apply pD | apply b1 | apply bS E0_.1) | exact HB.1)⟩
  rw [if_neg c4] at H
  have c4b0 : decide (0 ≤ a0_1) = false := decide_eq_false c4
  clear c4
  obtain rfl := Option.some.inj H
  go_enter Try.func23, Try.ntmps23
  go_wp2_with (first | ((with_reducible refine gate_dst (N := 1) rfl ?_); refine box_event ?hg (N := 1) ?hd (cs := #[.int .i64 a0_0, .int .i64 a0_1]) (t := 28) ?hr ?_; (case hd => rfl); (case hg => rfl); (case hr => first | (go_simp; done) | (go_simp; rfl)); intro g0_ hg w7 hbox hb; have n0_ := mk (below_step (by repeat first | exact HB.1 | apply pD | apply b1 | refine bT (by assumption) ?_ | apply bA) hb); have n1_ := mk (hbox); have n2_ := gl hg (by repeat first | exact HB.1 | apply pD | apply b1 | refine bT (by assumption) ?_ | apply bA); have n3_ := gl hg (by repeat first | exact HB.1 | apply pD | apply b1 | refine bT (by assumption) ?_ | apply bA); clear HB; have HB := n0_; have B0_ := n1_; have W0_ := n2_; have E0_ := n3_; clear n0_ n1_ n2_ n3_; clear hb hbox hg; have hcz8_0 : w7.cell? ⟨g0_, 0, none⟩ = some (.int .i64 a0_0) := bQ B0_.1 0; have hcz8_1 : w7.cell? ⟨g0_, 1, none⟩ = some (.int .i64 a0_1) := bQ B0_.1 1; have hfz8_0 := blk_frozen B0_.1 0; have hfz8_1 := blk_frozen B0_.1 1) | (go_at_call 38; (with_reducible refine (clepsydraref01_Clip.calls a0_0 t267 _ A2.1).mono ?_); rintro e w' ⟨rfl, ⟨nd, rfl⟩⟩; (try first | exact ⟨rfl, _, World.drewN_drewN _ _ _⟩ | exact ⟨rfl, _, Eq.trans (World.drewN_drewN _ _ _) (congrArg (World.drewN _) (Nat.add_assoc _ _ _))⟩)))
  repeat (go_quiet (first | ((with_reducible refine gate_dst (N := 1) rfl ?_); refine box_event ?hg (N := 1) ?hd (cs := #[.int .i64 a0_0, .int .i64 a0_1]) (t := 28) ?hr ?_; (case hd => rfl); (case hg => rfl); (case hr => first | (go_simp; done) | (go_simp; rfl)); intro g0_ hg w7 hbox hb; have n0_ := mk (below_step (by repeat first | exact HB.1 | apply pD | apply b1 | refine bT (by assumption) ?_ | apply bA) hb); have n1_ := mk (hbox); have n2_ := gl hg (by repeat first | exact HB.1 | apply pD | apply b1 | refine bT (by assumption) ?_ | apply bA); have n3_ := gl hg (by repeat first | exact HB.1 | apply pD | apply b1 | refine bT (by assumption) ?_ | apply bA); clear HB; have HB := n0_; have B0_ := n1_; have W0_ := n2_; have E0_ := n3_; clear n0_ n1_ n2_ n3_; clear hb hbox hg; have hcz8_0 : w7.cell? ⟨g0_, 0, none⟩ = some (.int .i64 a0_0) := bQ B0_.1 0; have hcz8_1 : w7.cell? ⟨g0_, 1, none⟩ = some (.int .i64 a0_1) := bQ B0_.1 1; have hfz8_0 := blk_frozen B0_.1 0; have hfz8_1 := blk_frozen B0_.1 1) | (go_at_call 38; (with_reducible refine (clepsydraref01_Clip.calls a0_0 t267 _ A2.1).mono ?_); rintro e w' ⟨rfl, ⟨nd, rfl⟩⟩; (try first | exact ⟨rfl, _, World.drewN_drewN _ _ _⟩ | exact ⟨rfl, _, Eq.trans (World.drewN_drewN _ _ _) (congrArg (World.drewN _) (Nat.add_assoc _ _ _))⟩))); try go_wp2_with (first | ((with_reducible refine gate_dst (N := 1) rfl ?_); refine box_event ?hg (N := 1) ?hd (cs := #[.int .i64 a0_0, .int .i64 a0_1]) (t := 28) ?hr ?_; (case hd => rfl); (case hg => rfl); (case hr => first | (go_simp; done) | (go_simp; rfl)); intro g0_ hg w7 hbox hb; have n0_ := mk (below_step (by repeat first | exact HB.1 | apply pD | apply b1 | refine bT (by assumption) ?_ | apply bA) hb); have n1_ := mk (hbox); have n2_ := gl hg (by repeat first | exact HB.1 | apply pD | apply b1 | refine bT (by assumption) ?_ | apply bA); have n3_ := gl hg (by repeat first | exact HB.1 | apply pD | apply b1 | refine bT (by assumption) ?_ | apply bA); clear HB; have HB := n0_; have B0_ := n1_; have W0_ := n2_; have E0_ := n3_; clear n0_ n1_ n2_ n3_; clear hb hbox hg; have hcz8_0 : w7.cell? ⟨g0_, 0, none⟩ = some (.int .i64 a0_0) := bQ B0_.1 0; have hcz8_1 : w7.cell? ⟨g0_, 1, none⟩ = some (.int .i64 a0_1) := bQ B0_.1 1; have hfz8_0 := blk_frozen B0_.1 0; have hfz8_1 := blk_frozen B0_.1 1) | (go_at_call 38; (with_reducible refine (clepsydraref01_Clip.calls a0_0 t267 _ A2.1).mono ?_); rintro e w' ⟨rfl, ⟨nd, rfl⟩⟩; (try first | exact ⟨rfl, _, World.drewN_drewN _ _ _⟩ | exact ⟨rfl, _, Eq.trans (World.drewN_drewN _ _ _) (congrArg (World.drewN _) (Nat.add_assoc _ _ _))⟩))))
  go_ret
  exact ⟨by first | rfl | (simp [errW_none, errW_some] <;> rfl) | (simp [*, errW_none, errW_some] <;> rfl), by repeat (first | (with_reducible first | exact HB.1 | apply bA | apply pD | apply b1 | apply bS E0_.1) | exact HB.1)⟩
 rw [if_neg c3] at H
 have c3b0 : (t267 == a0_0) = false := beq_eq_false_iff_ne.mpr c3
 have c3b1 : (t267 != a0_0) = true := bne_iff_ne.mpr c3
 obtain rfl := Option.some.inj H
 go_enter Try.func23, Try.ntmps23
 go_wp2_with (first | ((with_reducible refine gate_dst (N := 1) rfl ?_); refine box_event ?hg (N := 1) ?hd (cs := #[.int .i64 a0_0, .int .i64 a0_1]) (t := 28) ?hr ?_; (case hd => rfl); (case hg => rfl); (case hr => first | (go_simp; done) | (go_simp; rfl)); intro g0_ hg w9 hbox hb; have n0_ := mk (below_step (by repeat first | exact HB.1 | apply pD | apply b1 | refine bT (by assumption) ?_ | apply bA) hb); have n1_ := mk (hbox); have n2_ := gl hg (by repeat first | exact HB.1 | apply pD | apply b1 | refine bT (by assumption) ?_ | apply bA); have n3_ := gl hg (by repeat first | exact HB.1 | apply pD | apply b1 | refine bT (by assumption) ?_ | apply bA); clear HB; have HB := n0_; have B0_ := n1_; have W0_ := n2_; have E0_ := n3_; clear n0_ n1_ n2_ n3_; clear hb hbox hg; have hcz10_0 : w9.cell? ⟨g0_, 0, none⟩ = some (.int .i64 a0_0) := bQ B0_.1 0; have hfz10_0 := blk_frozen B0_.1 0) | (go_at_call 38; (with_reducible refine (clepsydraref01_Clip.calls a0_0 t267 _ A2.1).mono ?_); rintro e w' ⟨rfl, ⟨nd, rfl⟩⟩; (try first | exact ⟨rfl, _, World.drewN_drewN _ _ _⟩ | exact ⟨rfl, _, Eq.trans (World.drewN_drewN _ _ _) (congrArg (World.drewN _) (Nat.add_assoc _ _ _))⟩)))
 repeat (go_quiet (first | ((with_reducible refine gate_dst (N := 1) rfl ?_); refine box_event ?hg (N := 1) ?hd (cs := #[.int .i64 a0_0, .int .i64 a0_1]) (t := 28) ?hr ?_; (case hd => rfl); (case hg => rfl); (case hr => first | (go_simp; done) | (go_simp; rfl)); intro g0_ hg w9 hbox hb; have n0_ := mk (below_step (by repeat first | exact HB.1 | apply pD | apply b1 | refine bT (by assumption) ?_ | apply bA) hb); have n1_ := mk (hbox); have n2_ := gl hg (by repeat first | exact HB.1 | apply pD | apply b1 | refine bT (by assumption) ?_ | apply bA); have n3_ := gl hg (by repeat first | exact HB.1 | apply pD | apply b1 | refine bT (by assumption) ?_ | apply bA); clear HB; have HB := n0_; have B0_ := n1_; have W0_ := n2_; have E0_ := n3_; clear n0_ n1_ n2_ n3_; clear hb hbox hg; have hcz10_0 : w9.cell? ⟨g0_, 0, none⟩ = some (.int .i64 a0_0) := bQ B0_.1 0; have hfz10_0 := blk_frozen B0_.1 0) | (go_at_call 38; (with_reducible refine (clepsydraref01_Clip.calls a0_0 t267 _ A2.1).mono ?_); rintro e w' ⟨rfl, ⟨nd, rfl⟩⟩; (try first | exact ⟨rfl, _, World.drewN_drewN _ _ _⟩ | exact ⟨rfl, _, Eq.trans (World.drewN_drewN _ _ _) (congrArg (World.drewN _) (Nat.add_assoc _ _ _))⟩))); try go_wp2_with (first | ((with_reducible refine gate_dst (N := 1) rfl ?_); refine box_event ?hg (N := 1) ?hd (cs := #[.int .i64 a0_0, .int .i64 a0_1]) (t := 28) ?hr ?_; (case hd => rfl); (case hg => rfl); (case hr => first | (go_simp; done) | (go_simp; rfl)); intro g0_ hg w9 hbox hb; have n0_ := mk (below_step (by repeat first | exact HB.1 | apply pD | apply b1 | refine bT (by assumption) ?_ | apply bA) hb); have n1_ := mk (hbox); have n2_ := gl hg (by repeat first | exact HB.1 | apply pD | apply b1 | refine bT (by assumption) ?_ | apply bA); have n3_ := gl hg (by repeat first | exact HB.1 | apply pD | apply b1 | refine bT (by assumption) ?_ | apply bA); clear HB; have HB := n0_; have B0_ := n1_; have W0_ := n2_; have E0_ := n3_; clear n0_ n1_ n2_ n3_; clear hb hbox hg; have hcz10_0 : w9.cell? ⟨g0_, 0, none⟩ = some (.int .i64 a0_0) := bQ B0_.1 0; have hfz10_0 := blk_frozen B0_.1 0) | (go_at_call 38; (with_reducible refine (clepsydraref01_Clip.calls a0_0 t267 _ A2.1).mono ?_); rintro e w' ⟨rfl, ⟨nd, rfl⟩⟩; (try first | exact ⟨rfl, _, World.drewN_drewN _ _ _⟩ | exact ⟨rfl, _, Eq.trans (World.drewN_drewN _ _ _) (congrArg (World.drewN _) (Nat.add_assoc _ _ _))⟩))))
 go_ret
 exact ⟨by first | rfl | (simp [errW_none, errW_some] <;> rfl) | (simp [*, errW_none, errW_some] <;> rfl), by repeat (first | (with_reducible first | exact HB.1 | apply bA | apply pD | apply b1 | apply bS E0_.1) | exact HB.1)⟩

/-! ### clepsydraref20_Less: function 24 -/
def clepsydraref20_Less.f (a0_0 : Int) (a0_1 : Int) (a1_0 : Int) (a1_1 : Int) : Option (Bool) := if a0_0 = a1_0 then (some (decide (a0_1 < a1_1))) else (some (decide (a0_0 < a1_0)))
set_option maxHeartbeats 8000000 in
set_option maxRecDepth 100000 in
theorem clepsydraref20_Less.calls (a0_0 : Int) (a0_1 : Int) (a1_0 : Int) (a1_1 : Int) (r : Bool) (w : World) (h : clepsydraref20_Less.f a0_0 a0_1 a1_0 a1_1 = some r) :
  Calls Try.prog 24 #[.agg #[.int .i64 a0_0, .int .i64 a0_1], .agg #[.int .i64 a1_0, .int .i64 a1_1]] w fun e w' => e = .returned (.bool r) ∧ Below w.heap.size w w' := by
 have hu28 := Try.underlying28
 have HB := mk (Below.refl w.heap.size w)
 have H : (if a0_0 = a1_0 then (some (decide (a0_1 < a1_1))) else (some (decide (a0_0 < a1_0)))) = some r := h
 clear h
 by_cases c3 : a0_0 = a1_0
 ·rw [if_pos c3] at H
  have c3b0 : (a0_0 == a1_0) = true := beq_iff_eq.mpr c3
  have c3b1 : (a0_0 != a1_0) = false := bne_eq_false_iff_eq.mpr c3
  clear c3
  obtain rfl := Option.some.inj H
  go_enter Try.func24, Try.ntmps24
  go_wp2_with (first | ((with_reducible refine gate_dst (N := 2) rfl ?_); refine box_event ?hg (N := 2) ?hd (cs := #[.int .i64 a0_0, .int .i64 a0_1]) (t := 28) ?hr ?_; (case hd => rfl); (case hg => rfl); (case hr => first | (go_simp; done) | (go_simp; rfl)); intro g0_ hg w4 hbox hb; have n0_ := mk (below_step (by repeat first | exact HB.1 | apply pD | apply b1 | refine bT (by assumption) ?_ | apply bA) hb); have n1_ := mk (hbox); have n2_ := gl hg (by repeat first | exact HB.1 | apply pD | apply b1 | refine bT (by assumption) ?_ | apply bA); have n3_ := gl hg (by repeat first | exact HB.1 | apply pD | apply b1 | refine bT (by assumption) ?_ | apply bA); clear HB; have HB := n0_; have B0_ := n1_; have W0_ := n2_; have E0_ := n3_; clear n0_ n1_ n2_ n3_; clear hb hbox hg) | ((with_reducible refine gate_dst (N := 3) rfl ?_); refine box_event ?hg (N := 3) ?hd (cs := #[.int .i64 a1_0, .int .i64 a1_1]) (t := 28) ?hr ?_; (case hd => rfl); (case hg => rfl); (case hr => first | (go_simp; done) | (go_simp; rfl)); intro g1_ hg w5 hbox hb; have n0_ := bb hb B0_.1; have n1_ := mk (below_step (by repeat first | exact HB.1 | apply pD | apply b1 | refine bT (by assumption) ?_ | apply bA) hb); have n2_ := mk (hbox); have n3_ := gl hg (by repeat first | exact HB.1 | apply pD | apply b1 | refine bT (by assumption) ?_ | apply bA); have n4_ := gl hg (by repeat first | exact HB.1 | apply pD | apply b1 | refine bT (by assumption) ?_ | apply bA); have n5_ := nl hg B0_.1; have n6_ := ng hg B0_.1; clear B0_; clear HB; have B0_ := n0_; have HB := n1_; have B1_ := n2_; have W1_ := n3_; have E1_ := n4_; have N01_ := n5_; have N10_ := n6_; clear n0_ n1_ n2_ n3_ n4_ n5_ n6_; clear hb hbox hg; have hnb6 := N01_.1; have hnc6 := N10_.1; have hcz7_0 : w5.cell? ⟨g0_, 0, none⟩ = some (.int .i64 a0_0) := bQ B0_.1 0; have hcz7_1 : w5.cell? ⟨g0_, 1, none⟩ = some (.int .i64 a0_1) := bQ B0_.1 1; have hfz7_0 := blk_frozen B0_.1 0; have hfz7_1 := blk_frozen B0_.1 1; have hcz8_0 : w5.cell? ⟨g1_, 0, none⟩ = some (.int .i64 a1_0) := bQ B1_.1 0; have hcz8_1 : w5.cell? ⟨g1_, 1, none⟩ = some (.int .i64 a1_1) := bQ B1_.1 1; have hfz8_0 := blk_frozen B1_.1 0; have hfz8_1 := blk_frozen B1_.1 1))
  go_ret
  exact ⟨by first | rfl | (simp [errW_none, errW_some] <;> rfl) | (simp [*, errW_none, errW_some] <;> rfl), by repeat (first | (with_reducible first | exact HB.1 | apply bA | apply pD | apply b1 | apply bS E0_.1 | apply bS E1_.1) | exact HB.1)⟩
 rw [if_neg c3] at H
 have c3b0 : (a0_0 == a1_0) = false := beq_eq_false_iff_ne.mpr c3
 have c3b1 : (a0_0 != a1_0) = true := bne_iff_ne.mpr c3
 obtain rfl := Option.some.inj H
 go_enter Try.func24, Try.ntmps24
 go_wp2_with (first | ((with_reducible refine gate_dst (N := 2) rfl ?_); refine box_event ?hg (N := 2) ?hd (cs := #[.int .i64 a0_0, .int .i64 a0_1]) (t := 28) ?hr ?_; (case hd => rfl); (case hg => rfl); (case hr => first | (go_simp; done) | (go_simp; rfl)); intro g0_ hg w9 hbox hb; have n0_ := mk (below_step (by repeat first | exact HB.1 | apply pD | apply b1 | refine bT (by assumption) ?_ | apply bA) hb); have n1_ := mk (hbox); have n2_ := gl hg (by repeat first | exact HB.1 | apply pD | apply b1 | refine bT (by assumption) ?_ | apply bA); have n3_ := gl hg (by repeat first | exact HB.1 | apply pD | apply b1 | refine bT (by assumption) ?_ | apply bA); clear HB; have HB := n0_; have B0_ := n1_; have W0_ := n2_; have E0_ := n3_; clear n0_ n1_ n2_ n3_; clear hb hbox hg) | ((with_reducible refine gate_dst (N := 3) rfl ?_); refine box_event ?hg (N := 3) ?hd (cs := #[.int .i64 a1_0, .int .i64 a1_1]) (t := 28) ?hr ?_; (case hd => rfl); (case hg => rfl); (case hr => first | (go_simp; done) | (go_simp; rfl)); intro g1_ hg w10 hbox hb; have n0_ := bb hb B0_.1; have n1_ := mk (below_step (by repeat first | exact HB.1 | apply pD | apply b1 | refine bT (by assumption) ?_ | apply bA) hb); have n2_ := mk (hbox); have n3_ := gl hg (by repeat first | exact HB.1 | apply pD | apply b1 | refine bT (by assumption) ?_ | apply bA); have n4_ := gl hg (by repeat first | exact HB.1 | apply pD | apply b1 | refine bT (by assumption) ?_ | apply bA); have n5_ := nl hg B0_.1; have n6_ := ng hg B0_.1; clear B0_; clear HB; have B0_ := n0_; have HB := n1_; have B1_ := n2_; have W1_ := n3_; have E1_ := n4_; have N01_ := n5_; have N10_ := n6_; clear n0_ n1_ n2_ n3_ n4_ n5_ n6_; clear hb hbox hg; have hnb11 := N01_.1; have hnc11 := N10_.1; have hcz12_0 : w10.cell? ⟨g0_, 0, none⟩ = some (.int .i64 a0_0) := bQ B0_.1 0; have hfz12_0 := blk_frozen B0_.1 0; have hcz13_0 : w10.cell? ⟨g1_, 0, none⟩ = some (.int .i64 a1_0) := bQ B1_.1 0; have hfz13_0 := blk_frozen B1_.1 0))
 go_ret
 exact ⟨by first | rfl | (simp [errW_none, errW_some] <;> rfl) | (simp [*, errW_none, errW_some] <;> rfl), by repeat (first | (with_reducible first | exact HB.1 | apply bA | apply pD | apply b1 | apply bS E0_.1 | apply bS E1_.1) | exact HB.1)⟩

-- NOT PRINTED: function 25 (health_Front_Stamp)

/-! ### hlc_Less: function 72 -/
def hlc_Less.f (a0_0 : Int) (a0_1 : Int) (a1_0 : Int) (a1_1 : Int) : Option (Bool) := if a0_0 < a1_0 then (some true) else (if a0_0 = a1_0 then (some (decide (a0_1 < a1_1))) else (some false))
set_option maxHeartbeats 8000000 in
set_option maxRecDepth 100000 in
theorem hlc_Less.calls (a0_0 : Int) (a0_1 : Int) (a1_0 : Int) (a1_1 : Int) (r : Bool) (w : World) (h : hlc_Less.f a0_0 a0_1 a1_0 a1_1 = some r) :
  Calls Try.prog 72 #[.agg #[.int .i64 a0_0, .int .i64 a0_1], .agg #[.int .i64 a1_0, .int .i64 a1_1]] w fun e w' => e = .returned (.bool r) ∧ Below w.heap.size w w' := by
 have hu28 := Try.underlying28
 have HB := mk (Below.refl w.heap.size w)
 have H : (if a0_0 < a1_0 then (some true) else (if a0_0 = a1_0 then (some (decide (a0_1 < a1_1))) else (some false))) = some r := h
 clear h
 by_cases c3 : a0_0 < a1_0
 ·rw [if_pos c3] at H
  have c3b0 : decide (a0_0 < a1_0) = true := decide_eq_true c3
  clear c3
  obtain rfl := Option.some.inj H
  go_enter Try.func72, Try.ntmps72
  go_wp2_with (first | ((with_reducible refine gate_dst (N := 2) rfl ?_); refine box_event ?hg (N := 2) ?hd (cs := #[.int .i64 a0_0, .int .i64 a0_1]) (t := 28) ?hr ?_; (case hd => rfl); (case hg => rfl); (case hr => first | (go_simp; done) | (go_simp; rfl)); intro g0_ hg w4 hbox hb; have n0_ := mk (below_step (by repeat first | exact HB.1 | apply pD | apply b1 | refine bT (by assumption) ?_ | apply bA) hb); have n1_ := mk (hbox); have n2_ := gl hg (by repeat first | exact HB.1 | apply pD | apply b1 | refine bT (by assumption) ?_ | apply bA); have n3_ := gl hg (by repeat first | exact HB.1 | apply pD | apply b1 | refine bT (by assumption) ?_ | apply bA); clear HB; have HB := n0_; have B0_ := n1_; have W0_ := n2_; have E0_ := n3_; clear n0_ n1_ n2_ n3_; clear hb hbox hg) | ((with_reducible refine gate_dst (N := 3) rfl ?_); refine box_event ?hg (N := 3) ?hd (cs := #[.int .i64 a1_0, .int .i64 a1_1]) (t := 28) ?hr ?_; (case hd => rfl); (case hg => rfl); (case hr => first | (go_simp; done) | (go_simp; rfl)); intro g1_ hg w5 hbox hb; have n0_ := bb hb B0_.1; have n1_ := mk (below_step (by repeat first | exact HB.1 | apply pD | apply b1 | refine bT (by assumption) ?_ | apply bA) hb); have n2_ := mk (hbox); have n3_ := gl hg (by repeat first | exact HB.1 | apply pD | apply b1 | refine bT (by assumption) ?_ | apply bA); have n4_ := gl hg (by repeat first | exact HB.1 | apply pD | apply b1 | refine bT (by assumption) ?_ | apply bA); have n5_ := nl hg B0_.1; have n6_ := ng hg B0_.1; clear B0_; clear HB; have B0_ := n0_; have HB := n1_; have B1_ := n2_; have W1_ := n3_; have E1_ := n4_; have N01_ := n5_; have N10_ := n6_; clear n0_ n1_ n2_ n3_ n4_ n5_ n6_; clear hb hbox hg; have hnb6 := N01_.1; have hnc6 := N10_.1; have hcz7_0 : w5.cell? ⟨g0_, 0, none⟩ = some (.int .i64 a0_0) := bQ B0_.1 0; have hfz7_0 := blk_frozen B0_.1 0; have hcz8_0 : w5.cell? ⟨g1_, 0, none⟩ = some (.int .i64 a1_0) := bQ B1_.1 0; have hfz8_0 := blk_frozen B1_.1 0))
  go_ret
  exact ⟨by first | rfl | (simp [errW_none, errW_some] <;> rfl) | (simp [*, errW_none, errW_some] <;> rfl), by repeat (first | (with_reducible first | exact HB.1 | apply bA | apply pD | apply b1 | apply bS E0_.1 | apply bS E1_.1) | exact HB.1)⟩
 rw [if_neg c3] at H
 have c3b0 : decide (a0_0 < a1_0) = false := decide_eq_false c3
 clear c3
 by_cases c9 : a0_0 = a1_0
 ·rw [if_pos c9] at H
  have c9b0 : (a0_0 == a1_0) = true := beq_iff_eq.mpr c9
  have c9b1 : (a0_0 != a1_0) = false := bne_eq_false_iff_eq.mpr c9
  clear c9
  obtain rfl := Option.some.inj H
  go_enter Try.func72, Try.ntmps72
  go_wp2_with (first | ((with_reducible refine gate_dst (N := 2) rfl ?_); refine box_event ?hg (N := 2) ?hd (cs := #[.int .i64 a0_0, .int .i64 a0_1]) (t := 28) ?hr ?_; (case hd => rfl); (case hg => rfl); (case hr => first | (go_simp; done) | (go_simp; rfl)); intro g0_ hg w10 hbox hb; have n0_ := mk (below_step (by repeat first | exact HB.1 | apply pD | apply b1 | refine bT (by assumption) ?_ | apply bA) hb); have n1_ := mk (hbox); have n2_ := gl hg (by repeat first | exact HB.1 | apply pD | apply b1 | refine bT (by assumption) ?_ | apply bA); have n3_ := gl hg (by repeat first | exact HB.1 | apply pD | apply b1 | refine bT (by assumption) ?_ | apply bA); clear HB; have HB := n0_; have B0_ := n1_; have W0_ := n2_; have E0_ := n3_; clear n0_ n1_ n2_ n3_; clear hb hbox hg) | ((with_reducible refine gate_dst (N := 3) rfl ?_); refine box_event ?hg (N := 3) ?hd (cs := #[.int .i64 a1_0, .int .i64 a1_1]) (t := 28) ?hr ?_; (case hd => rfl); (case hg => rfl); (case hr => first | (go_simp; done) | (go_simp; rfl)); intro g1_ hg w11 hbox hb; have n0_ := bb hb B0_.1; have n1_ := mk (below_step (by repeat first | exact HB.1 | apply pD | apply b1 | refine bT (by assumption) ?_ | apply bA) hb); have n2_ := mk (hbox); have n3_ := gl hg (by repeat first | exact HB.1 | apply pD | apply b1 | refine bT (by assumption) ?_ | apply bA); have n4_ := gl hg (by repeat first | exact HB.1 | apply pD | apply b1 | refine bT (by assumption) ?_ | apply bA); have n5_ := nl hg B0_.1; have n6_ := ng hg B0_.1; clear B0_; clear HB; have B0_ := n0_; have HB := n1_; have B1_ := n2_; have W1_ := n3_; have E1_ := n4_; have N01_ := n5_; have N10_ := n6_; clear n0_ n1_ n2_ n3_ n4_ n5_ n6_; clear hb hbox hg; have hnb12 := N01_.1; have hnc12 := N10_.1; have hcz13_0 : w11.cell? ⟨g0_, 0, none⟩ = some (.int .i64 a0_0) := bQ B0_.1 0; have hcz13_1 : w11.cell? ⟨g0_, 1, none⟩ = some (.int .i64 a0_1) := bQ B0_.1 1; have hfz13_0 := blk_frozen B0_.1 0; have hfz13_1 := blk_frozen B0_.1 1; have hcz14_0 : w11.cell? ⟨g1_, 0, none⟩ = some (.int .i64 a1_0) := bQ B1_.1 0; have hcz14_1 : w11.cell? ⟨g1_, 1, none⟩ = some (.int .i64 a1_1) := bQ B1_.1 1; have hfz14_0 := blk_frozen B1_.1 0; have hfz14_1 := blk_frozen B1_.1 1))
  go_ret
  exact ⟨by first | rfl | (simp [errW_none, errW_some] <;> rfl) | (simp [*, errW_none, errW_some] <;> rfl), by repeat (first | (with_reducible first | exact HB.1 | apply bA | apply pD | apply b1 | apply bS E0_.1 | apply bS E1_.1) | exact HB.1)⟩
 rw [if_neg c9] at H
 have c9b0 : (a0_0 == a1_0) = false := beq_eq_false_iff_ne.mpr c9
 have c9b1 : (a0_0 != a1_0) = true := bne_iff_ne.mpr c9
 obtain rfl := Option.some.inj H
 go_enter Try.func72, Try.ntmps72
 go_wp2_with (first | ((with_reducible refine gate_dst (N := 2) rfl ?_); refine box_event ?hg (N := 2) ?hd (cs := #[.int .i64 a0_0, .int .i64 a0_1]) (t := 28) ?hr ?_; (case hd => rfl); (case hg => rfl); (case hr => first | (go_simp; done) | (go_simp; rfl)); intro g0_ hg w15 hbox hb; have n0_ := mk (below_step (by repeat first | exact HB.1 | apply pD | apply b1 | refine bT (by assumption) ?_ | apply bA) hb); have n1_ := mk (hbox); have n2_ := gl hg (by repeat first | exact HB.1 | apply pD | apply b1 | refine bT (by assumption) ?_ | apply bA); have n3_ := gl hg (by repeat first | exact HB.1 | apply pD | apply b1 | refine bT (by assumption) ?_ | apply bA); clear HB; have HB := n0_; have B0_ := n1_; have W0_ := n2_; have E0_ := n3_; clear n0_ n1_ n2_ n3_; clear hb hbox hg) | ((with_reducible refine gate_dst (N := 3) rfl ?_); refine box_event ?hg (N := 3) ?hd (cs := #[.int .i64 a1_0, .int .i64 a1_1]) (t := 28) ?hr ?_; (case hd => rfl); (case hg => rfl); (case hr => first | (go_simp; done) | (go_simp; rfl)); intro g1_ hg w16 hbox hb; have n0_ := bb hb B0_.1; have n1_ := mk (below_step (by repeat first | exact HB.1 | apply pD | apply b1 | refine bT (by assumption) ?_ | apply bA) hb); have n2_ := mk (hbox); have n3_ := gl hg (by repeat first | exact HB.1 | apply pD | apply b1 | refine bT (by assumption) ?_ | apply bA); have n4_ := gl hg (by repeat first | exact HB.1 | apply pD | apply b1 | refine bT (by assumption) ?_ | apply bA); have n5_ := nl hg B0_.1; have n6_ := ng hg B0_.1; clear B0_; clear HB; have B0_ := n0_; have HB := n1_; have B1_ := n2_; have W1_ := n3_; have E1_ := n4_; have N01_ := n5_; have N10_ := n6_; clear n0_ n1_ n2_ n3_ n4_ n5_ n6_; clear hb hbox hg; have hnb17 := N01_.1; have hnc17 := N10_.1; have hcz18_0 : w16.cell? ⟨g0_, 0, none⟩ = some (.int .i64 a0_0) := bQ B0_.1 0; have hfz18_0 := blk_frozen B0_.1 0; have hcz19_0 : w16.cell? ⟨g1_, 0, none⟩ = some (.int .i64 a1_0) := bQ B1_.1 0; have hfz19_0 := blk_frozen B1_.1 0))
 go_ret
 exact ⟨by first | rfl | (simp [errW_none, errW_some] <;> rfl) | (simp [*, errW_none, errW_some] <;> rfl), by repeat (first | (with_reducible first | exact HB.1 | apply bA | apply pD | apply b1 | apply bS E0_.1 | apply bS E1_.1) | exact HB.1)⟩

/-! ### hlc_later: function 69 -/
def hlc_later.l0 : Nat → List (S28) → Int → Int → Int → Int → Option (Int × Int)
 | 0, _, _, _, _, _ => none
 | k + 1, x10, x11, x12, x278000, x278001 => if x12 < x11 then (if 0 ≤ x12 then (if x12 < (x10.length : Int) then ((hlc_Less.f x278000 x278001 ((rd_T28 x10 x12).f0) ((rd_T28 x10 x12).f1)).bind fun t284 => (if t284 = true then (hlc_later.l0 k x10 x11 (wrap64 (x12 + 1)) ((rd_T28 x10 x12).f0) ((rd_T28 x10 x12).f1)) else (hlc_later.l0 k x10 x11 (wrap64 (x12 + 1)) x278000 x278001))) else (none)) else (none)) else (some (x278000, x278001))
def hlc_later.f (k : Nat) (l0 : List (S28)) : Option (Int × Int) := if 0 < (l0.length : Int) then (if 1 ≤ (l0.length : Int) then ((some (l0.drop 1 : List (S28))).bind fun y278 => (hlc_later.l0 k y278 (y278.length : Int) 0 ((rd_T28 l0 0).f0) ((rd_T28 l0 0).f1))) else (none)) else (none)
theorem hlc_later.mono_l : ∀ k, (∀ y0 y1 y2 y3 y4, LeO (hlc_later.l0 k y0 y1 y2 y3 y4) (hlc_later.l0 (k + 1) y0 y1 y2 y3 y4))
 | 0 => fun _ _ _ _ _ r h => by simp [hlc_later.l0] at h
 | k + 1 => by
  have ih0 := hlc_later.mono_l k
  intro y0 y1 y2 y3 y4
  unfold hlc_later.l0
  repeat' first
  | (with_reducible exact ih0 _ _ _ _ _)
  | (with_reducible exact LeO.refl _)
  | (with_reducible exact LeO.none _)
  | (with_reducible refine LeO.ite ?_ ?_)
  | (with_reducible refine LeO.bind ?_ (fun _ => ?_))
  | exact ih0 _ _ _ _ _
  | exact LeO.none _
  | refine LeO.ite ?_ ?_
  | refine LeO.bind ?_ (fun _ => ?_)
theorem hlc_later.mono : ∀ a0 k, LeO (hlc_later.f k a0) (hlc_later.f (k + 1) a0) := by
 intro a0 k
 have ih0 := hlc_later.mono_l k
 unfold hlc_later.f
 repeat' first
   | (with_reducible exact ih0 _ _ _ _ _)
   | (with_reducible exact LeO.refl _)
   | (with_reducible exact LeO.none _)
   | (with_reducible refine LeO.ite ?_ ?_)
   | (with_reducible refine LeO.bind ?_ (fun _ => ?_))
   | exact ih0 _ _ _ _ _
   | exact LeO.none _
   | refine LeO.ite ?_ ?_
   | refine LeO.bind ?_ (fun _ => ?_)
set_option maxHeartbeats 8000000 in
set_option maxRecDepth 100000 in
theorem hlc_later.calls (k : Nat) (A0 : Option Addr) (c0 : Nat) (l0 : List (S28)) (r1 : Int) (r2 : Int) (w : World) (hr0 : Kd.C k28 w A0 l0.length l0) (hc0 : l0.length ≤ c0) (h : hlc_later.f k l0 = some (r1, r2)) :
  Calls Try.prog 69 #[.slice A0 l0.length c0] w fun e w' => e = .returned (.agg #[.int .i64 r1, .int .i64 r2]) ∧ Below w.heap.size w w' := by
 have hu28 := Try.underlying28
 have HR0 := mk hr0
 have HC0 := mk hc0
 clear hr0 hc0
 have HB := mk (Below.refl w.heap.size w)
 have H : (if 0 < (l0.length : Int) then (if 1 ≤ (l0.length : Int) then ((some (l0.drop 1 : List (S28))).bind fun y278 => (hlc_later.l0 k y278 (y278.length : Int) 0 ((rd_T28 l0 0).f0) ((rd_T28 l0 0).f1))) else (none)) else (none)) = some (r1, r2) := h
 clear h
 by_cases c2 : 0 < (l0.length : Int)
 ·rw [if_pos c2] at H
  have c2b0 : decide (0 < (l0.length : Int)) = true := decide_eq_true c2
  have c2b1 : decide (0 < l0.length) = true := decide_eq_true (by omega)
  clear c2
  by_cases c3 : 1 ≤ (l0.length : Int)
  ·rw [if_pos c3] at H
   have c3b0 := eq_true c3
   have c3b1 : decide (1 ≤ (l0.length : Int)) = true := decide_eq_true c3
   clear c3
   obtain ⟨y278, hy278⟩ : ∃ y_ : List (S28), y_ = (l0.drop 1) := ⟨_, rfl⟩
   replace H : (hlc_later.l0 k y278 (y278.length : Int) 0 ((rd_T28 l0 0).f0) ((rd_T28 l0 0).f1)) = some (r1, r2) := by first | (rw [hy278]; with_reducible exact H) | (have H2_ := (Option.bind_some _ _).symm.trans H; rw [hy278]; with_reducible exact H2_) | (have H2_ := (Option.bind_some _ _).symm.trans H; with_reducible exact H2_) | with_reducible exact H | (rw [hy278]; exact H) | exact H
   have Ny278 := mk hy278
   clear hy278
   have H' := mk H
   clear H
   go_enter Try.func69, Try.ntmps69
   go_wp2_with (first | ((with_reducible refine gate_dst (N := 2) rfl ?_); refine box_event ?hg (N := 2) ?hd (cs := #[.int .i64 0, .int .i64 0]) (t := 28) ?hr ?_; (case hd => rfl); (case hg => rfl); (case hr => first | (go_simp; done) | (go_simp; rfl)); intro g0_ hg w4 hbox hb; have n0_ := mk (below_step (by repeat first | exact HB.1 | apply pD | apply b1 | refine bT (by assumption) ?_ | apply bA) hb); have n1_ := mk (hbox); have n2_ := gl hg (by repeat first | exact HB.1 | apply pD | apply b1 | refine bT (by assumption) ?_ | apply bA); have n3_ := gl hg (by repeat first | exact HB.1 | apply pD | apply b1 | refine bT (by assumption) ?_ | apply bA); clear HB; have HB := n0_; have B0_ := n1_; have W0_ := n2_; have E0_ := n3_; clear n0_ n1_ n2_ n3_; clear hb hbox hg; have p276 : 0 ≤ (0 : Int) := (by omega); have q276 : 0 < (l0.length : Int) := of_decide_eq_true (by first | (with_reducible assumption) | assumption); obtain ⟨ad276, e276, hx276_0, hx276_1⟩ := at_T28 HR0.out 0 p276 q276; cases e276; have qi276 : (0 < l0.length) = True := eq_true (by omega); (try rw [show ((0 : Int)).toNat = 0 from rfl] at hx276_0); (try rw [show 0 * 2 = 0 from rfl] at hx276_0); (try rw [Addr.add_zero'] at hx276_0); (try rw [show ((0 : Int)).toNat = 0 from rfl] at hx276_1); (try rw [show 0 * 2 = 0 from rfl] at hx276_1); (try rw [Addr.add_zero'] at hx276_1); replace hx276_0 := (HB.1.cell (World.block_lt_of_cell? w _ hx276_0)).trans hx276_0; replace hx276_1 := (HB.1.cell (World.block_lt_of_cell? w _ hx276_1)).trans hx276_1; replace p276 := eq_true p276; replace q276 := eq_true q276) | ((with_reducible refine gate_dst (N := 3) rfl ?_); refine box_event ?hg (N := 3) ?hd (cs := #[.int .i64 0, .int .i64 0]) (t := 28) ?hr ?_; (case hd => rfl); (case hg => rfl); (case hr => first | (go_simp; done) | (go_simp; rfl)); intro g1_ hg w5 hbox hb; have n0_ := bb hb B0_.1; have n1_ := mk (below_step (by repeat first | exact HB.1 | apply pD | apply b1 | refine bT (by assumption) ?_ | apply bA) hb); have n2_ := mk (hbox); have n3_ := gl hg (by repeat first | exact HB.1 | apply pD | apply b1 | refine bT (by assumption) ?_ | apply bA); have n4_ := gl hg (by repeat first | exact HB.1 | apply pD | apply b1 | refine bT (by assumption) ?_ | apply bA); have n5_ := nl hg B0_.1; have n6_ := ng hg B0_.1; clear B0_; clear HB; have B0_ := n0_; have HB := n1_; have B1_ := n2_; have W1_ := n3_; have E1_ := n4_; have N01_ := n5_; have N10_ := n6_; clear n0_ n1_ n2_ n3_ n4_ n5_ n6_; clear hb hbox hg; have hnb6 := N10_.1; have hnc6 := N01_.1; have hcz7_0 : w5.cell? ⟨g1_, 0, none⟩ = some (.int .i64 0) := bQ B1_.1 0; have hcz7_1 : w5.cell? ⟨g1_, 1, none⟩ = some (.int .i64 0) := bQ B1_.1 1; have hfz7_0 := blk_frozen B1_.1 0; have hfz7_1 := blk_frozen B1_.1 1) | ((with_reducible refine gate_store (t := 28) (p := 3) rfl ?_); refine store_event (t := 28) (p := 3) (v := ?vo_w8) (w1 := ((w5.setCell ⟨g1_, 0, none⟩ (.int .i64 ((rd_T28 l0 0).f0))).setCell ⟨g1_, 1, none⟩ (.int .i64 ((rd_T28 l0 0).f1)))) ?hg ?ho ?hn ?hr ?_; (case ho => rfl); (case hg => rfl); (case hn => rfl); (case hr => first | (go_simp; done) | (go_simp; rfl)); intro w8 hw; have n0_ : Aside0 (w8.heap[g0_]? = some (.cells #[.int .i64 0, .int .i64 0] 28 (0, 0))) := ⟨(by rw [hw]; exact (by (with_reducible repeat (first | refine blk_drewN ?_ _ | refine blk_drew ?_ | refine blk_alloc ?_ _)); refine blk_far ?_ N01_.1 _; (with_reducible repeat (first | refine blk_drewN ?_ _ | refine blk_drew ?_ | refine blk_alloc ?_ _)); refine blk_far ?_ N01_.1 _; (with_reducible repeat (first | refine blk_drewN ?_ _ | refine blk_drew ?_ | refine blk_alloc ?_ _)); exact B0_.1))⟩; have n1_ : Aside0 (w8.heap[g1_]? = some (.cells #[.int .i64 ((rd_T28 l0 0).f0), .int .i64 ((rd_T28 l0 0).f1)] 28 (0, 0))) := ⟨(by rw [hw]; exact (by (with_reducible repeat (first | refine blk_drewN ?_ _ | refine blk_drew ?_ | refine blk_alloc ?_ _)); refine blk_put (cs := #[.int .i64 ((rd_T28 l0 0).f0), .int .i64 0]) ?_ 1 _ rfl; (with_reducible repeat (first | refine blk_drewN ?_ _ | refine blk_drew ?_ | refine blk_alloc ?_ _)); refine blk_put (cs := #[.int .i64 0, .int .i64 0]) ?_ 0 _ rfl; (with_reducible repeat (first | refine blk_drewN ?_ _ | refine blk_drew ?_ | refine blk_alloc ?_ _)); exact B1_.1))⟩; have n2_ : Aside0 (Below w.heap.size w w8) := ⟨(by rw [hw]; exact (by repeat (first | (with_reducible first | exact HB.1 | apply bA | apply pD | apply b1 | apply bS E0_.1 | apply bS E1_.1) | exact HB.1)))⟩; clear hw; clear B0_; clear B1_; clear HB; have B0_ := n0_; have B1_ := n1_; have HB := n2_; clear n0_ n1_ n2_; have q9 : (1 : Int) ≤ ((l0.length : Int) : Int) := of_decide_eq_true (by first | (with_reducible assumption) | assumption); obtain ⟨i09, hi09, _, hsz9, _⟩ := info_parts info28; have hroom9 : l0.length ≤ c0 := HC0.out; have hC9 : Kd.C k28 _ (some ad276) l0.length l0 := HR0.out; have hcut9 := cut_from (P := Try.prog) 93 28 .i64 Try.underlying93 hi09 2 hsz9 (some ad276) l0.length c0 1 (by omega) q9; have hr9 := Kd.C_drop (m := (1 : Int).toNat) (c := c0) hC9 (by omega) hroom9; obtain ⟨A9, hA9⟩ : ∃ A1, A1 = (if c0 = (1 : Int).toNat then (some ad276) else ((some ad276) : Option Addr).map (·.add ((1 : Int).toNat * 2))) := ⟨_, rfl⟩; obtain ⟨c9, hc9⟩ : ∃ c1, c1 = c0 - (1 : Int).toNat := ⟨_, rfl⟩; have hy9 : y278.length = l0.length - (1 : Int).toNat := (by rw [Ny278.out, List.length_drop] <;> omega); rw [show (l0).drop (1 : Int).toNat = y278 from Ny278.out.symm] at hr9; replace hr9 : Kd.C k28 _ A9 y278.length y278 := (by rw [hA9]; exact hr9); rw [← hy9, ← hA9, ← hc9] at hcut9; have HR281 := mk hr9; have HC281 := mk (show y278.length ≤ c9 from by rw [hy9, hc9]; exact Nat.sub_le_sub_right hroom9 _); clear hr9 hC9 hroom9 hi09 hsz9 hc9; have KY9 := mk hy9; have KA9 := mk hA9; clear hy9 hA9; replace q9 := eq_true q9))
   go_loopg [12] k (fun kq v12 w' => ∃ (x12_1 : Int) (x278000_1 : Int) (x278001_1 : Int), v12 = .int .i64 x12_1 ∧ Aside0 (hlc_later.l0 kq y278 (y278.length : Int) x12_1 x278000_1 x278001_1 = some (r1, r2)) ∧ Aside0 (kq ≤ k) ∧ Aside0 (w'.heap[g0_]? = some (.cells #[.int .i64 0, .int .i64 0] 28 (0, 0))) ∧ Aside0 (w'.heap[g1_]? = some (.cells #[.int .i64 x278000_1, .int .i64 x278001_1] 28 (0, 0))) ∧ Aside0 (Below w.heap.size w w'))
   case atStart => exact ⟨(0), ((rd_T28 l0 0).f0), ((rd_T28 l0 0).f1), (by first | rfl | (simp; done) | (simp [*]; done) | (simp [Int.tdiv_eq_ediv_of_nonneg]; done) | (simp [Go.RowKit.wrap64]; done) | (simp [*, Go.RowKit.wrap64]; done)), H', ⟨Nat.le_refl _⟩, ⟨by exact B0_.1⟩, ⟨by exact B1_.1⟩, ⟨by repeat (first | (with_reducible first | exact HB.1 | apply bA | apply pD | apply b1 | apply bS E0_.1 | apply bS E1_.1) | exact HB.1)⟩⟩
   case round =>
    clear H'
    try clear c1
    try clear c2
    try clear c2b0
    try clear c2b1
    try clear p2
    try clear q2
    try clear hx2
    try clear qi2
    try clear c3
    try clear c3b0
    try clear c3b1
    try clear c6
    try clear c9
    try clear q9
    try clear hcz7_0
    try clear hcz7_1
    try clear hfz7_0
    try clear hfz7_1
    try clear hx276_0
    try clear hx276_1
    try clear p276
    try clear q276
    try clear q9
    obtain ⟨x12_1, x278000_1, x278001_1, rfl, HA, HK1, B0_, B1_, HB⟩ := hrel
    cases gk with
    | zero => exact absurd HA.out (by simp [hlc_later.l0])
    | succ k1 =>
     have H := HA.out
     clear HA
     simp only [hlc_later.l0] at H
     by_cases c10 : x12_1 < (y278.length : Int)
     ·rw [if_pos c10] at H
      have c10b0 : decide (x12_1 < (y278.length : Int)) = true := decide_eq_true c10
      clear c10
      by_cases c11 : 0 ≤ x12_1
      ·rw [if_pos c11] at H
       have c11b0 : decide (0 ≤ x12_1) = true := decide_eq_true c11
       clear c11
       by_cases c12 : x12_1 < (y278.length : Int)
       ·rw [if_pos c12] at H
        have c12b0 : decide (x12_1 < (y278.length : Int)) = true := decide_eq_true c12
        clear c12
        replace H := Option.bind_eq_some_iff.mp H
        obtain ⟨t284, A130, H⟩ := H
        replace H : (if t284 = true then (hlc_later.l0 k1 y278 (y278.length : Int) (wrap64 (x12_1 + 1)) ((rd_T28 y278 x12_1).f0) ((rd_T28 y278 x12_1).f1)) else (hlc_later.l0 k1 y278 (y278.length : Int) (wrap64 (x12_1 + 1)) x278000_1 x278001_1)) = some (r1, r2) := H
        have A13 := mk A130
        clear A130
        by_cases c14 : t284 = true
        ·subst c14
         have H1 : (hlc_later.l0 k1 y278 (y278.length : Int) (wrap64 (x12_1 + 1)) ((rd_T28 y278 x12_1).f0) ((rd_T28 y278 x12_1).f1)) = some (r1, r2) := by rw [if_pos rfl] at H; exact H
         clear H
         have H := H1
         clear H1
         have H' := mk H
         clear H
         have p282 : 0 ≤ (x12_1 : Int) := of_decide_eq_true (by first | (with_reducible assumption) | assumption)
         have q282 : x12_1 < (y278.length : Int) := of_decide_eq_true (by first | (with_reducible assumption) | assumption)
         obtain ⟨ad282, e282, hx282_0, hx282_1⟩ := at_T28 HR281.out x12_1 p282 q282
         cases e282
         replace hx282_0 := (HB.1.cell (World.block_lt_of_cell? w _ hx282_0)).trans hx282_0
         replace hx282_1 := (HB.1.cell (World.block_lt_of_cell? w _ hx282_1)).trans hx282_1
         replace p282 := eq_true p282
         replace q282 := eq_true q282
         go_wp2_with (first | ((with_reducible refine gate_dst (N := 5) rfl ?_); refine box_event ?hg (N := 5) ?hd (cs := #[.int .i64 0, .int .i64 0]) (t := 28) ?hr ?_; (case hd => rfl); (case hg => rfl); (case hr => first | (go_simp; done) | (go_simp; rfl)); intro g2_ hg w15 hbox hb; have n0_ := bb hb B0_.1; have n1_ := bb hb B1_.1; have n2_ := mk (below_step (by repeat first | exact HB.1 | apply pD | apply b1 | refine bT (by assumption) ?_ | apply bA) hb); have n3_ := mk (hbox); have n4_ := gl hg (by repeat first | exact HB.1 | apply pD | apply b1 | refine bT (by assumption) ?_ | apply bA); have n5_ := gl hg (by repeat first | exact HB.1 | apply pD | apply b1 | refine bT (by assumption) ?_ | apply bA); have n6_ := nl hg B0_.1; have n7_ := ng hg B0_.1; have n8_ := nl hg B1_.1; have n9_ := ng hg B1_.1; clear B0_; clear B1_; clear HB; have B0_ := n0_; have B1_ := n1_; have HB := n2_; have B2_ := n3_; have W2_ := n4_; have E2_ := n5_; have N02_ := n6_; have N20_ := n7_; have N12_ := n8_; have N21_ := n9_; clear n0_ n1_ n2_ n3_ n4_ n5_ n6_ n7_ n8_ n9_; clear hb hbox hg; have hnb16 := N20_.1; have hnc16 := N02_.1; have hnb17 := N21_.1; have hnc17 := N12_.1; have hcz18_0 : w15.cell? ⟨g2_, 0, none⟩ = some (.int .i64 0) := bQ B2_.1 0; have hcz18_1 : w15.cell? ⟨g2_, 1, none⟩ = some (.int .i64 0) := bQ B2_.1 1; have hfz18_0 := blk_frozen B2_.1 0; have hfz18_1 := blk_frozen B2_.1 1; have hnb19 := N10_.1; have hnc19 := N01_.1; have hcz20_0 : w15.cell? ⟨g1_, 0, none⟩ = some (.int .i64 x278000_1) := bQ B1_.1 0; have hcz20_1 : w15.cell? ⟨g1_, 1, none⟩ = some (.int .i64 x278001_1) := bQ B1_.1 1; have hfz20_0 := blk_frozen B1_.1 0; have hfz20_1 := blk_frozen B1_.1 1) | ((with_reducible refine gate_callee (f := 72) rfl ?_); refine goesL_ (some 18) rfl rfl Try.func72 (by kernel_rfl) rfl #[.agg #[.int .i64 x278000_1, .int .i64 x278001_1], .agg #[.int .i64 ((rd_T28 y278 x12_1).f0), .int .i64 ((rd_T28 y278 x12_1).f1)]] rfl (by (try simp only [List.map_toArray, List.map_cons, List.map_nil]); first | done | rfl | (simp only [List.length_drop, List.length_take]; rfl)) ?_; (with_reducible refine (hlc_Less.calls x278000_1 x278001_1 ((rd_T28 y278 x12_1).f0) ((rd_T28 y278 x12_1).f1) true _ A13.1).mono ?_); rintro e w21 ⟨rfl, hb⟩; refine ⟨_, rfl, ?_⟩; have n0_ := mk (blk_below (g := g0_) (o := .cells #[.int .i64 0, .int .i64 0] 28 (0, 0)) (by (with_reducible repeat (first | refine blk_drewN ?_ _ | refine blk_drew ?_ | refine blk_alloc ?_ _)); refine blk_far ?_ N02_.1 _; (with_reducible repeat (first | refine blk_drewN ?_ _ | refine blk_drew ?_ | refine blk_alloc ?_ _)); refine blk_far ?_ N02_.1 _; (with_reducible repeat (first | refine blk_drewN ?_ _ | refine blk_drew ?_ | refine blk_alloc ?_ _)); exact B0_.1) hb); have n1_ := mk (blk_below (g := g1_) (o := .cells #[.int .i64 x278000_1, .int .i64 x278001_1] 28 (0, 0)) (by (with_reducible repeat (first | refine blk_drewN ?_ _ | refine blk_drew ?_ | refine blk_alloc ?_ _)); refine blk_far ?_ N12_.1 _; (with_reducible repeat (first | refine blk_drewN ?_ _ | refine blk_drew ?_ | refine blk_alloc ?_ _)); refine blk_far ?_ N12_.1 _; (with_reducible repeat (first | refine blk_drewN ?_ _ | refine blk_drew ?_ | refine blk_alloc ?_ _)); exact B1_.1) hb); have n2_ := mk (blk_below (g := g2_) (o := .cells #[.int .i64 ((rd_T28 y278 x12_1).f0), .int .i64 ((rd_T28 y278 x12_1).f1)] 28 (0, 0)) (by (with_reducible repeat (first | refine blk_drewN ?_ _ | refine blk_drew ?_ | refine blk_alloc ?_ _)); refine blk_put (cs := #[.int .i64 ((rd_T28 y278 x12_1).f0), .int .i64 0]) ?_ 1 _ rfl; (with_reducible repeat (first | refine blk_drewN ?_ _ | refine blk_drew ?_ | refine blk_alloc ?_ _)); refine blk_put (cs := #[.int .i64 0, .int .i64 0]) ?_ 0 _ rfl; (with_reducible repeat (first | refine blk_drewN ?_ _ | refine blk_drew ?_ | refine blk_alloc ?_ _)); exact B2_.1) hb); have n3_ := mk (below_step (by repeat first | exact HB.1 | apply pD | apply b1 | refine bT (by assumption) ?_ | apply bA) hb); clear B0_; clear B1_; clear B2_; clear HB; have B0_ := n0_; have B1_ := n1_; have B2_ := n2_; have HB := n3_; clear n0_ n1_ n2_ n3_; (try clear hb); (try clear hb2); (try clear hk); (try clear hi); have hcz22_0 : w21.cell? ⟨g2_, 0, none⟩ = some (.int .i64 ((rd_T28 y278 x12_1).f0)) := bQ B2_.1 0; have hcz22_1 : w21.cell? ⟨g2_, 1, none⟩ = some (.int .i64 ((rd_T28 y278 x12_1).f1)) := bQ B2_.1 1; have hfz22_0 := blk_frozen B2_.1 0; have hfz22_1 := blk_frozen B2_.1 1; have hcz23_0 : w21.cell? ⟨g1_, 0, none⟩ = some (.int .i64 x278000_1) := bQ B1_.1 0; have hcz23_1 : w21.cell? ⟨g1_, 1, none⟩ = some (.int .i64 x278001_1) := bQ B1_.1 1; have hfz23_0 := blk_frozen B1_.1 0; have hfz23_1 := blk_frozen B1_.1 1))
         go_roundg k1
         case measure => have := HK1.out; omega
         case rel => exact ⟨(wrap64 (x12_1 + 1)), ((rd_T28 y278 x12_1).f0), ((rd_T28 y278 x12_1).f1), (by first | rfl | (simp; done) | (simp [*]; done) | (simp [Int.tdiv_eq_ediv_of_nonneg]; done) | (simp [Go.RowKit.wrap64]; done) | (simp [*, Go.RowKit.wrap64]; done)), H', ⟨by have := HK1.out; omega⟩, ⟨by (with_reducible repeat (first | refine blk_drewN ?_ _ | refine blk_drew ?_ | refine blk_alloc ?_ _)); refine blk_far ?_ N01_.1 _; (with_reducible repeat (first | refine blk_drewN ?_ _ | refine blk_drew ?_ | refine blk_alloc ?_ _)); refine blk_far ?_ N01_.1 _; (with_reducible repeat (first | refine blk_drewN ?_ _ | refine blk_drew ?_ | refine blk_alloc ?_ _)); exact B0_.1⟩, ⟨by (with_reducible repeat (first | refine blk_drewN ?_ _ | refine blk_drew ?_ | refine blk_alloc ?_ _)); refine blk_put (cs := #[.int .i64 ((rd_T28 y278 x12_1).f0), .int .i64 x278001_1]) ?_ 1 _ rfl; (with_reducible repeat (first | refine blk_drewN ?_ _ | refine blk_drew ?_ | refine blk_alloc ?_ _)); refine blk_put (cs := #[.int .i64 x278000_1, .int .i64 x278001_1]) ?_ 0 _ rfl; (with_reducible repeat (first | refine blk_drewN ?_ _ | refine blk_drew ?_ | refine blk_alloc ?_ _)); exact B1_.1⟩, ⟨by repeat (first | (with_reducible first | exact HB.1 | apply bA | apply pD | apply b1 | apply bS E0_.1 | apply bS E1_.1 | apply bS E2_.1) | exact HB.1)⟩⟩
        replace c14 := Bool.eq_false_iff.mpr c14
        subst c14
        have H1 : (hlc_later.l0 k1 y278 (y278.length : Int) (wrap64 (x12_1 + 1)) x278000_1 x278001_1) = some (r1, r2) := by rw [if_neg (show ¬ (false = true) by decide)] at H; exact H
        clear H
        have H := H1
        clear H1
        have H' := mk H
        clear H
        have p282 : 0 ≤ (x12_1 : Int) := of_decide_eq_true (by first | (with_reducible assumption) | assumption)
        have q282 : x12_1 < (y278.length : Int) := of_decide_eq_true (by first | (with_reducible assumption) | assumption)
        obtain ⟨ad282, e282, hx282_0, hx282_1⟩ := at_T28 HR281.out x12_1 p282 q282
        cases e282
        replace hx282_0 := (HB.1.cell (World.block_lt_of_cell? w _ hx282_0)).trans hx282_0
        replace hx282_1 := (HB.1.cell (World.block_lt_of_cell? w _ hx282_1)).trans hx282_1
        replace p282 := eq_true p282
        replace q282 := eq_true q282
        go_wp2_with (first | ((with_reducible refine gate_dst (N := 5) rfl ?_); refine box_event ?hg (N := 5) ?hd (cs := #[.int .i64 0, .int .i64 0]) (t := 28) ?hr ?_; (case hd => rfl); (case hg => rfl); (case hr => first | (go_simp; done) | (go_simp; rfl)); intro g2_ hg w24 hbox hb; have n0_ := bb hb B0_.1; have n1_ := bb hb B1_.1; have n2_ := mk (below_step (by repeat first | exact HB.1 | apply pD | apply b1 | refine bT (by assumption) ?_ | apply bA) hb); have n3_ := mk (hbox); have n4_ := gl hg (by repeat first | exact HB.1 | apply pD | apply b1 | refine bT (by assumption) ?_ | apply bA); have n5_ := gl hg (by repeat first | exact HB.1 | apply pD | apply b1 | refine bT (by assumption) ?_ | apply bA); have n6_ := nl hg B0_.1; have n7_ := ng hg B0_.1; have n8_ := nl hg B1_.1; have n9_ := ng hg B1_.1; clear B0_; clear B1_; clear HB; have B0_ := n0_; have B1_ := n1_; have HB := n2_; have B2_ := n3_; have W2_ := n4_; have E2_ := n5_; have N02_ := n6_; have N20_ := n7_; have N12_ := n8_; have N21_ := n9_; clear n0_ n1_ n2_ n3_ n4_ n5_ n6_ n7_ n8_ n9_; clear hb hbox hg; have hnb25 := N20_.1; have hnc25 := N02_.1; have hnb26 := N21_.1; have hnc26 := N12_.1; have hcz27_0 : w24.cell? ⟨g2_, 0, none⟩ = some (.int .i64 0) := bQ B2_.1 0; have hcz27_1 : w24.cell? ⟨g2_, 1, none⟩ = some (.int .i64 0) := bQ B2_.1 1; have hfz27_0 := blk_frozen B2_.1 0; have hfz27_1 := blk_frozen B2_.1 1; have hnb28 := N10_.1; have hnc28 := N01_.1; have hcz29_0 : w24.cell? ⟨g1_, 0, none⟩ = some (.int .i64 x278000_1) := bQ B1_.1 0; have hcz29_1 : w24.cell? ⟨g1_, 1, none⟩ = some (.int .i64 x278001_1) := bQ B1_.1 1; have hfz29_0 := blk_frozen B1_.1 0; have hfz29_1 := blk_frozen B1_.1 1) | ((with_reducible refine gate_callee (f := 72) rfl ?_); refine goesL_ (some 18) rfl rfl Try.func72 (by kernel_rfl) rfl #[.agg #[.int .i64 x278000_1, .int .i64 x278001_1], .agg #[.int .i64 ((rd_T28 y278 x12_1).f0), .int .i64 ((rd_T28 y278 x12_1).f1)]] rfl (by (try simp only [List.map_toArray, List.map_cons, List.map_nil]); first | done | rfl | (simp only [List.length_drop, List.length_take]; rfl)) ?_; (with_reducible refine (hlc_Less.calls x278000_1 x278001_1 ((rd_T28 y278 x12_1).f0) ((rd_T28 y278 x12_1).f1) false _ A13.1).mono ?_); rintro e w30 ⟨rfl, hb⟩; refine ⟨_, rfl, ?_⟩; have n0_ := mk (blk_below (g := g0_) (o := .cells #[.int .i64 0, .int .i64 0] 28 (0, 0)) (by (with_reducible repeat (first | refine blk_drewN ?_ _ | refine blk_drew ?_ | refine blk_alloc ?_ _)); refine blk_far ?_ N02_.1 _; (with_reducible repeat (first | refine blk_drewN ?_ _ | refine blk_drew ?_ | refine blk_alloc ?_ _)); refine blk_far ?_ N02_.1 _; (with_reducible repeat (first | refine blk_drewN ?_ _ | refine blk_drew ?_ | refine blk_alloc ?_ _)); exact B0_.1) hb); have n1_ := mk (blk_below (g := g1_) (o := .cells #[.int .i64 x278000_1, .int .i64 x278001_1] 28 (0, 0)) (by (with_reducible repeat (first | refine blk_drewN ?_ _ | refine blk_drew ?_ | refine blk_alloc ?_ _)); refine blk_far ?_ N12_.1 _; (with_reducible repeat (first | refine blk_drewN ?_ _ | refine blk_drew ?_ | refine blk_alloc ?_ _)); refine blk_far ?_ N12_.1 _; (with_reducible repeat (first | refine blk_drewN ?_ _ | refine blk_drew ?_ | refine blk_alloc ?_ _)); exact B1_.1) hb); have n2_ := mk (blk_below (g := g2_) (o := .cells #[.int .i64 ((rd_T28 y278 x12_1).f0), .int .i64 ((rd_T28 y278 x12_1).f1)] 28 (0, 0)) (by (with_reducible repeat (first | refine blk_drewN ?_ _ | refine blk_drew ?_ | refine blk_alloc ?_ _)); refine blk_put (cs := #[.int .i64 ((rd_T28 y278 x12_1).f0), .int .i64 0]) ?_ 1 _ rfl; (with_reducible repeat (first | refine blk_drewN ?_ _ | refine blk_drew ?_ | refine blk_alloc ?_ _)); refine blk_put (cs := #[.int .i64 0, .int .i64 0]) ?_ 0 _ rfl; (with_reducible repeat (first | refine blk_drewN ?_ _ | refine blk_drew ?_ | refine blk_alloc ?_ _)); exact B2_.1) hb); have n3_ := mk (below_step (by repeat first | exact HB.1 | apply pD | apply b1 | refine bT (by assumption) ?_ | apply bA) hb); clear B0_; clear B1_; clear B2_; clear HB; have B0_ := n0_; have B1_ := n1_; have B2_ := n2_; have HB := n3_; clear n0_ n1_ n2_ n3_; (try clear hb); (try clear hb2); (try clear hk); (try clear hi)))
        go_roundg k1
        case measure => have := HK1.out; omega
        case rel => exact ⟨(wrap64 (x12_1 + 1)), (x278000_1), (x278001_1), (by first | rfl | (simp; done) | (simp [*]; done) | (simp [Int.tdiv_eq_ediv_of_nonneg]; done) | (simp [Go.RowKit.wrap64]; done) | (simp [*, Go.RowKit.wrap64]; done)), H', ⟨by have := HK1.out; omega⟩, ⟨by exact B0_.1⟩, ⟨by exact B1_.1⟩, ⟨by repeat (first | (with_reducible first | exact HB.1 | apply bA | apply pD | apply b1 | apply bS E0_.1 | apply bS E1_.1 | apply bS E2_.1) | exact HB.1)⟩⟩
       rw [if_neg c12] at H
       exact absurd H (by simp)
      rw [if_neg c11] at H
      exact absurd H (by simp)
     rw [if_neg c10] at H
     have c10b0 : decide (x12_1 < (y278.length : Int)) = false := decide_eq_false c10
     clear c10
     simp only [Option.some.injEq, Prod.mk.injEq] at H
     obtain ⟨rfl, rfl⟩ := H
     have hnb31 := N10_.1
     have hnc31 := N01_.1
     have hcz32_0 : wr.cell? ⟨g1_, 0, none⟩ = some (.int .i64 x278000_1) := bQ B1_.1 0
     have hcz32_1 : wr.cell? ⟨g1_, 1, none⟩ = some (.int .i64 x278001_1) := bQ B1_.1 1
     have hfz32_0 := blk_frozen B1_.1 0
     have hfz32_1 := blk_frozen B1_.1 1
     have hcz33_0 : wr.cell? ⟨g0_, 0, none⟩ = some (.int .i64 0) := bQ B0_.1 0
     have hcz33_1 : wr.cell? ⟨g0_, 1, none⟩ = some (.int .i64 0) := bQ B0_.1 1
     have hfz33_0 := blk_frozen B0_.1 0
     have hfz33_1 := blk_frozen B0_.1 1
     go_wp2
     refine bodyPost_ret (results_cell_row rfl _ _ g0_ 28 #[.int .i64 x278000_1, .int .i64 x278001_1] (0, 0) _ rfl (by (with_reducible repeat (first | refine blk_drewN ?_ _ | refine blk_drew ?_ | refine blk_alloc ?_ _)); refine blk_put (cs := #[.int .i64 x278000_1, .int .i64 0]) ?_ 1 _ rfl; (with_reducible repeat (first | refine blk_drewN ?_ _ | refine blk_drew ?_ | refine blk_alloc ?_ _)); refine blk_put (cs := #[.int .i64 0, .int .i64 0]) ?_ 0 _ rfl; (with_reducible repeat (first | refine blk_drewN ?_ _ | refine blk_drew ?_ | refine blk_alloc ?_ _)); exact B0_.1) Try.underlying28 rfl (by kernel_rfl)) rfl ?_
     exact ⟨by first | rfl | (simp [errW_none, errW_some] <;> rfl) | (simp [*, errW_none, errW_some] <;> rfl), by repeat (first | (with_reducible first | exact HB.1 | apply bA | apply pD | apply b1 | apply bS E0_.1 | apply bS E1_.1) | exact HB.1)⟩
  rw [if_neg c3] at H
  exact absurd H (by simp)
 rw [if_neg c2] at H
 exact absurd H (by simp)

end Go.Proofs.Ytigkjbaclpklpaa.Q
