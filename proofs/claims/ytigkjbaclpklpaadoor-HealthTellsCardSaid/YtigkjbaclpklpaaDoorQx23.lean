/- The calls of these Go functions answer what the Lean functions beside them answer; written by a program (wip/pr2.py, out of the print of the loaded program); under no condition but those that stand in the theorems. -/
import Derived.Test.YtigkjbaclpklpaaDoorQx0
import Derived.Test.YtigkjbaclpklpaaDoorQx22
namespace Go.Proofs.YtigkjbaclpklpaaDoor.Q
open Go.RowKit Go.Proofs.YtigkjbaclpklpaaDoorW.PrintWords Go.Proofs.YtigkjbaclpklpaaDoorW.PrintLast Go.Proofs.YtigkjbaclpklpaaDoorW.PrintMore
attribute [local go_sem] max2_int min2_int max_two min_two max_three min_three max_four min_four   -- for this text's walks alone
set_option linter.unusedVariables false
set_option linter.unusedSimpArgs false

/-! ### clepsydraref18_More: function 47 -/
def clepsydraref18_More.l0 : Nat → List (S82) → Int → List (S82) → Int → Int → Option (Bool)
 | 0, _, _, _, _, _ => none
 | k + 1, x0, x1, x7, x8, x9 => if x9 < x8 then (if 0 ≤ x9 then (if x9 < (x7.length : Int) then (if (wrap64 (((rd_T82 x7 x9).f0) - 1)) = x1 then ((clepsydraref18_Offset.f k x0 x1).bind fun t289 => (if ((rd_T82 x7 x9).f1) > t289 then (some true) else (clepsydraref18_More.l0 k x0 x1 x7 x8 (wrap64 (x9 + 1))))) else (clepsydraref18_More.l0 k x0 x1 x7 x8 (wrap64 (x9 + 1)))) else (none)) else (none)) else (some false)
def clepsydraref18_More.f (k : Nat) (l0 : List (S82)) (a1 : Int) : Option (Bool) := clepsydraref18_More.l0 k l0 a1 l0 (l0.length : Int) 0
theorem clepsydraref18_More.mono_l : ∀ k, (∀ y0 y1 y2 y3 y4, LeO (clepsydraref18_More.l0 k y0 y1 y2 y3 y4) (clepsydraref18_More.l0 (k + 1) y0 y1 y2 y3 y4))
 | 0 => fun _ _ _ _ _ r h => by simp [clepsydraref18_More.l0] at h
 | k + 1 => by
  have ih0 := clepsydraref18_More.mono_l k
  intro y0 y1 y2 y3 y4
  unfold clepsydraref18_More.l0
  repeat' first
  | (with_reducible exact ih0 _ _ _ _ _)
  | (with_reducible exact clepsydraref18_Offset.mono _ _ _)
  | (with_reducible exact LeO.refl _)
  | (with_reducible exact LeO.none _)
  | (with_reducible refine LeO.ite ?_ ?_)
  | (with_reducible refine LeO.bind ?_ (fun _ => ?_))
  | exact ih0 _ _ _ _ _
  | exact clepsydraref18_Offset.mono _ _ _
  | exact LeO.none _
  | refine LeO.ite ?_ ?_
  | refine LeO.bind ?_ (fun _ => ?_)
theorem clepsydraref18_More.mono : ∀ a0 a1 k, LeO (clepsydraref18_More.f k a0 a1) (clepsydraref18_More.f (k + 1) a0 a1) := by
 intro a0 a1 k
 have ih0 := clepsydraref18_More.mono_l k
 unfold clepsydraref18_More.f
 repeat' first
   | (with_reducible exact ih0 _ _ _ _ _)
   | (with_reducible exact clepsydraref18_Offset.mono _ _ _)
   | (with_reducible exact LeO.refl _)
   | (with_reducible exact LeO.none _)
   | (with_reducible refine LeO.ite ?_ ?_)
   | (with_reducible refine LeO.bind ?_ (fun _ => ?_))
   | exact ih0 _ _ _ _ _
   | exact clepsydraref18_Offset.mono _ _ _
   | exact LeO.none _
   | refine LeO.ite ?_ ?_
   | refine LeO.bind ?_ (fun _ => ?_)
def clepsydraref18_More.T4 : Bool × List (List Nat × List Nat) := (true, [([], []), ([0], [0]), ([1], [1]), ([], []), ([2, 3], [2, 3]), ([4], [4]), ([5], [5]), ([6, 5], [5, 6]), ([5], [5]), ([5], [5]), ([8, 9, 5, 5], [5, 8, 9]), ([7, 10, 5], [5, 7, 10]), ([5, 11], [5, 11])])
def clepsydraref18_More.B4 : List Nat := [0, 1, 3, 0, 15, 31, 63, 127, 63, 63, 831, 2047, 4095]
theorem clepsydraref18_More.tab4 : rtab .any (opsOf Tryd.f47 4) = clepsydraref18_More.T4 := by kernel_rfl
theorem clepsydraref18_More.bits4 : waitsOk clepsydraref18_More.T4.2 clepsydraref18_More.B4 = true := by kernel_rfl
set_option maxHeartbeats 8000000 in
set_option maxRecDepth 100000 in
theorem clepsydraref18_More.calls (k : Nat) (A0 : Option Addr) (c0 : Nat) (l0 : List (S82)) (a1 : Int) (r : Bool) (w : World) (hr0 : Kd.C k82 w A0 l0.length l0) (hc0 : l0.length ≤ c0) (h : clepsydraref18_More.f k l0 a1 = some r) :
  Calls Tryd.prog 47 #[.slice A0 l0.length c0, .int .i64 a1] w fun e w' => e = .returned (.bool r) ∧ Below w.heap.size w w' := by
 have hu82 := Tryd.underlying82
 have HR0 := mk hr0
 have HC0 := mk hc0
 clear hr0 hc0
 have HB := mk (Below.refl w.heap.size w)
 have H : (clepsydraref18_More.l0 k l0 a1 l0 (l0.length : Int) 0) = some r := h
 clear h
 have H' := mk H
 clear H
 go_enter Tryd.func47, Tryd.ntmps47
 go_wp2
 go_loopg [9] k (fun kq v9 w' => ∃ (x9_1 : Int), v9 = .int .i64 x9_1 ∧ Aside0 (clepsydraref18_More.l0 kq l0 a1 l0 (l0.length : Int) x9_1 = some r) ∧ Aside0 (kq ≤ k) ∧ Aside0 (Below w.heap.size w w'))
 case atStart => exact ⟨(0), zs, H', ⟨Nat.le_refl _⟩, ⟨by repeat (first | (with_reducible first | exact HB.1 | apply bA | apply pD | apply b1) | exact HB.1)⟩⟩
 case round =>
  clear H'
  try clear p2
  obtain ⟨x9_1, rfl, HA, HK1, HB⟩ := hrel
  cases gk with
  | zero => exact absurd HA.1 (by simp [clepsydraref18_More.l0])
  | succ k1 =>
   have H := HA.1
   clear HA
   simp only [clepsydraref18_More.l0] at H
   by_cases c3 : x9_1 < (l0.length : Int)
   ·rw [if_pos c3] at H
    have c3b0 : decide (x9_1 < (l0.length : Int)) = true := decide_eq_true c3
    clear c3
    by_cases c4 : 0 ≤ x9_1
    ·rw [if_pos c4] at H
     have c4b0 : decide (0 ≤ x9_1) = true := decide_eq_true c4
     clear c4
     by_cases c5 : x9_1 < (l0.length : Int)
     ·rw [if_pos c5] at H
      have c5b0 : decide (x9_1 < (l0.length : Int)) = true := decide_eq_true c5
      clear c5
      by_cases c6 : (wrap64 (((rd_T82 l0 x9_1).f0) - 1)) = a1
      ·rw [if_pos c6] at H
       have c6b0 : ((wrap64 (((rd_T82 l0 x9_1).f0) - 1)) == a1) = true := beq_iff_eq.mpr c6
       have c6b1 : ((wrap64 (((rd_T82 l0 x9_1).f0) - 1)) != a1) = false := bne_eq_false_iff_eq.mpr c6
       clear c6
       replace H := Option.bind_eq_some_iff.mp H
       obtain ⟨t289, A70, H⟩ := H
       replace H : (if ((rd_T82 l0 x9_1).f1) > t289 then (some true) else (clepsydraref18_More.l0 k1 l0 a1 l0 (l0.length : Int) (wrap64 (x9_1 + 1)))) = some r := H
       have A7 := mk A70
       clear A70
       by_cases c8 : ((rd_T82 l0 x9_1).f1) > t289
       ·rw [if_pos c8] at H
        have c8b0 : decide (t289 < ((rd_T82 l0 x9_1).f1)) = true := decide_eq_true c8
        clear c8
        obtain rfl := Option.some.inj H
        have p287 : 0 ≤ (x9_1 : Int) := of_decide_eq_true (by first | (with_reducible assumption) | assumption)
        have q287 : x9_1 < (l0.length : Int) := of_decide_eq_true (by first | (with_reducible assumption) | assumption)
        obtain ⟨ad287, e287, hx287_0, hx287_1⟩ := at_T82 HR0.1 x9_1 p287 q287
        cases e287
        replace hx287_0 := (HB.1.cell (World.block_lt_of_cell? w _ hx287_0)).trans hx287_0
        replace hx287_1 := (HB.1.cell (World.block_lt_of_cell? w _ hx287_1)).trans hx287_1
        replace p287 := eq_true p287
        replace q287 := eq_true q287
        try go_wp2_with (first | ((with_reducible refine gate_dst (N := 6) rfl ?_); refine bx 6 #[.int .i64 0, .int .i64 0] 82 ?_; intro g0_ hg w9 hbox hb; have B0_ := mk (hbox); have W0_ := gl hg zq; have E0_ := gl hg zq; replace HB := mk (below_step zq hb); clear hb hbox hg; obtain ⟨hcz10_0, hcz10_1⟩ := cc2 B0_.1; obtain ⟨hfz10_0, hfz10_1⟩ := cf2 B0_.1))
        have n0_ : Aside0 (((w9.setCell ⟨g0_, 0, none⟩ (.int .i64 ((rd_T82 l0 x9_1).f0))).setCell ⟨g0_, 1, none⟩ (.int .i64 ((rd_T82 l0 x9_1).f1))).heap[g0_]? = some (.cells #[.int .i64 ((rd_T82 l0 x9_1).f0), .int .i64 ((rd_T82 l0 x9_1).f1)] 82 (0, 0))) := ⟨by (with_reducible repeat (first | refine blk_drewN ?_ _ | refine blk_drew ?_ | refine blk_alloc ?_ _)); refine blk_put (cs := #[.int .i64 ((rd_T82 l0 x9_1).f0), .int .i64 0]) ?_ 1 _ rfl; (with_reducible repeat (first | refine blk_drewN ?_ _ | refine blk_drew ?_ | refine blk_alloc ?_ _)); refine blk_put (cs := #[.int .i64 0, .int .i64 0]) ?_ 0 _ rfl; (with_reducible repeat (first | refine blk_drewN ?_ _ | refine blk_drew ?_ | refine blk_alloc ?_ _)); exact B0_.1⟩
        have n1_ : Aside0 (Below w.heap.size w ((w9.setCell ⟨g0_, 0, none⟩ (.int .i64 ((rd_T82 l0 x9_1).f0))).setCell ⟨g0_, 1, none⟩ (.int .i64 ((rd_T82 l0 x9_1).f1)))) := ⟨by repeat (first | (with_reducible first | exact HB.1 | apply bA | apply pD | apply b1 | apply bS E0_.1) | exact HB.1)⟩
        (try clear B0_)
        (try clear HB)
        (try (repeat rw [sc_drewN]))
        generalize ((w9.setCell ⟨g0_, 0, none⟩ (.int .i64 ((rd_T82 l0 x9_1).f0))).setCell ⟨g0_, 1, none⟩ (.int .i64 ((rd_T82 l0 x9_1).f1))) = w11 at n0_ n1_ ⊢
        have B0_ := n0_
        have HB := n1_
        clear n0_ n1_
        replace B0_ := mk (blk_drew B0_.1)
        replace HB := mk (below_drew1 HB.1)
        refine start_ (n := 13) (S := fun w' => w'.cell? ⟨g0_, 0, none⟩ = some (.int .i64 ((rd_T82 l0 x9_1).f0)) ∧ w'.cell? ⟨g0_, 1, none⟩ = some (.int .i64 ((rd_T82 l0 x9_1).f1))) (ds := []) (bs 13 0) (by kernel_rfl) rfl rfl ⟨bQ B0_.1 0, bQ B0_.1 1⟩ (fun hHeld => ?_); refine with_tabW clepsydraref18_More.tab4 clepsydraref18_More.bits4 (fun HT_ HW_ => ?_)
        generalize w11.drew = w12 at B0_ HB hHeld ⊢
        refine pt HT_ 0 13 1 ?_
        refine pt HT_ 3 16 9 ?_
        refine tb HT_ HW_ 1 14 11 hHeld ?_
        refine pt HT_ 2 15 15 ?_
        refine pt HT_ 4 17 31 ?_
        refine pt HT_ 5 18 63 ?_
        refine pt HT_ 6 19 127 ?_
        refine pt HT_ 8 21 383 ?_
        refine pt HT_ 9 22 895 ?_
        refine tb HT_ HW_ 7 20 1023 hHeld ?_
        refine one_ (i := 10) (N := some 23) (bs 13 2047) rfl rfl (one_of HT_.1 (by kernel_rfl)) (by decide) (fun K hK => ?_)
        refine goes_ Tryd.func48 (by kernel_rfl) rfl #[.slice (some ad287) l0.length c0, .int .i64 a1] (by rfl) rfl rfl (by (try simp only [List.map_toArray, List.map_cons, List.map_nil]); first | done | rfl | (simp only [List.length_drop, List.length_take]; rfl)) ?_
        with_reducible refine (clepsydraref18_Offset.calls k1 _ _ l0 a1 t289 _ ?side1 ?side2 A7.1).mono ?_
        (case side1 => repeat (first | exact (Kd.C_below HR0.1 HB.1) | (with_reducible refine Kd.C_alloc ?_ _) | (with_reducible refine Kd.C_drewN ?_ _) | (with_reducible refine Kd.C_drew ?_)))
        (case side2 => exact HC0.1)
        rintro e w13 ⟨rfl, hb⟩
        refine ⟨_, rfl, ?_⟩
        replace B0_ := bb hb B0_.1
        replace HB := mk (below_step zq hb)
        (try clear hb)
        (try clear hb2)
        (try clear hk)
        (try clear hi)
        refine hK.out _ _ ⟨bQ B0_.1 0, bQ B0_.1 1⟩ (fun hHeld => ?_)
        clear hK K
        refine nm 23 ?_
        refine pt HT_ 11 24 4095 ?_
        refine pt HT_ 12 25 8191 ?_
        refine done_ (done_of HT_.1 (by kernel_rfl)) ?_
        try go_wp2
        go_ret
        exact ⟨by first | rfl | (simp [errW_none, errW_some] <;> rfl) | (simp [*, errW_none, errW_some] <;> rfl), by repeat (first | (with_reducible first | exact HB.1 | apply bA | apply pD | apply b1 | apply bS E0_.1) | exact HB.1)⟩
       rw [if_neg c8] at H
       have c8b0 : decide (t289 < ((rd_T82 l0 x9_1).f1)) = false := decide_eq_false c8
       clear c8
       have H' := mk H
       clear H
       have p287 : 0 ≤ (x9_1 : Int) := of_decide_eq_true (by first | (with_reducible assumption) | assumption)
       have q287 : x9_1 < (l0.length : Int) := of_decide_eq_true (by first | (with_reducible assumption) | assumption)
       obtain ⟨ad287, e287, hx287_0, hx287_1⟩ := at_T82 HR0.1 x9_1 p287 q287
       cases e287
       replace hx287_0 := (HB.1.cell (World.block_lt_of_cell? w _ hx287_0)).trans hx287_0
       replace hx287_1 := (HB.1.cell (World.block_lt_of_cell? w _ hx287_1)).trans hx287_1
       replace p287 := eq_true p287
       replace q287 := eq_true q287
       try go_wp2_with (first | ((with_reducible refine gate_dst (N := 6) rfl ?_); refine bx 6 #[.int .i64 0, .int .i64 0] 82 ?_; intro g0_ hg w14 hbox hb; have B0_ := mk (hbox); have W0_ := gl hg zq; have E0_ := gl hg zq; replace HB := mk (below_step zq hb); clear hb hbox hg; obtain ⟨hcz15_0, hcz15_1⟩ := cc2 B0_.1; obtain ⟨hfz15_0, hfz15_1⟩ := cf2 B0_.1))
       have n0_ : Aside0 (((w14.setCell ⟨g0_, 0, none⟩ (.int .i64 ((rd_T82 l0 x9_1).f0))).setCell ⟨g0_, 1, none⟩ (.int .i64 ((rd_T82 l0 x9_1).f1))).heap[g0_]? = some (.cells #[.int .i64 ((rd_T82 l0 x9_1).f0), .int .i64 ((rd_T82 l0 x9_1).f1)] 82 (0, 0))) := ⟨by (with_reducible repeat (first | refine blk_drewN ?_ _ | refine blk_drew ?_ | refine blk_alloc ?_ _)); refine blk_put (cs := #[.int .i64 ((rd_T82 l0 x9_1).f0), .int .i64 0]) ?_ 1 _ rfl; (with_reducible repeat (first | refine blk_drewN ?_ _ | refine blk_drew ?_ | refine blk_alloc ?_ _)); refine blk_put (cs := #[.int .i64 0, .int .i64 0]) ?_ 0 _ rfl; (with_reducible repeat (first | refine blk_drewN ?_ _ | refine blk_drew ?_ | refine blk_alloc ?_ _)); exact B0_.1⟩
       have n1_ : Aside0 (Below w.heap.size w ((w14.setCell ⟨g0_, 0, none⟩ (.int .i64 ((rd_T82 l0 x9_1).f0))).setCell ⟨g0_, 1, none⟩ (.int .i64 ((rd_T82 l0 x9_1).f1)))) := ⟨by repeat (first | (with_reducible first | exact HB.1 | apply bA | apply pD | apply b1 | apply bS E0_.1) | exact HB.1)⟩
       (try clear B0_)
       (try clear HB)
       (try (repeat rw [sc_drewN]))
       generalize ((w14.setCell ⟨g0_, 0, none⟩ (.int .i64 ((rd_T82 l0 x9_1).f0))).setCell ⟨g0_, 1, none⟩ (.int .i64 ((rd_T82 l0 x9_1).f1))) = w16 at n0_ n1_ ⊢
       have B0_ := n0_
       have HB := n1_
       clear n0_ n1_
       replace B0_ := mk (blk_drew B0_.1)
       replace HB := mk (below_drew1 HB.1)
       refine start_ (n := 13) (S := fun w' => w'.cell? ⟨g0_, 0, none⟩ = some (.int .i64 ((rd_T82 l0 x9_1).f0)) ∧ w'.cell? ⟨g0_, 1, none⟩ = some (.int .i64 ((rd_T82 l0 x9_1).f1))) (ds := []) (bs 13 0) (by kernel_rfl) rfl rfl ⟨bQ B0_.1 0, bQ B0_.1 1⟩ (fun hHeld => ?_); refine with_tabW clepsydraref18_More.tab4 clepsydraref18_More.bits4 (fun HT_ HW_ => ?_)
       generalize w16.drew = w17 at B0_ HB hHeld ⊢
       refine pt HT_ 0 13 1 ?_
       refine pt HT_ 3 16 9 ?_
       refine tb HT_ HW_ 1 14 11 hHeld ?_
       refine pt HT_ 2 15 15 ?_
       refine pt HT_ 4 17 31 ?_
       refine pt HT_ 5 18 63 ?_
       refine pt HT_ 6 19 127 ?_
       refine pt HT_ 8 21 383 ?_
       refine pt HT_ 9 22 895 ?_
       refine tb HT_ HW_ 7 20 1023 hHeld ?_
       refine one_ (i := 10) (N := some 23) (bs 13 2047) rfl rfl (one_of HT_.1 (by kernel_rfl)) (by decide) (fun K hK => ?_)
       refine goes_ Tryd.func48 (by kernel_rfl) rfl #[.slice (some ad287) l0.length c0, .int .i64 a1] (by rfl) rfl rfl (by (try simp only [List.map_toArray, List.map_cons, List.map_nil]); first | done | rfl | (simp only [List.length_drop, List.length_take]; rfl)) ?_
       with_reducible refine (clepsydraref18_Offset.calls k1 _ _ l0 a1 t289 _ ?side1 ?side2 A7.1).mono ?_
       (case side1 => repeat (first | exact (Kd.C_below HR0.1 HB.1) | (with_reducible refine Kd.C_alloc ?_ _) | (with_reducible refine Kd.C_drewN ?_ _) | (with_reducible refine Kd.C_drew ?_)))
       (case side2 => exact HC0.1)
       rintro e w18 ⟨rfl, hb⟩
       refine ⟨_, rfl, ?_⟩
       replace B0_ := bb hb B0_.1
       replace HB := mk (below_step zq hb)
       (try clear hb)
       (try clear hb2)
       (try clear hk)
       (try clear hi)
       refine hK.out _ _ ⟨bQ B0_.1 0, bQ B0_.1 1⟩ (fun hHeld => ?_)
       clear hK K
       refine nm 23 ?_
       refine pt HT_ 11 24 4095 ?_
       refine pt HT_ 12 25 8191 ?_
       refine done_ (done_of HT_.1 (by kernel_rfl)) ?_
       try go_wp2
       go_roundg k1
       case measure => have := HK1.1; omega
       case rel => exact ⟨(wrap64 (x9_1 + 1)), zs, H', ⟨by have := HK1.1; omega⟩, ⟨by repeat (first | (with_reducible first | exact HB.1 | apply bA | apply pD | apply b1 | apply bS E0_.1) | exact HB.1)⟩⟩
      rw [if_neg c6] at H
      have c6b0 : ((wrap64 (((rd_T82 l0 x9_1).f0) - 1)) == a1) = false := beq_eq_false_iff_ne.mpr c6
      have c6b1 : ((wrap64 (((rd_T82 l0 x9_1).f0) - 1)) != a1) = true := bne_iff_ne.mpr c6
      have H' := mk H
      clear H
      have p287 : 0 ≤ (x9_1 : Int) := of_decide_eq_true (by first | (with_reducible assumption) | assumption)
      have q287 : x9_1 < (l0.length : Int) := of_decide_eq_true (by first | (with_reducible assumption) | assumption)
      obtain ⟨ad287, e287, hx287_0, hx287_1⟩ := at_T82 HR0.1 x9_1 p287 q287
      cases e287
      replace hx287_0 := (HB.1.cell (World.block_lt_of_cell? w _ hx287_0)).trans hx287_0
      replace hx287_1 := (HB.1.cell (World.block_lt_of_cell? w _ hx287_1)).trans hx287_1
      replace p287 := eq_true p287
      replace q287 := eq_true q287
      try go_wp2_with (first | ((with_reducible refine gate_dst (N := 6) rfl ?_); refine bx 6 #[.int .i64 0, .int .i64 0] 82 ?_; intro g0_ hg w19 hbox hb; have B0_ := mk (hbox); have W0_ := gl hg zq; have E0_ := gl hg zq; replace HB := mk (below_step zq hb); clear hb hbox hg; obtain ⟨hcz20_0, hcz20_1⟩ := cc2 B0_.1; obtain ⟨hfz20_0, hfz20_1⟩ := cf2 B0_.1))
      have n0_ : Aside0 (((w19.setCell ⟨g0_, 0, none⟩ (.int .i64 ((rd_T82 l0 x9_1).f0))).setCell ⟨g0_, 1, none⟩ (.int .i64 ((rd_T82 l0 x9_1).f1))).heap[g0_]? = some (.cells #[.int .i64 ((rd_T82 l0 x9_1).f0), .int .i64 ((rd_T82 l0 x9_1).f1)] 82 (0, 0))) := ⟨by (with_reducible repeat (first | refine blk_drewN ?_ _ | refine blk_drew ?_ | refine blk_alloc ?_ _)); refine blk_put (cs := #[.int .i64 ((rd_T82 l0 x9_1).f0), .int .i64 0]) ?_ 1 _ rfl; (with_reducible repeat (first | refine blk_drewN ?_ _ | refine blk_drew ?_ | refine blk_alloc ?_ _)); refine blk_put (cs := #[.int .i64 0, .int .i64 0]) ?_ 0 _ rfl; (with_reducible repeat (first | refine blk_drewN ?_ _ | refine blk_drew ?_ | refine blk_alloc ?_ _)); exact B0_.1⟩
      have n1_ : Aside0 (Below w.heap.size w ((w19.setCell ⟨g0_, 0, none⟩ (.int .i64 ((rd_T82 l0 x9_1).f0))).setCell ⟨g0_, 1, none⟩ (.int .i64 ((rd_T82 l0 x9_1).f1)))) := ⟨by repeat (first | (with_reducible first | exact HB.1 | apply bA | apply pD | apply b1 | apply bS E0_.1) | exact HB.1)⟩
      (try clear B0_)
      (try clear HB)
      (try (repeat rw [sc_drewN]))
      generalize ((w19.setCell ⟨g0_, 0, none⟩ (.int .i64 ((rd_T82 l0 x9_1).f0))).setCell ⟨g0_, 1, none⟩ (.int .i64 ((rd_T82 l0 x9_1).f1))) = w21 at n0_ n1_ ⊢
      have B0_ := n0_
      have HB := n1_
      clear n0_ n1_
      replace B0_ := mk (blk_drew B0_.1)
      replace HB := mk (below_drew1 HB.1)
      refine start_ (n := 13) (S := fun w' => w'.cell? ⟨g0_, 0, none⟩ = some (.int .i64 ((rd_T82 l0 x9_1).f0))) (ds := []) (bs 13 0) (by kernel_rfl) rfl rfl (bQ B0_.1 0) (fun hHeld => ?_); refine with_tabW clepsydraref18_More.tab4 clepsydraref18_More.bits4 (fun HT_ HW_ => ?_)
      generalize w21.drew = w22 at B0_ HB hHeld ⊢
      refine pt HT_ 0 13 1 ?_
      refine pt HT_ 3 16 9 ?_
      refine take_ (i := 1) (N := some 14) (v := ?_) (a' := ?_) (bs 13 11) rfl rfl (take_ofW HT_.1 HW_.1 (by kernel_rfl)) (fun _ _ _ h => h) (Or.inl ⟨by rfl, ?_⟩) hHeld ?_ ?_
      rotate_left
      ·intro w' s0
       go_simp
       with_reducible rfl
      rotate_left
      ·simp only [Act.put, zA, zB, zC, i64_w, i32_w]
       rfl
      refine pt HT_ 2 15 15 ?_
      refine pt HT_ 4 17 31 ?_
      refine pt HT_ 5 18 63 ?_
      refine pm HT_ 6 19 127 ?_
      refine pm HT_ 7 20 255 ?_
      refine pm HT_ 8 21 511 ?_
      refine pm HT_ 9 22 1023 ?_
      refine pm HT_ 10 23 2047 ?_
      refine pm HT_ 11 24 4095 ?_
      refine pt HT_ 12 25 8191 ?_
      refine done_ (done_of HT_.1 (by kernel_rfl)) ?_
      try go_wp2
      go_roundg k1
      case measure => have := HK1.1; omega
      case rel => exact ⟨(wrap64 (x9_1 + 1)), zs, H', ⟨by have := HK1.1; omega⟩, ⟨by repeat (first | (with_reducible first | exact HB.1 | apply bA | apply pD | apply b1 | apply bS E0_.1) | exact HB.1)⟩⟩
     rw [if_neg c5] at H
     exact absurd H (by simp)
    rw [if_neg c4] at H
    exact absurd H (by simp)
   rw [if_neg c3] at H
   have c3b0 : decide (x9_1 < (l0.length : Int)) = false := decide_eq_false c3
   clear c3
   obtain rfl := Option.some.inj H
   go_wp2
   go_ret
   exact ⟨by first | rfl | (simp [errW_none, errW_some] <;> rfl) | (simp [*, errW_none, errW_some] <;> rfl), by repeat (first | (with_reducible first | exact HB.1 | apply bA | apply pD | apply b1) | exact HB.1)⟩

end Go.Proofs.YtigkjbaclpklpaaDoor.Q
