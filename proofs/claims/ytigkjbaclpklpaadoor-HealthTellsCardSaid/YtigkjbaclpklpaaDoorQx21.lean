/- The calls of these Go functions answer what the Lean functions beside them answer; written by a program (wip/pr2.py, out of the print of the loaded program); under no condition but those that stand in the theorems. -/
import Derived.Test.YtigkjbaclpklpaaDoorQx0
namespace Go.Proofs.YtigkjbaclpklpaaDoor.Q
open Go.RowKit Go.Proofs.YtigkjbaclpklpaaDoorW.PrintWords Go.Proofs.YtigkjbaclpklpaaDoorW.PrintLast Go.Proofs.YtigkjbaclpklpaaDoorW.PrintMore
attribute [local go_sem] max2_int min2_int max_two min_two max_three min_three max_four min_four   -- for this text's walks alone
set_option linter.unusedVariables false
set_option linter.unusedSimpArgs false

/-! ### clepsydraref06_Table: function 46 -/
mutual
def clepsydraref06_Table.l0 : Nat → List (S82) → Int → List (S82) → Int → Int → Option (Bool)
 | 0, _, _, _, _, _ => none
 | k + 1, x0, x3, x9, x10, x11 => if x11 < x10 then (if 0 ≤ x11 then (if x11 < (x9.length : Int) then (if ((rd_T82 x9 x11).f0) < 0 then (clepsydraref06_Table.j1 k x0 x3 x11 x9 x10 x11 true ((rd_T82 x9 x11).f0) ((rd_T82 x9 x11).f1)) else (if ((rd_T82 x9 x11).f0) > 1099511627776 then (clepsydraref06_Table.j1 k x0 x3 x11 x9 x10 x11 true ((rd_T82 x9 x11).f0) ((rd_T82 x9 x11).f1)) else (if ((rd_T82 x9 x11).f1) < (-32) then (clepsydraref06_Table.j1 k x0 x3 x11 x9 x10 x11 true ((rd_T82 x9 x11).f0) ((rd_T82 x9 x11).f1)) else (clepsydraref06_Table.j1 k x0 x3 x11 x9 x10 x11 (decide (((rd_T82 x9 x11).f1) > 32)) ((rd_T82 x9 x11).f0) ((rd_T82 x9 x11).f1))))) else (none)) else (none)) else (some true)
def clepsydraref06_Table.j1 : Nat → List (S82) → Int → Int → List (S82) → Int → Int → Bool → Int → Int → Option (Bool)
 | 0, _, _, _, _, _, _, _, _, _ => none
 | k + 1, x0, x3, x4, x9, x10, x11, x33, x281000, x281001 => if x33 = true then (some false) else (if x4 > 0 then (if 0 ≤ (wrap64 (x4 - 1)) then (if (wrap64 (x4 - 1)) < (x0.length : Int) then (clepsydraref06_Table.j2 k x0 x3 x9 x10 x11 (decide (x281000 < (wrap64 (((rd_T82 x0 (wrap64 (x4 - 1))).f0) + 86400)))) x281000 x281001) else (none)) else (none)) else (clepsydraref06_Table.j2 k x0 x3 x9 x10 x11 false x281000 x281001))
def clepsydraref06_Table.j2 : Nat → List (S82) → Int → List (S82) → Int → Int → Bool → Int → Int → Option (Bool)
 | 0, _, _, _, _, _, _, _, _ => none
 | k + 1, x0, x3, x9, x10, x11, x47, x281000, x281001 => if x47 = true then (some false) else (if x281001 = (wrap64 (x3 + 1)) then (clepsydraref06_Table.l0 k x0 x281001 x9 x10 (wrap64 (x11 + 1))) else (if x281001 = (wrap64 (x3 - 1)) then (clepsydraref06_Table.l0 k x0 x281001 x9 x10 (wrap64 (x11 + 1))) else (some false)))
end
def clepsydraref06_Table.f (k : Nat) (l0 : List (S82)) : Option (Bool) := if (l0.length : Int) > 32 then (some false) else (clepsydraref06_Table.l0 k l0 0 l0 (l0.length : Int) 0)
theorem clepsydraref06_Table.mono_l : ∀ k, (∀ y0 y1 y2 y3 y4, LeO (clepsydraref06_Table.l0 k y0 y1 y2 y3 y4) (clepsydraref06_Table.l0 (k + 1) y0 y1 y2 y3 y4)) ∧ (∀ y0 y1 y2 y3 y4 y5 y6 y7 y8, LeO (clepsydraref06_Table.j1 k y0 y1 y2 y3 y4 y5 y6 y7 y8) (clepsydraref06_Table.j1 (k + 1) y0 y1 y2 y3 y4 y5 y6 y7 y8)) ∧ (∀ y0 y1 y2 y3 y4 y5 y6 y7, LeO (clepsydraref06_Table.j2 k y0 y1 y2 y3 y4 y5 y6 y7) (clepsydraref06_Table.j2 (k + 1) y0 y1 y2 y3 y4 y5 y6 y7))
 | 0 => ⟨fun _ _ _ _ _ r h => by simp [clepsydraref06_Table.l0] at h, fun _ _ _ _ _ _ _ _ _ r h => by simp [clepsydraref06_Table.j1] at h, fun _ _ _ _ _ _ _ _ r h => by simp [clepsydraref06_Table.j2] at h⟩
 | k + 1 => by
  obtain ⟨ih0, ih1, ih2⟩ := clepsydraref06_Table.mono_l k
  refine ⟨?_, ?_, ?_⟩
  ·intro y0 y1 y2 y3 y4
   unfold clepsydraref06_Table.l0
   repeat' first
   | (with_reducible exact ih0 _ _ _ _ _)
   | (with_reducible exact ih1 _ _ _ _ _ _ _ _ _)
   | (with_reducible exact ih2 _ _ _ _ _ _ _ _)
   | (with_reducible exact LeO.refl _)
   | (with_reducible exact LeO.none _)
   | (with_reducible refine LeO.ite ?_ ?_)
   | (with_reducible refine LeO.bind ?_ (fun _ => ?_))
   | exact ih0 _ _ _ _ _
   | exact ih1 _ _ _ _ _ _ _ _ _
   | exact ih2 _ _ _ _ _ _ _ _
   | exact LeO.none _
   | refine LeO.ite ?_ ?_
   | refine LeO.bind ?_ (fun _ => ?_)
  ·intro y0 y1 y2 y3 y4 y5 y6 y7 y8
   unfold clepsydraref06_Table.j1
   repeat' first
   | (with_reducible exact ih0 _ _ _ _ _)
   | (with_reducible exact ih1 _ _ _ _ _ _ _ _ _)
   | (with_reducible exact ih2 _ _ _ _ _ _ _ _)
   | (with_reducible exact LeO.refl _)
   | (with_reducible exact LeO.none _)
   | (with_reducible refine LeO.ite ?_ ?_)
   | (with_reducible refine LeO.bind ?_ (fun _ => ?_))
   | exact ih0 _ _ _ _ _
   | exact ih1 _ _ _ _ _ _ _ _ _
   | exact ih2 _ _ _ _ _ _ _ _
   | exact LeO.none _
   | refine LeO.ite ?_ ?_
   | refine LeO.bind ?_ (fun _ => ?_)
  intro y0 y1 y2 y3 y4 y5 y6 y7
  unfold clepsydraref06_Table.j2
  repeat' first
  | (with_reducible exact ih0 _ _ _ _ _)
  | (with_reducible exact ih1 _ _ _ _ _ _ _ _ _)
  | (with_reducible exact ih2 _ _ _ _ _ _ _ _)
  | (with_reducible exact LeO.refl _)
  | (with_reducible exact LeO.none _)
  | (with_reducible refine LeO.ite ?_ ?_)
  | (with_reducible refine LeO.bind ?_ (fun _ => ?_))
  | exact ih0 _ _ _ _ _
  | exact ih1 _ _ _ _ _ _ _ _ _
  | exact ih2 _ _ _ _ _ _ _ _
  | exact LeO.none _
  | refine LeO.ite ?_ ?_
  | refine LeO.bind ?_ (fun _ => ?_)
theorem clepsydraref06_Table.mono : ∀ a0 k, LeO (clepsydraref06_Table.f k a0) (clepsydraref06_Table.f (k + 1) a0) := by
 intro a0 k
 obtain ⟨ih0, ih1, ih2⟩ := clepsydraref06_Table.mono_l k
 unfold clepsydraref06_Table.f
 repeat' first
   | (with_reducible exact ih0 _ _ _ _ _)
   | (with_reducible exact ih1 _ _ _ _ _ _ _ _ _)
   | (with_reducible exact ih2 _ _ _ _ _ _ _ _)
   | (with_reducible exact LeO.refl _)
   | (with_reducible exact LeO.none _)
   | (with_reducible refine LeO.ite ?_ ?_)
   | (with_reducible refine LeO.bind ?_ (fun _ => ?_))
   | exact ih0 _ _ _ _ _
   | exact ih1 _ _ _ _ _ _ _ _ _
   | exact ih2 _ _ _ _ _ _ _ _
   | exact LeO.none _
   | refine LeO.ite ?_ ?_
   | refine LeO.bind ?_ (fun _ => ?_)
set_option maxHeartbeats 8000000 in
set_option maxRecDepth 100000 in
theorem clepsydraref06_Table.calls (k : Nat) (A0 : Option Addr) (c0 : Nat) (l0 : List (S82)) (r : Bool) (w : World) (hr0 : Kd.C k82 w A0 l0.length l0) (hc0 : l0.length ≤ c0) (h : clepsydraref06_Table.f k l0 = some r) :
  Calls Tryd.prog 46 #[.slice A0 l0.length c0] w fun e w' => e = .returned (.bool r) ∧ Below w.heap.size w w' := by
 have hu82 := Tryd.underlying82
 have HR0 := mk hr0
 have HC0 := mk hc0
 clear hr0 hc0
 have HB := mk (Below.refl w.heap.size w)
 have H : (if (l0.length : Int) > 32 then (some false) else (clepsydraref06_Table.l0 k l0 0 l0 (l0.length : Int) 0)) = some r := h
 clear h
 by_cases c2 : (l0.length : Int) > 32
 ·rw [if_pos c2] at H
  have c2b0 : decide (32 < (l0.length : Int)) = true := decide_eq_true c2
  have c2b1 : decide (32 < l0.length) = true := decide_eq_true (by omega)
  clear c2
  obtain rfl := Option.some.inj H
  go_enter Tryd.func46, Tryd.ntmps46
  go_wp2
  repeat (go_quiet (fail); try go_wp2)
  go_ret
  exact ⟨by first | rfl | (simp [errW_none, errW_some] <;> rfl) | (simp [*, errW_none, errW_some] <;> rfl), by repeat (first | (with_reducible first | exact HB.1 | apply bA | apply pD | apply b1) | exact HB.1)⟩
 rw [if_neg c2] at H
 have c2b0 : decide (32 < (l0.length : Int)) = false := decide_eq_false c2
 have c2b1 : decide (32 < l0.length) = false := decide_eq_false (by omega)
 clear c2
 have H' := mk H
 clear H
 go_enter Tryd.func46, Tryd.ntmps46
 go_wp2
 repeat (go_quiet (fail); try go_wp2)
 go_loopg [3, 11] k (fun kq v3 v11 w' => ∃ (x3_1 : Int) (x11_1 : Int), v3 = .int .i64 x3_1 ∧ v11 = .int .i64 x11_1 ∧ Aside0 (clepsydraref06_Table.l0 kq l0 x3_1 l0 (l0.length : Int) x11_1 = some r) ∧ Aside0 (kq ≤ k) ∧ Aside0 (Below w.heap.size w w'))
 case atStart => exact ⟨(0), (0), zs, zs, H', ⟨Nat.le_refl _⟩, ⟨by repeat (first | (with_reducible first | exact HB.1 | apply bA | apply pD | apply b1) | exact HB.1)⟩⟩
 case round =>
  clear H'
  try clear c2
  try clear c2b0
  try clear c2b1
  try clear p2
  obtain ⟨x3_1, x11_1, rfl, rfl, HA, HK1, HB⟩ := hrel
  cases gk with
  | zero => exact absurd HA.1 (by simp [clepsydraref06_Table.l0])
  | succ k1 =>
   have H := HA.1
   clear HA
   simp only [clepsydraref06_Table.l0] at H
   by_cases c3 : x11_1 < (l0.length : Int)
   ·rw [if_pos c3] at H
    have c3b0 : decide (x11_1 < (l0.length : Int)) = true := decide_eq_true c3
    clear c3
    by_cases c4 : 0 ≤ x11_1
    ·rw [if_pos c4] at H
     have c4b0 : decide (0 ≤ x11_1) = true := decide_eq_true c4
     clear c4
     by_cases c5 : x11_1 < (l0.length : Int)
     ·rw [if_pos c5] at H
      have c5b0 : decide (x11_1 < (l0.length : Int)) = true := decide_eq_true c5
      clear c5
      have HC6 := mk H
      clear H
      have p279 : 0 ≤ (x11_1 : Int) := of_decide_eq_true (by first | (with_reducible assumption) | assumption)
      have q279 : x11_1 < (l0.length : Int) := of_decide_eq_true (by first | (with_reducible assumption) | assumption)
      obtain ⟨ad279, e279, hx279_0, hx279_1⟩ := at_T82 HR0.1 x11_1 p279 q279
      cases e279
      replace hx279_0 := (HB.1.cell (World.block_lt_of_cell? w _ hx279_0)).trans hx279_0
      replace hx279_1 := (HB.1.cell (World.block_lt_of_cell? w _ hx279_1)).trans hx279_1
      replace p279 := eq_true p279
      replace q279 := eq_true q279
      go_upto_region 7 with (first | ((with_reducible refine gate_dst (N := 5) rfl ?_); refine bx 5 #[.int .i64 0, .int .i64 0] 82 ?_; intro g0_ hg w7 hbox hb; have B0_ := mk (hbox); have W0_ := gl hg zq; have E0_ := gl hg zq; replace HB := mk (below_step zq hb); clear hb hbox hg; obtain ⟨hcz8_0, hcz8_1⟩ := cc2 B0_.1; obtain ⟨hfz8_0, hfz8_1⟩ := cf2 B0_.1))
      repeat (go_quiet (first | ((with_reducible refine gate_dst (N := 5) rfl ?_); refine bx 5 #[.int .i64 0, .int .i64 0] 82 ?_; intro g0_ hg w7 hbox hb; have B0_ := mk (hbox); have W0_ := gl hg zq; have E0_ := gl hg zq; replace HB := mk (below_step zq hb); clear hb hbox hg; obtain ⟨hcz8_0, hcz8_1⟩ := cc2 B0_.1; obtain ⟨hfz8_0, hfz8_1⟩ := cf2 B0_.1)); go_upto_region 7 with (first | ((with_reducible refine gate_dst (N := 5) rfl ?_); refine bx 5 #[.int .i64 0, .int .i64 0] 82 ?_; intro g0_ hg w7 hbox hb; have B0_ := mk (hbox); have W0_ := gl hg zq; have E0_ := gl hg zq; replace HB := mk (below_step zq hb); clear hb hbox hg; obtain ⟨hcz8_0, hcz8_1⟩ := cc2 B0_.1; obtain ⟨hfz8_0, hfz8_1⟩ := cf2 B0_.1)))
      (try simp only [Act.put, zA, zB, zC])
      go_cut [33] (fun v33 wc => ∃ (kq : Nat) (x33_5 : Bool), v33 = .bool x33_5 ∧ Aside0 (clepsydraref06_Table.j1 kq l0 x3_1 x11_1 l0 (l0.length : Int) x11_1 x33_5 ((rd_T82 l0 x11_1).f0) ((rd_T82 l0 x11_1).f1) = some r) ∧ Aside0 (kq ≤ k1) ∧ Aside0 (wc.heap[g0_]? = some (.cells #[.int .i64 ((rd_T82 l0 x11_1).f0), .int .i64 ((rd_T82 l0 x11_1).f1)] 82 (0, 0))) ∧ Aside0 (Below w.heap.size w wc))
      case first =>
       have H := HC6.1
       clear HC6
       by_cases c9 : ((rd_T82 l0 x11_1).f0) < 0
       ·rw [if_pos c9] at H
        have c9b0 : decide (((rd_T82 l0 x11_1).f0) < 0) = true := decide_eq_true c9
        clear c9
        (first | rw [c9b0] | (simp only [i64_w, i32_w]; rw [c9b0]) | skip)
        have H' := mk H
        clear H
        have hcz10_0 : w7.cell? ⟨g0_, 0, none⟩ = some (.int .i64 0) := bQ B0_.1 0
        have hfz10_0 := blk_frozen B0_.1 0
        go_wp2
        repeat (go_quiet (fail); try go_wp2)
        go_meet
        case rel => exact ⟨_, (true), zs, H', ⟨by have := HK1.1; first | omega | exact Nat.le_refl _⟩, ⟨by (with_reducible repeat (first | refine blk_drewN ?_ _ | refine blk_drew ?_ | refine blk_alloc ?_ _)); refine blk_put (cs := #[.int .i64 ((rd_T82 l0 x11_1).f0), .int .i64 0]) ?_ 1 _ rfl; (with_reducible repeat (first | refine blk_drewN ?_ _ | refine blk_drew ?_ | refine blk_alloc ?_ _)); refine blk_put (cs := #[.int .i64 0, .int .i64 0]) ?_ 0 _ rfl; (with_reducible repeat (first | refine blk_drewN ?_ _ | refine blk_drew ?_ | refine blk_alloc ?_ _)); exact B0_.1⟩, ⟨by repeat (first | (with_reducible first | exact HB.1 | apply bA | apply pD | apply b1 | apply bS E0_.1) | exact HB.1)⟩⟩
       rw [if_neg c9] at H
       have c9b0 : decide (((rd_T82 l0 x11_1).f0) < 0) = false := decide_eq_false c9
       clear c9
       (first | rw [c9b0] | (simp only [i64_w, i32_w]; rw [c9b0]) | skip)
       by_cases c11 : ((rd_T82 l0 x11_1).f0) > 1099511627776
       ·rw [if_pos c11] at H
        have c11b0 : decide (1099511627776 < ((rd_T82 l0 x11_1).f0)) = true := decide_eq_true c11
        clear c11
        have H' := mk H
        clear H
        have hcz12_0 : w7.cell? ⟨g0_, 0, none⟩ = some (.int .i64 0) := bQ B0_.1 0
        have hfz12_0 := blk_frozen B0_.1 0
        go_wp2
        repeat (go_quiet (fail); try go_wp2)
        go_meet
        case rel => exact ⟨_, (true), zs, H', ⟨by have := HK1.1; first | omega | exact Nat.le_refl _⟩, ⟨by (with_reducible repeat (first | refine blk_drewN ?_ _ | refine blk_drew ?_ | refine blk_alloc ?_ _)); refine blk_put (cs := #[.int .i64 ((rd_T82 l0 x11_1).f0), .int .i64 0]) ?_ 1 _ rfl; (with_reducible repeat (first | refine blk_drewN ?_ _ | refine blk_drew ?_ | refine blk_alloc ?_ _)); refine blk_put (cs := #[.int .i64 0, .int .i64 0]) ?_ 0 _ rfl; (with_reducible repeat (first | refine blk_drewN ?_ _ | refine blk_drew ?_ | refine blk_alloc ?_ _)); exact B0_.1⟩, ⟨by repeat (first | (with_reducible first | exact HB.1 | apply bA | apply pD | apply b1 | apply bS E0_.1) | exact HB.1)⟩⟩
       rw [if_neg c11] at H
       have c11b0 : decide (1099511627776 < ((rd_T82 l0 x11_1).f0)) = false := decide_eq_false c11
       clear c11
       by_cases c13 : ((rd_T82 l0 x11_1).f1) < (-32)
       ·rw [if_pos c13] at H
        have c13b0 : decide (((rd_T82 l0 x11_1).f1) < (-32)) = true := decide_eq_true c13
        clear c13
        have H' := mk H
        clear H
        obtain ⟨hcz14_0, hcz14_1⟩ := cc2 B0_.1
        obtain ⟨hfz14_0, hfz14_1⟩ := cf2 B0_.1
        go_wp2
        repeat (go_quiet (fail); try go_wp2)
        go_meet
        case rel => exact ⟨_, (true), zs, H', ⟨by have := HK1.1; first | omega | exact Nat.le_refl _⟩, ⟨by (with_reducible repeat (first | refine blk_drewN ?_ _ | refine blk_drew ?_ | refine blk_alloc ?_ _)); refine blk_put (cs := #[.int .i64 ((rd_T82 l0 x11_1).f0), .int .i64 0]) ?_ 1 _ rfl; (with_reducible repeat (first | refine blk_drewN ?_ _ | refine blk_drew ?_ | refine blk_alloc ?_ _)); refine blk_put (cs := #[.int .i64 0, .int .i64 0]) ?_ 0 _ rfl; (with_reducible repeat (first | refine blk_drewN ?_ _ | refine blk_drew ?_ | refine blk_alloc ?_ _)); exact B0_.1⟩, ⟨by repeat (first | (with_reducible first | exact HB.1 | apply bA | apply pD | apply b1 | apply bS E0_.1) | exact HB.1)⟩⟩
       rw [if_neg c13] at H
       have c13b0 : decide (((rd_T82 l0 x11_1).f1) < (-32)) = false := decide_eq_false c13
       clear c13
       have H' := mk H
       clear H
       obtain ⟨hcz15_0, hcz15_1⟩ := cc2 B0_.1
       obtain ⟨hfz15_0, hfz15_1⟩ := cf2 B0_.1
       go_wp2
       repeat (go_quiet (fail); try go_wp2)
       go_meet
       case rel => exact ⟨_, (decide (((rd_T82 l0 x11_1).f1) > 32)), zs, H', ⟨by have := HK1.1; first | omega | exact Nat.le_refl _⟩, ⟨by (with_reducible repeat (first | refine blk_drewN ?_ _ | refine blk_drew ?_ | refine blk_alloc ?_ _)); refine blk_put (cs := #[.int .i64 ((rd_T82 l0 x11_1).f0), .int .i64 0]) ?_ 1 _ rfl; (with_reducible repeat (first | refine blk_drewN ?_ _ | refine blk_drew ?_ | refine blk_alloc ?_ _)); refine blk_put (cs := #[.int .i64 0, .int .i64 0]) ?_ 0 _ rfl; (with_reducible repeat (first | refine blk_drewN ?_ _ | refine blk_drew ?_ | refine blk_alloc ?_ _)); exact B0_.1⟩, ⟨by repeat (first | (with_reducible first | exact HB.1 | apply bA | apply pD | apply b1 | apply bS E0_.1) | exact HB.1)⟩⟩
      case rest =>
       clear HC6
       try clear c1
       try clear c2
       try clear c2b0
       try clear c2b1
       try clear p2
       try clear q2
       try clear hx2
       try clear c3
       try clear c3b0
       try clear c4
       try clear c4b0
       try clear c5
       try clear c5b0
       try clear c9
       try clear c9b0
       try clear c11
       try clear c11b0
       try clear c13
       try clear c13b0
       try clear hcz10_0
       try clear hcz12_0
       try clear hcz14_0
       try clear hcz14_1
       try clear hcz15_0
       try clear hcz15_1
       try clear hcz8_0
       try clear hcz8_1
       try clear hfz10_0
       try clear hfz12_0
       try clear hfz14_0
       try clear hfz14_1
       try clear hfz15_0
       try clear hfz15_1
       try clear hfz8_0
       try clear hfz8_1
       try clear hx279_0
       try clear hx279_1
       try clear p2
       try clear p279
       try clear q279
       obtain ⟨kq, x33_5, rfl, HA, HJ5, B0_, HB⟩ := hcut
       cases kq with
       | zero => exact absurd HA.1 (by simp [clepsydraref06_Table.j1])
       | succ kj5 =>
        have H := HA.1
        clear HA
        simp only [clepsydraref06_Table.j1] at H
        by_cases c16 : x33_5 = true
        ·subst c16
         have H1 : (some false) = some r := by rw [if_pos rfl] at H; exact H
         clear H
         have H := H1
         clear H1
         obtain rfl := Option.some.inj H
         go_wp2
         repeat (go_quiet (fail); try go_wp2)
         go_ret
         exact ⟨by first | rfl | (simp [errW_none, errW_some] <;> rfl) | (simp [*, errW_none, errW_some] <;> rfl), by repeat (first | (with_reducible first | exact HB.1 | apply bA | apply pD | apply b1 | apply bS E0_.1) | exact HB.1)⟩
        replace c16 := Bool.eq_false_iff.mpr c16
        subst c16
        have H1 : (if x11_1 > 0 then (if 0 ≤ (wrap64 (x11_1 - 1)) then (if (wrap64 (x11_1 - 1)) < (l0.length : Int) then (clepsydraref06_Table.j2 kj5 l0 x3_1 l0 (l0.length : Int) x11_1 (decide (((rd_T82 l0 x11_1).f0) < (wrap64 (((rd_T82 l0 (wrap64 (x11_1 - 1))).f0) + 86400)))) ((rd_T82 l0 x11_1).f0) ((rd_T82 l0 x11_1).f1)) else (none)) else (none)) else (clepsydraref06_Table.j2 kj5 l0 x3_1 l0 (l0.length : Int) x11_1 false ((rd_T82 l0 x11_1).f0) ((rd_T82 l0 x11_1).f1))) = some r := by rw [if_neg (show ¬ (false = true) by decide)] at H; exact H
        clear H
        have H := H1
        clear H1
        have HC17 := mk H
        clear H
        go_upto_region 9 with (fail)
        repeat (go_quiet (fail); go_upto_region 9 with (fail))
        go_cut [47] (fun v47 wc => ∃ (kq : Nat) (x47_16 : Bool), v47 = .bool x47_16 ∧ Aside0 (clepsydraref06_Table.j2 kq l0 x3_1 l0 (l0.length : Int) x11_1 x47_16 ((rd_T82 l0 x11_1).f0) ((rd_T82 l0 x11_1).f1) = some r) ∧ Aside0 (kq ≤ kj5) ∧ Aside0 (wc.heap[g0_]? = some (.cells #[.int .i64 ((rd_T82 l0 x11_1).f0), .int .i64 ((rd_T82 l0 x11_1).f1)] 82 (0, 0))) ∧ Aside0 (Below w.heap.size w wc))
        case first =>
         have H := HC17.1
         clear HC17
         by_cases c18 : x11_1 > 0
         ·rw [if_pos c18] at H
          have c18b0 : decide (0 < x11_1) = true := decide_eq_true c18
          clear c18
          (first | rw [c18b0] | (simp only [i64_w, i32_w]; rw [c18b0]) | skip)
          obtain ⟨ji19, hji19⟩ : ∃ j_ : Int, (wrap64 (x11_1 - 1)) = j_ := ⟨_, rfl⟩
          replace H : (if 0 ≤ (ji19) then (if (ji19) < (l0.length : Int) then (clepsydraref06_Table.j2 kj5 l0 x3_1 l0 (l0.length : Int) x11_1 (decide (((rd_T82 l0 x11_1).f0) < (wrap64 (((rd_T82 l0 (ji19)).f0) + 86400)))) ((rd_T82 l0 x11_1).f0) ((rd_T82 l0 x11_1).f1)) else (none)) else (none)) = some r := by first | (rw [hji19] at H; exact H) | (simp only [hji19] at H ⊢; exact H)
          have hji19w : (IntKind.i64.wrap (x11_1 - 1)) = ji19 := (i64_w _).trans hji19
          by_cases c20 : 0 ≤ (ji19)
          ·rw [if_pos c20] at H
           have c20b0 : decide (0 ≤ (ji19)) = true := decide_eq_true c20
           clear c20
           by_cases c21 : (ji19) < (l0.length : Int)
           ·rw [if_pos c21] at H
            have c21b0 : decide ((ji19) < (l0.length : Int)) = true := decide_eq_true c21
            clear c21
            have H' := mk H
            clear H
            have hcz22_0 : wc.cell? ⟨g0_, 0, none⟩ = some (.int .i64 ((rd_T82 l0 x11_1).f0)) := bQ B0_.1 0
            have hfz22_0 := blk_frozen B0_.1 0
            have p281 : 0 ≤ ((ji19) : Int) := of_decide_eq_true (by first | (with_reducible assumption) | assumption)
            have q281 : (ji19) < (l0.length : Int) := of_decide_eq_true (by first | (with_reducible assumption) | assumption)
            obtain ⟨ad281, e281, hx281_0, hx281_1⟩ := at_T82 HR0.1 (ji19) p281 q281
            obtain rfl : ad279 = ad281 := (by injection e281)
            replace hx281_0 := (HB.1.cell (World.block_lt_of_cell? w _ hx281_0)).trans hx281_0
            replace hx281_1 := (HB.1.cell (World.block_lt_of_cell? w _ hx281_1)).trans hx281_1
            replace p281 := eq_true p281
            replace q281 := eq_true q281
            go_wp2
            repeat (go_quiet (fail); try go_wp2)
            go_meet
            case rel => exact ⟨_, (decide (((rd_T82 l0 x11_1).f0) < (wrap64 (((rd_T82 l0 (ji19)).f0) + 86400)))), (by first | rfl | (simp; done) | (simp only [← hji19] <;> (first | rfl | simp)) | (simp [*]; done)), H', ⟨by have := HK1.1; have := HJ5.1; first | omega | exact Nat.le_refl _⟩, ⟨by exact B0_.1⟩, ⟨by repeat (first | (with_reducible first | exact HB.1 | apply bA | apply pD | apply b1 | apply bS E0_.1) | exact HB.1)⟩⟩
           rw [if_neg c21] at H
           exact absurd H (by simp)
          rw [if_neg c20] at H
          exact absurd H (by simp)
         rw [if_neg c18] at H
         have c18b0 : decide (0 < x11_1) = false := decide_eq_false c18
         clear c18
         (first | rw [c18b0] | (simp only [i64_w, i32_w]; rw [c18b0]) | skip)
         have H' := mk H
         clear H
         go_wp2
         repeat (go_quiet (fail); try go_wp2)
         go_meet
         case rel => exact ⟨_, (false), zs, H', ⟨by have := HK1.1; have := HJ5.1; first | omega | exact Nat.le_refl _⟩, ⟨by exact B0_.1⟩, ⟨by repeat (first | (with_reducible first | exact HB.1 | apply bA | apply pD | apply b1 | apply bS E0_.1) | exact HB.1)⟩⟩
        case rest =>
         clear HC17
         try clear c1
         try clear c2
         try clear c2b0
         try clear c2b1
         try clear p2
         try clear q2
         try clear hx2
         try clear c3
         try clear c3b0
         try clear c4
         try clear c4b0
         try clear c5
         try clear c5b0
         try clear p6
         try clear c9
         try clear c9b0
         try clear c11
         try clear c11b0
         try clear c13
         try clear c13b0
         try clear c16
         try clear c18
         try clear c18b0
         try clear c20
         try clear c20b0
         try clear c21
         try clear c21b0
         try clear hcz10_0
         try clear hcz12_0
         try clear hcz14_0
         try clear hcz14_1
         try clear hcz15_0
         try clear hcz15_1
         try clear hcz22_0
         try clear hcz8_0
         try clear hcz8_1
         try clear hfz10_0
         try clear hfz12_0
         try clear hfz14_0
         try clear hfz14_1
         try clear hfz15_0
         try clear hfz15_1
         try clear hfz22_0
         try clear hfz8_0
         try clear hfz8_1
         try clear hx279_0
         try clear hx279_1
         try clear hx281_0
         try clear hx281_1
         try clear p2
         try clear p279
         try clear p281
         try clear q2
         try clear q279
         try clear q281
         obtain ⟨kq, x47_16, rfl, HA, HJ16, B0_, HB⟩ := hcut
         cases kq with
         | zero => exact absurd HA.1 (by simp [clepsydraref06_Table.j2])
         | succ kj16 =>
          have H := HA.1
          clear HA
          simp only [clepsydraref06_Table.j2] at H
          by_cases c23 : x47_16 = true
          ·subst c23
           have H1 : (some false) = some r := by rw [if_pos rfl] at H; exact H
           clear H
           have H := H1
           clear H1
           obtain rfl := Option.some.inj H
           go_wp2
           repeat (go_quiet (fail); try go_wp2)
           go_ret
           exact ⟨by first | rfl | (simp [errW_none, errW_some] <;> rfl) | (simp [*, errW_none, errW_some] <;> rfl), by repeat (first | (with_reducible first | exact HB.1 | apply bA | apply pD | apply b1 | apply bS E0_.1) | exact HB.1)⟩
          replace c23 := Bool.eq_false_iff.mpr c23
          subst c23
          have H1 : (if ((rd_T82 l0 x11_1).f1) = (wrap64 (x3_1 + 1)) then (clepsydraref06_Table.l0 kj16 l0 ((rd_T82 l0 x11_1).f1) l0 (l0.length : Int) (wrap64 (x11_1 + 1))) else (if ((rd_T82 l0 x11_1).f1) = (wrap64 (x3_1 - 1)) then (clepsydraref06_Table.l0 kj16 l0 ((rd_T82 l0 x11_1).f1) l0 (l0.length : Int) (wrap64 (x11_1 + 1))) else (some false))) = some r := by rw [if_neg (show ¬ (false = true) by decide)] at H; exact H
          clear H
          have H := H1
          clear H1
          by_cases c24 : ((rd_T82 l0 x11_1).f1) = (wrap64 (x3_1 + 1))
          ·rw [if_pos c24] at H
           have c24b0 : (((rd_T82 l0 x11_1).f1) == (wrap64 (x3_1 + 1))) = true := beq_iff_eq.mpr c24
           have c24b1 : (((rd_T82 l0 x11_1).f1) != (wrap64 (x3_1 + 1))) = false := bne_eq_false_iff_eq.mpr c24
           clear c24
           have H' := mk H
           clear H
           have hcz25_1 : wc.cell? ⟨g0_, 1, none⟩ = some (.int .i64 ((rd_T82 l0 x11_1).f1)) := bQ B0_.1 1
           have hfz25_1 := blk_frozen B0_.1 1
           go_wp2
           repeat (go_quiet (fail); try go_wp2)
           go_roundg kj16
           case measure => have := HK1.1; have := HJ5.1; have := HJ16.1; omega
           case rel => exact ⟨(((rd_T82 l0 x11_1).f1)), (wrap64 (x11_1 + 1)), zs, zs, H', ⟨by have := HK1.1; have := HJ5.1; have := HJ16.1; omega⟩, ⟨by repeat (first | (with_reducible first | exact HB.1 | apply bA | apply pD | apply b1 | apply bS E0_.1) | exact HB.1)⟩⟩
          rw [if_neg c24] at H
          have c24b0 : (((rd_T82 l0 x11_1).f1) == (wrap64 (x3_1 + 1))) = false := beq_eq_false_iff_ne.mpr c24
          have c24b1 : (((rd_T82 l0 x11_1).f1) != (wrap64 (x3_1 + 1))) = true := bne_iff_ne.mpr c24
          by_cases c26 : ((rd_T82 l0 x11_1).f1) = (wrap64 (x3_1 - 1))
          ·rw [if_pos c26] at H
           have c26b0 : (((rd_T82 l0 x11_1).f1) == (wrap64 (x3_1 - 1))) = true := beq_iff_eq.mpr c26
           have c26b1 : (((rd_T82 l0 x11_1).f1) != (wrap64 (x3_1 - 1))) = false := bne_eq_false_iff_eq.mpr c26
           clear c26
           have H' := mk H
           clear H
           have hcz27_1 : wc.cell? ⟨g0_, 1, none⟩ = some (.int .i64 ((rd_T82 l0 x11_1).f1)) := bQ B0_.1 1
           have hfz27_1 := blk_frozen B0_.1 1
           go_wp2
           repeat (go_quiet (fail); try go_wp2)
           go_roundg kj16
           case measure => have := HK1.1; have := HJ5.1; have := HJ16.1; omega
           case rel => exact ⟨(((rd_T82 l0 x11_1).f1)), (wrap64 (x11_1 + 1)), zs, zs, H', ⟨by have := HK1.1; have := HJ5.1; have := HJ16.1; omega⟩, ⟨by repeat (first | (with_reducible first | exact HB.1 | apply bA | apply pD | apply b1 | apply bS E0_.1) | exact HB.1)⟩⟩
          rw [if_neg c26] at H
          have c26b0 : (((rd_T82 l0 x11_1).f1) == (wrap64 (x3_1 - 1))) = false := beq_eq_false_iff_ne.mpr c26
          have c26b1 : (((rd_T82 l0 x11_1).f1) != (wrap64 (x3_1 - 1))) = true := bne_iff_ne.mpr c26
          obtain rfl := Option.some.inj H
          have hcz28_1 : wc.cell? ⟨g0_, 1, none⟩ = some (.int .i64 ((rd_T82 l0 x11_1).f1)) := bQ B0_.1 1
          have hfz28_1 := blk_frozen B0_.1 1
          go_wp2
          repeat (go_quiet (fail); try go_wp2)
          go_ret
          exact ⟨by first | rfl | (simp [errW_none, errW_some] <;> rfl) | (simp [*, errW_none, errW_some] <;> rfl), by repeat (first | (with_reducible first | exact HB.1 | apply bA | apply pD | apply b1 | apply bS E0_.1) | exact HB.1)⟩
     rw [if_neg c5] at H
     exact absurd H (by simp)
    rw [if_neg c4] at H
    exact absurd H (by simp)
   rw [if_neg c3] at H
   have c3b0 : decide (x11_1 < (l0.length : Int)) = false := decide_eq_false c3
   clear c3
   obtain rfl := Option.some.inj H
   go_wp2
   repeat (go_quiet (fail); try go_wp2)
   go_ret
   exact ⟨by first | rfl | (simp [errW_none, errW_some] <;> rfl) | (simp [*, errW_none, errW_some] <;> rfl), by repeat (first | (with_reducible first | exact HB.1 | apply bA | apply pD | apply b1) | exact HB.1)⟩

end Go.Proofs.YtigkjbaclpklpaaDoor.Q
