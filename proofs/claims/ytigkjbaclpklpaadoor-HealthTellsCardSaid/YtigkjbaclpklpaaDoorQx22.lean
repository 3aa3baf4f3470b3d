/- The calls of these Go functions answer what the Lean functions beside them answer; written by a program (wip/pr2.py, out of the print of the loaded program); under no condition but those that stand in the theorems. -/
import Derived.Test.YtigkjbaclpklpaaDoorQx0
import Derived.Test.YtigkjbaclpklpaaDoorQx21
namespace Go.Proofs.YtigkjbaclpklpaaDoor.Q
open Go.RowKit Go.Proofs.YtigkjbaclpklpaaDoorW.PrintWords Go.Proofs.YtigkjbaclpklpaaDoorW.PrintLast Go.Proofs.YtigkjbaclpklpaaDoorW.PrintMore
attribute [local go_sem] max2_int min2_int max_two min_two max_three min_three max_four min_four   -- for this text's walks alone
set_option linter.unusedVariables false
set_option linter.unusedSimpArgs false

/-! ### clepsydraref18_Good: function 23 -/
def clepsydraref18_Good.l0 : Nat → List (S82) → Int → Int → Option (Bool)
 | 0, _, _, _ => none
 | k + 1, x8, x9, x10 => if x10 < x9 then (if 0 ≤ x10 then (if x10 < (x8.length : Int) then (if (Int.tmod (wrap64 (((rd_T82 x8 x10).f0) - ((rd_T82 x8 x10).f1))) 86400) = 0 then (clepsydraref18_Good.l0 k x8 x9 (wrap64 (x10 + 1))) else (some false)) else (none)) else (none)) else (some true)
def clepsydraref18_Good.f (k : Nat) (l0 : List (S82)) : Option (Bool) := (clepsydraref06_Table.f k l0).bind fun t282 => (if t282 = true then (clepsydraref18_Good.l0 k l0 (l0.length : Int) 0) else (some false))
theorem clepsydraref18_Good.mono_l : ∀ k, (∀ y0 y1 y2, LeO (clepsydraref18_Good.l0 k y0 y1 y2) (clepsydraref18_Good.l0 (k + 1) y0 y1 y2))
 | 0 => fun _ _ _ r h => by simp [clepsydraref18_Good.l0] at h
 | k + 1 => by
  have ih0 := clepsydraref18_Good.mono_l k
  intro y0 y1 y2
  unfold clepsydraref18_Good.l0
  repeat' first
  | (with_reducible exact ih0 _ _ _)
  | (with_reducible exact clepsydraref06_Table.mono _ _)
  | (with_reducible exact LeO.refl _)
  | (with_reducible exact LeO.none _)
  | (with_reducible refine LeO.ite ?_ ?_)
  | (with_reducible refine LeO.bind ?_ (fun _ => ?_))
  | exact ih0 _ _ _
  | exact clepsydraref06_Table.mono _ _
  | exact LeO.none _
  | refine LeO.ite ?_ ?_
  | refine LeO.bind ?_ (fun _ => ?_)
theorem clepsydraref18_Good.mono : ∀ a0 k, LeO (clepsydraref18_Good.f k a0) (clepsydraref18_Good.f (k + 1) a0) := by
 intro a0 k
 have ih0 := clepsydraref18_Good.mono_l k
 unfold clepsydraref18_Good.f
 repeat' first
   | (with_reducible exact ih0 _ _ _)
   | (with_reducible exact clepsydraref06_Table.mono _ _)
   | (with_reducible exact LeO.refl _)
   | (with_reducible exact LeO.none _)
   | (with_reducible refine LeO.ite ?_ ?_)
   | (with_reducible refine LeO.bind ?_ (fun _ => ?_))
   | exact ih0 _ _ _
   | exact clepsydraref06_Table.mono _ _
   | exact LeO.none _
   | refine LeO.ite ?_ ?_
   | refine LeO.bind ?_ (fun _ => ?_)
set_option maxHeartbeats 8000000 in
set_option maxRecDepth 100000 in
theorem clepsydraref18_Good.calls (k : Nat) (A0 : Option Addr) (c0 : Nat) (l0 : List (S82)) (r : Bool) (w : World) (hr0 : Kd.C k82 w A0 l0.length l0) (hc0 : l0.length ≤ c0) (h : clepsydraref18_Good.f k l0 = some r) :
  Calls Tryd.prog 23 #[.slice A0 l0.length c0] w fun e w' => e = .returned (.bool r) ∧ Below w.heap.size w w' := by
 have hu82 := Tryd.underlying82
 have HR0 := mk hr0
 have HC0 := mk hc0
 clear hr0 hc0
 have HB := mk (Below.refl w.heap.size w)
 have H : ((clepsydraref06_Table.f k l0).bind fun t282 => (if t282 = true then (clepsydraref18_Good.l0 k l0 (l0.length : Int) 0) else (some false))) = some r := h
 clear h
 replace H := Option.bind_eq_some_iff.mp H
 obtain ⟨t282, A20, H⟩ := H
 replace H : (if t282 = true then (clepsydraref18_Good.l0 k l0 (l0.length : Int) 0) else (some false)) = some r := H
 have A2 := mk A20
 clear A20
 by_cases c3 : t282 = true
 ·subst c3
  have H1 : (clepsydraref18_Good.l0 k l0 (l0.length : Int) 0) = some r := by rw [if_pos rfl] at H; exact H
  clear H
  have H := H1
  clear H1
  have H' := mk H
  clear H
  go_enter Tryd.func23, Tryd.ntmps23
  go_wp2_with (first | ((with_reducible refine gate_callee (f := 46) rfl ?_); refine goesL_ (some 6) rfl rfl Tryd.func46 (by kernel_rfl) rfl #[.slice A0 l0.length c0] rfl (by (try simp only [List.map_toArray, List.map_cons, List.map_nil]); first | done | rfl | (simp only [List.length_drop, List.length_take]; rfl)) ?_; (with_reducible refine (clepsydraref06_Table.calls k _ _ l0 true _ ?side1 ?side2 A2.1).mono ?_); (case side1 => repeat (first | exact HR0.1 | (with_reducible refine Kd.C_alloc ?_ _) | (with_reducible refine Kd.C_drewN ?_ _) | (with_reducible refine Kd.C_drew ?_))); (case side2 => exact HC0.1); rintro e w4 ⟨rfl, hb⟩; refine ⟨_, rfl, ?_⟩; replace HB := mk (below_step zq hb); (try clear hb); (try clear hb2); (try clear hk); (try clear hi)))
  go_loopg [10] k (fun kq v10 w' => ∃ (x10_1 : Int), v10 = .int .i64 x10_1 ∧ Aside0 (clepsydraref18_Good.l0 kq l0 (l0.length : Int) x10_1 = some r) ∧ Aside0 (kq ≤ k) ∧ Aside0 (Below w.heap.size w w'))
  case atStart => exact ⟨(0), zs, H', ⟨Nat.le_refl _⟩, ⟨by repeat (first | (with_reducible first | exact HB.1 | apply bA | apply pD | apply b1) | exact HB.1)⟩⟩
  case round =>
   clear H'
   try clear c2
   try clear p2
   try clear c3
   try clear c4
   obtain ⟨x10_1, rfl, HA, HK1, HB⟩ := hrel
   cases gk with
   | zero => exact absurd HA.1 (by simp [clepsydraref18_Good.l0])
   | succ k1 =>
    have H := HA.1
    clear HA
    simp only [clepsydraref18_Good.l0] at H
    by_cases c5 : x10_1 < (l0.length : Int)
    ·rw [if_pos c5] at H
     have c5b0 : decide (x10_1 < (l0.length : Int)) = true := decide_eq_true c5
     clear c5
     by_cases c6 : 0 ≤ x10_1
     ·rw [if_pos c6] at H
      have c6b0 : decide (0 ≤ x10_1) = true := decide_eq_true c6
      clear c6
      by_cases c7 : x10_1 < (l0.length : Int)
      ·rw [if_pos c7] at H
       have c7b0 : decide (x10_1 < (l0.length : Int)) = true := decide_eq_true c7
       clear c7
       by_cases c8 : (Int.tmod (wrap64 (((rd_T82 l0 x10_1).f0) - ((rd_T82 l0 x10_1).f1))) 86400) = 0
       ·rw [if_pos c8] at H
        have c8b0 : ((Int.tmod (wrap64 (((rd_T82 l0 x10_1).f0) - ((rd_T82 l0 x10_1).f1))) 86400) == 0) = true := beq_iff_eq.mpr c8
        have c8b1 : ((Int.tmod (wrap64 (((rd_T82 l0 x10_1).f0) - ((rd_T82 l0 x10_1).f1))) 86400) != 0) = false := bne_eq_false_iff_eq.mpr c8
        clear c8
        have H' := mk H
        clear H
        have p283 : 0 ≤ (x10_1 : Int) := of_decide_eq_true (by first | (with_reducible assumption) | assumption)
        have q283 : x10_1 < (l0.length : Int) := of_decide_eq_true (by first | (with_reducible assumption) | assumption)
        obtain ⟨ad283, e283, hx283_0, hx283_1⟩ := at_T82 HR0.1 x10_1 p283 q283
        cases e283
        replace hx283_0 := (HB.1.cell (World.block_lt_of_cell? w _ hx283_0)).trans hx283_0
        replace hx283_1 := (HB.1.cell (World.block_lt_of_cell? w _ hx283_1)).trans hx283_1
        replace p283 := eq_true p283
        replace q283 := eq_true q283
        go_wp2_with (first | ((with_reducible refine gate_dst (N := 4) rfl ?_); refine bx 4 #[.int .i64 0, .int .i64 0] 82 ?_; intro g0_ hg w9 hbox hb; have B0_ := mk (hbox); have W0_ := gl hg zq; have E0_ := gl hg zq; replace HB := mk (below_step zq hb); clear hb hbox hg; obtain ⟨hcz10_0, hcz10_1⟩ := cc2 B0_.1; obtain ⟨hfz10_0, hfz10_1⟩ := cf2 B0_.1))
        go_roundg k1
        case measure => have := HK1.1; omega
        case rel => exact ⟨(wrap64 (x10_1 + 1)), zs, H', ⟨by have := HK1.1; omega⟩, ⟨by repeat (first | (with_reducible first | exact HB.1 | apply bA | apply pD | apply b1 | apply bS E0_.1) | exact HB.1)⟩⟩
       rw [if_neg c8] at H
       have c8b0 : ((Int.tmod (wrap64 (((rd_T82 l0 x10_1).f0) - ((rd_T82 l0 x10_1).f1))) 86400) == 0) = false := beq_eq_false_iff_ne.mpr c8
       have c8b1 : ((Int.tmod (wrap64 (((rd_T82 l0 x10_1).f0) - ((rd_T82 l0 x10_1).f1))) 86400) != 0) = true := bne_iff_ne.mpr c8
       obtain rfl := Option.some.inj H
       have p283 : 0 ≤ (x10_1 : Int) := of_decide_eq_true (by first | (with_reducible assumption) | assumption)
       have q283 : x10_1 < (l0.length : Int) := of_decide_eq_true (by first | (with_reducible assumption) | assumption)
       obtain ⟨ad283, e283, hx283_0, hx283_1⟩ := at_T82 HR0.1 x10_1 p283 q283
       cases e283
       replace hx283_0 := (HB.1.cell (World.block_lt_of_cell? w _ hx283_0)).trans hx283_0
       replace hx283_1 := (HB.1.cell (World.block_lt_of_cell? w _ hx283_1)).trans hx283_1
       replace p283 := eq_true p283
       replace q283 := eq_true q283
       go_wp2_with (first | ((with_reducible refine gate_dst (N := 4) rfl ?_); refine bx 4 #[.int .i64 0, .int .i64 0] 82 ?_; intro g0_ hg w11 hbox hb; have B0_ := mk (hbox); have W0_ := gl hg zq; have E0_ := gl hg zq; replace HB := mk (below_step zq hb); clear hb hbox hg; obtain ⟨hcz12_0, hcz12_1⟩ := cc2 B0_.1; obtain ⟨hfz12_0, hfz12_1⟩ := cf2 B0_.1))
       go_ret
       exact ⟨by first | rfl | (simp [errW_none, errW_some] <;> rfl) | (simp [*, errW_none, errW_some] <;> rfl), by repeat (first | (with_reducible first | exact HB.1 | apply bA | apply pD | apply b1 | apply bS E0_.1) | exact HB.1)⟩
      rw [if_neg c7] at H
      exact absurd H (by simp)
     rw [if_neg c6] at H
     exact absurd H (by simp)
    rw [if_neg c5] at H
    have c5b0 : decide (x10_1 < (l0.length : Int)) = false := decide_eq_false c5
    clear c5
    obtain rfl := Option.some.inj H
    go_wp2
    go_ret
    exact ⟨by first | rfl | (simp [errW_none, errW_some] <;> rfl) | (simp [*, errW_none, errW_some] <;> rfl), by repeat (first | (with_reducible first | exact HB.1 | apply bA | apply pD | apply b1) | exact HB.1)⟩
 replace c3 := Bool.eq_false_iff.mpr c3
 subst c3
 have H1 : (some false) = some r := by rw [if_neg (show ¬ (false = true) by decide)] at H; exact H
 clear H
 have H := H1
 clear H1
 obtain rfl := Option.some.inj H
 go_enter Tryd.func23, Tryd.ntmps23
 go_wp2_with (first | ((with_reducible refine gate_callee (f := 46) rfl ?_); refine goesL_ (some 6) rfl rfl Tryd.func46 (by kernel_rfl) rfl #[.slice A0 l0.length c0] rfl (by (try simp only [List.map_toArray, List.map_cons, List.map_nil]); first | done | rfl | (simp only [List.length_drop, List.length_take]; rfl)) ?_; (with_reducible refine (clepsydraref06_Table.calls k _ _ l0 false _ ?side1 ?side2 A2.1).mono ?_); (case side1 => repeat (first | exact HR0.1 | (with_reducible refine Kd.C_alloc ?_ _) | (with_reducible refine Kd.C_drewN ?_ _) | (with_reducible refine Kd.C_drew ?_))); (case side2 => exact HC0.1); rintro e w13 ⟨rfl, hb⟩; refine ⟨_, rfl, ?_⟩; replace HB := mk (below_step zq hb); (try clear hb); (try clear hb2); (try clear hk); (try clear hi)))
 go_ret
 exact ⟨by first | rfl | (simp [errW_none, errW_some] <;> rfl) | (simp [*, errW_none, errW_some] <;> rfl), by repeat (first | (with_reducible first | exact HB.1 | apply bA | apply pD | apply b1) | exact HB.1)⟩

/-! ### clepsydraref18_Offset: function 48 -/
def clepsydraref18_Offset.l0 : Nat → Int → Int → List (S82) → Int → Int → Option (Int)
 | 0, _, _, _, _, _ => none
 | k + 1, x1, x5, x8, x9, x10 => if x10 < x9 then (if 0 ≤ x10 then (if x10 < (x8.length : Int) then (if ((rd_T82 x8 x10).f0) ≤ x1 then (clepsydraref18_Offset.l0 k x1 ((rd_T82 x8 x10).f1) x8 x9 (wrap64 (x10 + 1))) else (clepsydraref18_Offset.l0 k x1 x5 x8 x9 (wrap64 (x10 + 1)))) else (none)) else (none)) else (some x5)
def clepsydraref18_Offset.f (k : Nat) (l0 : List (S82)) (a1 : Int) : Option (Int) := clepsydraref18_Offset.l0 k a1 0 l0 (l0.length : Int) 0
theorem clepsydraref18_Offset.mono_l : ∀ k, (∀ y0 y1 y2 y3 y4, LeO (clepsydraref18_Offset.l0 k y0 y1 y2 y3 y4) (clepsydraref18_Offset.l0 (k + 1) y0 y1 y2 y3 y4))
 | 0 => fun _ _ _ _ _ r h => by simp [clepsydraref18_Offset.l0] at h
 | k + 1 => by
  have ih0 := clepsydraref18_Offset.mono_l k
  intro y0 y1 y2 y3 y4
  unfold clepsydraref18_Offset.l0
  repeat' first
  | (with_reducible exact ih0 _ _ _ _ _)
  | (with_reducible exact LeO.refl _)
  | (with_reducible exact LeO.none _)
  | (with_reducible refine LeO.ite ?_ ?_)
  | (with_reducible refine LeO.bind ?_ (fun _ => ?_))
  | exact ih0 _ _ _ _ _
  | exact LeO.none _
  | refine LeO.ite ?_ ?_
  | refine LeO.bind ?_ (fun _ => ?_)
theorem clepsydraref18_Offset.mono : ∀ a0 a1 k, LeO (clepsydraref18_Offset.f k a0 a1) (clepsydraref18_Offset.f (k + 1) a0 a1) := by
 intro a0 a1 k
 have ih0 := clepsydraref18_Offset.mono_l k
 unfold clepsydraref18_Offset.f
 repeat' first
   | (with_reducible exact ih0 _ _ _ _ _)
   | (with_reducible exact LeO.refl _)
   | (with_reducible exact LeO.none _)
   | (with_reducible refine LeO.ite ?_ ?_)
   | (with_reducible refine LeO.bind ?_ (fun _ => ?_))
   | exact ih0 _ _ _ _ _
   | exact LeO.none _
   | refine LeO.ite ?_ ?_
   | refine LeO.bind ?_ (fun _ => ?_)
set_option maxHeartbeats 8000000 in
set_option maxRecDepth 100000 in
theorem clepsydraref18_Offset.calls (k : Nat) (A0 : Option Addr) (c0 : Nat) (l0 : List (S82)) (a1 : Int) (r : Int) (w : World) (hr0 : Kd.C k82 w A0 l0.length l0) (hc0 : l0.length ≤ c0) (h : clepsydraref18_Offset.f k l0 a1 = some r) :
  Calls Tryd.prog 48 #[.slice A0 l0.length c0, .int .i64 a1] w fun e w' => e = .returned (.int .i64 r) ∧ Below w.heap.size w w' := by
 have hu82 := Tryd.underlying82
 have HR0 := mk hr0
 have HC0 := mk hc0
 clear hr0 hc0
 have HB := mk (Below.refl w.heap.size w)
 have H : (clepsydraref18_Offset.l0 k a1 0 l0 (l0.length : Int) 0) = some r := h
 clear h
 have H' := mk H
 clear H
 go_enter Tryd.func48, Tryd.ntmps48
 go_wp2
 go_loopg [5, 10] k (fun kq v5 v10 w' => ∃ (x5_1 : Int) (x10_1 : Int), v5 = .int .i64 x5_1 ∧ v10 = .int .i64 x10_1 ∧ Aside0 (clepsydraref18_Offset.l0 kq a1 x5_1 l0 (l0.length : Int) x10_1 = some r) ∧ Aside0 (kq ≤ k) ∧ Aside0 (Below w.heap.size w w'))
 case atStart => exact ⟨(0), (0), zs, zs, H', ⟨Nat.le_refl _⟩, ⟨by repeat (first | (with_reducible first | exact HB.1 | apply bA | apply pD | apply b1) | exact HB.1)⟩⟩
 case round =>
  clear H'
  try clear p2
  obtain ⟨x5_1, x10_1, rfl, rfl, HA, HK1, HB⟩ := hrel
  cases gk with
  | zero => exact absurd HA.1 (by simp [clepsydraref18_Offset.l0])
  | succ k1 =>
   have H := HA.1
   clear HA
   simp only [clepsydraref18_Offset.l0] at H
   by_cases c3 : x10_1 < (l0.length : Int)
   ·rw [if_pos c3] at H
    have c3b0 : decide (x10_1 < (l0.length : Int)) = true := decide_eq_true c3
    clear c3
    by_cases c4 : 0 ≤ x10_1
    ·rw [if_pos c4] at H
     have c4b0 : decide (0 ≤ x10_1) = true := decide_eq_true c4
     clear c4
     by_cases c5 : x10_1 < (l0.length : Int)
     ·rw [if_pos c5] at H
      have c5b0 : decide (x10_1 < (l0.length : Int)) = true := decide_eq_true c5
      clear c5
      by_cases c6 : ((rd_T82 l0 x10_1).f0) ≤ a1
      ·rw [if_pos c6] at H
       have c6b0 : decide (((rd_T82 l0 x10_1).f0) ≤ a1) = true := decide_eq_true c6
       clear c6
       have H' := mk H
       clear H
       have p285 : 0 ≤ (x10_1 : Int) := of_decide_eq_true (by first | (with_reducible assumption) | assumption)
       have q285 : x10_1 < (l0.length : Int) := of_decide_eq_true (by first | (with_reducible assumption) | assumption)
       obtain ⟨ad285, e285, hx285_0, hx285_1⟩ := at_T82 HR0.1 x10_1 p285 q285
       cases e285
       replace hx285_0 := (HB.1.cell (World.block_lt_of_cell? w _ hx285_0)).trans hx285_0
       replace hx285_1 := (HB.1.cell (World.block_lt_of_cell? w _ hx285_1)).trans hx285_1
       replace p285 := eq_true p285
       replace q285 := eq_true q285
       go_wp2_with (first | ((with_reducible refine gate_dst (N := 7) rfl ?_); refine bx 7 #[.int .i64 0, .int .i64 0] 82 ?_; intro g0_ hg w7 hbox hb; have B0_ := mk (hbox); have W0_ := gl hg zq; have E0_ := gl hg zq; replace HB := mk (below_step zq hb); clear hb hbox hg; obtain ⟨hcz8_0, hcz8_1⟩ := cc2 B0_.1; obtain ⟨hfz8_0, hfz8_1⟩ := cf2 B0_.1))
       go_roundg k1
       case measure => have := HK1.1; omega
       case rel => exact ⟨((rd_T82 l0 x10_1).f1), (wrap64 (x10_1 + 1)), zs, zs, H', ⟨by have := HK1.1; omega⟩, ⟨by repeat (first | (with_reducible first | exact HB.1 | apply bA | apply pD | apply b1 | apply bS E0_.1) | exact HB.1)⟩⟩
      rw [if_neg c6] at H
      have c6b0 : decide (((rd_T82 l0 x10_1).f0) ≤ a1) = false := decide_eq_false c6
      clear c6
      have H' := mk H
      clear H
      have p285 : 0 ≤ (x10_1 : Int) := of_decide_eq_true (by first | (with_reducible assumption) | assumption)
      have q285 : x10_1 < (l0.length : Int) := of_decide_eq_true (by first | (with_reducible assumption) | assumption)
      obtain ⟨ad285, e285, hx285_0, hx285_1⟩ := at_T82 HR0.1 x10_1 p285 q285
      cases e285
      replace hx285_0 := (HB.1.cell (World.block_lt_of_cell? w _ hx285_0)).trans hx285_0
      replace hx285_1 := (HB.1.cell (World.block_lt_of_cell? w _ hx285_1)).trans hx285_1
      replace p285 := eq_true p285
      replace q285 := eq_true q285
      go_wp2_with (first | ((with_reducible refine gate_dst (N := 7) rfl ?_); refine bx 7 #[.int .i64 0, .int .i64 0] 82 ?_; intro g0_ hg w9 hbox hb; have B0_ := mk (hbox); have W0_ := gl hg zq; have E0_ := gl hg zq; replace HB := mk (below_step zq hb); clear hb hbox hg; obtain ⟨hcz10_0, hcz10_1⟩ := cc2 B0_.1; obtain ⟨hfz10_0, hfz10_1⟩ := cf2 B0_.1))
      go_roundg k1
      case measure => have := HK1.1; omega
      case rel => exact ⟨(x5_1), (wrap64 (x10_1 + 1)), zs, zs, H', ⟨by have := HK1.1; omega⟩, ⟨by repeat (first | (with_reducible first | exact HB.1 | apply bA | apply pD | apply b1 | apply bS E0_.1) | exact HB.1)⟩⟩
     rw [if_neg c5] at H
     exact absurd H (by simp)
    rw [if_neg c4] at H
    exact absurd H (by simp)
   rw [if_neg c3] at H
   have c3b0 : decide (x10_1 < (l0.length : Int)) = false := decide_eq_false c3
   clear c3
   obtain rfl := Option.some.inj H
   go_wp2
   go_ret
   exact ⟨by first | rfl | (simp [errW_none, errW_some] <;> rfl) | (simp [*, errW_none, errW_some] <;> rfl), by repeat (first | (with_reducible first | exact HB.1 | apply bA | apply pD | apply b1) | exact HB.1)⟩

end Go.Proofs.YtigkjbaclpklpaaDoor.Q
