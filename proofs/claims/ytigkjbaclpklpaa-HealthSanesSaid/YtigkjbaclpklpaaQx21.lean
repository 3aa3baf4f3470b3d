/- The calls of these Go functions answer what the Lean functions beside them answer; written by a program (wip/pr2.py, out of the print of the loaded program); under no condition but those that stand in the theorems. -/
import Derived.Test.YtigkjbaclpklpaaQx0
import Derived.Test.YtigkjbaclpklpaaQx20
namespace Go.Proofs.Ytigkjbaclpklpaa.Q
open Go.RowKit Go.Proofs.YtigkjbaclpklpaaW.PrintWords Go.Proofs.YtigkjbaclpklpaaW.PrintLast Go.Proofs.YtigkjbaclpklpaaW.PrintMore
attribute [local go_sem] max2_int min2_int max_two min_two max_three min_three max_four min_four   -- for this text's walks alone
set_option linter.unusedVariables false
set_option linter.unusedSimpArgs false

/-! ### clepsydraref18_Good: function 41 -/
def clepsydraref18_Good.l0 : Nat → List (S42) → Int → Int → Option (Bool)
 | 0, _, _, _ => none
 | k + 1, x8, x9, x10 => if x10 < x9 then (if 0 ≤ x10 then (if x10 < (x8.length : Int) then (if (Int.tmod (wrap64 (((rd_T42 x8 x10).f0) - ((rd_T42 x8 x10).f1))) 86400) = 0 then (clepsydraref18_Good.l0 k x8 x9 (wrap64 (x10 + 1))) else (some false)) else (none)) else (none)) else (some true)
def clepsydraref18_Good.f (k : Nat) (l0 : List (S42)) : Option (Bool) := (clepsydraref06_Table.f k l0).bind fun t257 => (if t257 = true then (clepsydraref18_Good.l0 k l0 (l0.length : Int) 0) else (some false))
theorem clepsydraref18_Good.mono_l : ∀ k, (∀ y0 y1 y2, LeO (clepsydraref18_Good.l0 k y0 y1 y2) (clepsydraref18_Good.l0 (k + 1) y0 y1 y2))
 | 0 => fun _ _ _ r h => by simp [clepsydraref18_Good.l0] at h
 | k + 1 => by
  have ih0 := clepsydraref18_Good.mono_l k
  intro y0 y1 y2
  unfold clepsydraref18_Good.l0
  repeat' first
  | (with_reducible exact ih0 _ _ _)
  | (with_reducible exact clepsydraref06_Table.mono _ _)
  | (with_reducible exact LeO.refl _)
  | (with_reducible exact LeO.none _)
  | (with_reducible refine LeO.ite ?_ ?_)
  | (with_reducible refine LeO.bind ?_ (fun _ => ?_))
  | exact ih0 _ _ _
  | exact clepsydraref06_Table.mono _ _
  | exact LeO.none _
  | refine LeO.ite ?_ ?_
  | refine LeO.bind ?_ (fun _ => ?_)
theorem clepsydraref18_Good.mono : ∀ a0 k, LeO (clepsydraref18_Good.f k a0) (clepsydraref18_Good.f (k + 1) a0) := by
 intro a0 k
 have ih0 := clepsydraref18_Good.mono_l k
 unfold clepsydraref18_Good.f
 repeat' first
   | (with_reducible exact ih0 _ _ _)
   | (with_reducible exact clepsydraref06_Table.mono _ _)
   | (with_reducible exact LeO.refl _)
   | (with_reducible exact LeO.none _)
   | (with_reducible refine LeO.ite ?_ ?_)
   | (with_reducible refine LeO.bind ?_ (fun _ => ?_))
   | exact ih0 _ _ _
   | exact clepsydraref06_Table.mono _ _
   | exact LeO.none _
   | refine LeO.ite ?_ ?_
   | refine LeO.bind ?_ (fun _ => ?_)
set_option maxHeartbeats 8000000 in
set_option maxRecDepth 100000 in
theorem clepsydraref18_Good.calls (k : Nat) (A0 : Option Addr) (c0 : Nat) (l0 : List (S42)) (r : Bool) (w : World) (hr0 : Kd.C k42 w A0 l0.length l0) (hc0 : l0.length ≤ c0) (h : clepsydraref18_Good.f k l0 = some r) :
  Calls Try.prog 41 #[.slice A0 l0.length c0] w fun e w' => e = .returned (.bool r) ∧ Below w.heap.size w w' := by
 have hu42 := Try.underlying42
 have HR0 := mk hr0
 have HC0 := mk hc0
 clear hr0 hc0
 have HB := mk (Below.refl w.heap.size w)
 have H : ((clepsydraref06_Table.f k l0).bind fun t257 => (if t257 = true then (clepsydraref18_Good.l0 k l0 (l0.length : Int) 0) else (some false))) = some r := h
 clear h
 replace H := Option.bind_eq_some_iff.mp H
 obtain ⟨t257, A20, H⟩ := H
 replace H : (if t257 = true then (clepsydraref18_Good.l0 k l0 (l0.length : Int) 0) else (some false)) = some r := H
 have A2 := mk A20
 clear A20
 by_cases c3 : t257 = true
 ·subst c3
  have H1 : (clepsydraref18_Good.l0 k l0 (l0.length : Int) 0) = some r := by rw [if_pos rfl] at H; exact H
  clear H
  have H := H1
  clear H1
  have H' := mk H
  clear H
  go_enter Try.func41, Try.ntmps41
  go_wp2_with (first | ((with_reducible refine gate_callee (f := 61) rfl ?_); refine goesL_ (some 6) rfl rfl Try.func61 (by kernel_rfl) rfl #[.slice A0 l0.length c0] rfl (by (try simp only [List.map_toArray, List.map_cons, List.map_nil]); first | done | rfl | (simp only [List.length_drop, List.length_take]; rfl)) ?_; (with_reducible refine (clepsydraref06_Table.calls k _ _ l0 true _ ?side1 ?side2 A2.1).mono ?_); (case side1 => repeat (first | exact HR0.out | (with_reducible refine Kd.C_alloc ?_ _) | (with_reducible refine Kd.C_drewN ?_ _) | (with_reducible refine Kd.C_drew ?_))); (case side2 => exact HC0.out); rintro e w4 ⟨rfl, hb⟩; refine ⟨_, rfl, ?_⟩; have n0_ := mk (below_step (by repeat first | exact HB.1 | apply pD | apply b1 | refine bT (by assumption) ?_ | apply bA) hb); clear HB; have HB := n0_; clear n0_; (try clear hb); (try clear hb2); (try clear hk); (try clear hi)))
  go_loopg [10] k (fun kq v10 w' => ∃ (x10_1 : Int), v10 = .int .i64 x10_1 ∧ Aside0 (clepsydraref18_Good.l0 kq l0 (l0.length : Int) x10_1 = some r) ∧ Aside0 (kq ≤ k) ∧ Aside0 (Below w.heap.size w w'))
  case atStart => exact ⟨(0), (by first | rfl | (simp; done) | (simp [*]; done) | (simp [Int.tdiv_eq_ediv_of_nonneg]; done) | (simp [Go.RowKit.wrap64]; done) | (simp [*, Go.RowKit.wrap64]; done)), H', ⟨Nat.le_refl _⟩, ⟨by repeat (first | (with_reducible first | exact HB.1 | apply bA | apply pD | apply b1) | exact HB.1)⟩⟩
  case round =>
   clear H'
   try clear p2
   try clear c3
   try clear c4
   obtain ⟨x10_1, rfl, HA, HK1, HB⟩ := hrel
   cases gk with
   | zero => exact absurd HA.out (by simp [clepsydraref18_Good.l0])
   | succ k1 =>
    have H := HA.out
    clear HA
    simp only [clepsydraref18_Good.l0] at H
    by_cases c5 : x10_1 < (l0.length : Int)
    ·rw [if_pos c5] at H
     have c5b0 : decide (x10_1 < (l0.length : Int)) = true := decide_eq_true c5
     clear c5
     by_cases c6 : 0 ≤ x10_1
     ·rw [if_pos c6] at H
      have c6b0 : decide (0 ≤ x10_1) = true := decide_eq_true c6
      clear c6
      by_cases c7 : x10_1 < (l0.length : Int)
      ·rw [if_pos c7] at H
       have c7b0 : decide (x10_1 < (l0.length : Int)) = true := decide_eq_true c7
       clear c7
       by_cases c8 : (Int.tmod (wrap64 (((rd_T42 l0 x10_1).f0) - ((rd_T42 l0 x10_1).f1))) 86400) = 0
       ·rw [if_pos c8] at H
        have c8b0 : ((Int.tmod (wrap64 (((rd_T42 l0 x10_1).f0) - ((rd_T42 l0 x10_1).f1))) 86400) == 0) = true := beq_iff_eq.mpr c8
        have c8b1 : ((Int.tmod (wrap64 (((rd_T42 l0 x10_1).f0) - ((rd_T42 l0 x10_1).f1))) 86400) != 0) = false := bne_eq_false_iff_eq.mpr c8
        clear c8
        have H' := mk H
        clear H
        have p258 : 0 ≤ (x10_1 : Int) := of_decide_eq_true (by first | (with_reducible assumption) | assumption)
        have q258 : x10_1 < (l0.length : Int) := of_decide_eq_true (by first | (with_reducible assumption) | assumption)
        obtain ⟨ad258, e258, hx258_0, hx258_1⟩ := at_T42 HR0.out x10_1 p258 q258
        cases e258
        replace hx258_0 := (HB.1.cell (World.block_lt_of_cell? w _ hx258_0)).trans hx258_0
        replace hx258_1 := (HB.1.cell (World.block_lt_of_cell? w _ hx258_1)).trans hx258_1
        replace p258 := eq_true p258
        replace q258 := eq_true q258
        go_wp2_with (first | ((with_reducible refine gate_dst (N := 4) rfl ?_); refine box_event ?hg (N := 4) ?hd (cs := #[.int .i64 0, .int .i64 0]) (t := 42) ?hr ?_; (case hd => rfl); (case hg => rfl); (case hr => first | (go_simp; done) | (go_simp; rfl)); intro g0_ hg w9 hbox hb; have n0_ := mk (below_step (by repeat first | exact HB.1 | apply pD | apply b1 | refine bT (by assumption) ?_ | apply bA) hb); have n1_ := mk (hbox); have n2_ := gl hg (by repeat first | exact HB.1 | apply pD | apply b1 | refine bT (by assumption) ?_ | apply bA); have n3_ := gl hg (by repeat first | exact HB.1 | apply pD | apply b1 | refine bT (by assumption) ?_ | apply bA); clear HB; have HB := n0_; have B0_ := n1_; have W0_ := n2_; have E0_ := n3_; clear n0_ n1_ n2_ n3_; clear hb hbox hg; have hcz10_0 : w9.cell? ⟨g0_, 0, none⟩ = some (.int .i64 0) := bQ B0_.1 0; have hcz10_1 : w9.cell? ⟨g0_, 1, none⟩ = some (.int .i64 0) := bQ B0_.1 1; have hfz10_0 := blk_frozen B0_.1 0; have hfz10_1 := blk_frozen B0_.1 1))
        go_roundg k1
        case measure => have := HK1.out; omega
        case rel => exact ⟨(wrap64 (x10_1 + 1)), (by first | rfl | (simp; done) | (simp [*]; done) | (simp [Int.tdiv_eq_ediv_of_nonneg]; done) | (simp [Go.RowKit.wrap64]; done) | (simp [*, Go.RowKit.wrap64]; done)), H', ⟨by have := HK1.out; omega⟩, ⟨by repeat (first | (with_reducible first | exact HB.1 | apply bA | apply pD | apply b1 | apply bS E0_.1) | exact HB.1)⟩⟩
       rw [if_neg c8] at H
       have c8b0 : ((Int.tmod (wrap64 (((rd_T42 l0 x10_1).f0) - ((rd_T42 l0 x10_1).f1))) 86400) == 0) = false := beq_eq_false_iff_ne.mpr c8
       have c8b1 : ((Int.tmod (wrap64 (((rd_T42 l0 x10_1).f0) - ((rd_T42 l0 x10_1).f1))) 86400) != 0) = true := bne_iff_ne.mpr c8
       obtain rfl := Option.some.inj H
       have p258 : 0 ≤ (x10_1 : Int) := of_decide_eq_true (by first | (with_reducible assumption) | assumption)
       have q258 : x10_1 < (l0.length : Int) := of_decide_eq_true (by first | (with_reducible assumption) | assumption)
       obtain ⟨ad258, e258, hx258_0, hx258_1⟩ := at_T42 HR0.out x10_1 p258 q258
       cases e258
       replace hx258_0 := (HB.1.cell (World.block_lt_of_cell? w _ hx258_0)).trans hx258_0
       replace hx258_1 := (HB.1.cell (World.block_lt_of_cell? w _ hx258_1)).trans hx258_1
       replace p258 := eq_true p258
       replace q258 := eq_true q258
       go_wp2_with (first | ((with_reducible refine gate_dst (N := 4) rfl ?_); refine box_event ?hg (N := 4) ?hd (cs := #[.int .i64 0, .int .i64 0]) (t := 42) ?hr ?_; (case hd => rfl); (case hg => rfl); (case hr => first | (go_simp; done) | (go_simp; rfl)); intro g0_ hg w11 hbox hb; have n0_ := mk (below_step (by repeat first | exact HB.1 | apply pD | apply b1 | refine bT (by assumption) ?_ | apply bA) hb); have n1_ := mk (hbox); have n2_ := gl hg (by repeat first | exact HB.1 | apply pD | apply b1 | refine bT (by assumption) ?_ | apply bA); have n3_ := gl hg (by repeat first | exact HB.1 | apply pD | apply b1 | refine bT (by assumption) ?_ | apply bA); clear HB; have HB := n0_; have B0_ := n1_; have W0_ := n2_; have E0_ := n3_; clear n0_ n1_ n2_ n3_; clear hb hbox hg; have hcz12_0 : w11.cell? ⟨g0_, 0, none⟩ = some (.int .i64 0) := bQ B0_.1 0; have hcz12_1 : w11.cell? ⟨g0_, 1, none⟩ = some (.int .i64 0) := bQ B0_.1 1; have hfz12_0 := blk_frozen B0_.1 0; have hfz12_1 := blk_frozen B0_.1 1))
       go_ret
       exact ⟨by first | rfl | (simp [errW_none, errW_some] <;> rfl) | (simp [*, errW_none, errW_some] <;> rfl), by repeat (first | (with_reducible first | exact HB.1 | apply bA | apply pD | apply b1 | apply bS E0_.1) | exact HB.1)⟩
      rw [if_neg c7] at H
      exact absurd H (by simp)
     rw [if_neg c6] at H
     exact absurd H (by simp)
    rw [if_neg c5] at H
    have c5b0 : decide (x10_1 < (l0.length : Int)) = false := decide_eq_false c5
    clear c5
    obtain rfl := Option.some.inj H
    go_wp2
    go_ret
    exact ⟨by first | rfl | (simp [errW_none, errW_some] <;> rfl) | (simp [*, errW_none, errW_some] <;> rfl), by repeat (first | (with_reducible first | exact HB.1 | apply bA | apply pD | apply b1) | exact HB.1)⟩
 replace c3 := Bool.eq_false_iff.mpr c3
 subst c3
 have H1 : (some false) = some r := by rw [if_neg (show ¬ (false = true) by decide)] at H; exact H
 clear H
 have H := H1
 clear H1
 obtain rfl := Option.some.inj H
 go_enter Try.func41, Try.ntmps41
 go_wp2_with (first | ((with_reducible refine gate_callee (f := 61) rfl ?_); refine goesL_ (some 6) rfl rfl Try.func61 (by kernel_rfl) rfl #[.slice A0 l0.length c0] rfl (by (try simp only [List.map_toArray, List.map_cons, List.map_nil]); first | done | rfl | (simp only [List.length_drop, List.length_take]; rfl)) ?_; (with_reducible refine (clepsydraref06_Table.calls k _ _ l0 false _ ?side1 ?side2 A2.1).mono ?_); (case side1 => repeat (first | exact HR0.out | (with_reducible refine Kd.C_alloc ?_ _) | (with_reducible refine Kd.C_drewN ?_ _) | (with_reducible refine Kd.C_drew ?_))); (case side2 => exact HC0.out); rintro e w13 ⟨rfl, hb⟩; refine ⟨_, rfl, ?_⟩; have n0_ := mk (below_step (by repeat first | exact HB.1 | apply pD | apply b1 | refine bT (by assumption) ?_ | apply bA) hb); clear HB; have HB := n0_; clear n0_; (try clear hb); (try clear hb2); (try clear hk); (try clear hi)))
 go_ret
 exact ⟨by first | rfl | (simp [errW_none, errW_some] <;> rfl) | (simp [*, errW_none, errW_some] <;> rfl), by repeat (first | (with_reducible first | exact HB.1 | apply bA | apply pD | apply b1) | exact HB.1)⟩

end Go.Proofs.Ytigkjbaclpklpaa.Q
