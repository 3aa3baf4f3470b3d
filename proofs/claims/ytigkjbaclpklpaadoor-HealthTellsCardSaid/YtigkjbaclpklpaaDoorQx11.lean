/- The calls of these Go functions answer what the Lean functions beside them answer; written by a program (wip/pr2.py, out of the print of the loaded program); under no condition but those that stand in the theorems. -/
import Derived.Test.YtigkjbaclpklpaaDoorQx0
import Derived.Test.YtigkjbaclpklpaaDoorQx10
namespace Go.Proofs.YtigkjbaclpklpaaDoor.Q
open Go.RowKit Go.Proofs.YtigkjbaclpklpaaDoorW.PrintWords Go.Proofs.YtigkjbaclpklpaaDoorW.PrintLast Go.Proofs.YtigkjbaclpklpaaDoorW.PrintMore
attribute [local go_sem] max2_int min2_int max_two min_two max_three min_three max_four min_four   -- for this text's walks alone
set_option linter.unusedVariables false
set_option linter.unusedSimpArgs false

/-! ### wire_Table: function 61 -/
def wire_Table.l0 : Nat → List (S82) → Int → List (S82) → Int → Int → Option (Bool)
 | 0, _, _, _, _, _ => none
 | k + 1, x0, x3, x6, x7, x8 => if x8 < x7 then (if 0 ≤ x8 then (if x8 < (x6.length : Int) then (if x8 ≥ 32 then (some false) else ((wire_in.f k 0 1099511627776 (([(rd_T82 x6 x8).f0] : List Int))).bind fun t194 => (if t194 = true then ((wire_in.f k (-32) 32 (([(rd_T82 x6 x8).f1] : List Int))).bind fun t198 => (if t198 = true then (if x8 > 0 then (if 0 ≤ (wrap64 (x8 - 1)) then (if (wrap64 (x8 - 1)) < (x0.length : Int) then (if (wrap64 (((rd_T82 x6 x8).f0) - ((rd_T82 x0 (wrap64 (x8 - 1))).f0))) < 86400 then (some false) else (if (wrap64 (((rd_T82 x6 x8).f1) - x3)) = 1 then (wire_Table.l0 k x0 ((rd_T82 x6 x8).f1) x6 x7 (wrap64 (x8 + 1))) else (if (wrap64 (((rd_T82 x6 x8).f1) - x3)) = (-1) then (wire_Table.l0 k x0 ((rd_T82 x6 x8).f1) x6 x7 (wrap64 (x8 + 1))) else (some false)))) else (none)) else (none)) else (if (wrap64 (((rd_T82 x6 x8).f1) - x3)) = 1 then (wire_Table.l0 k x0 ((rd_T82 x6 x8).f1) x6 x7 (wrap64 (x8 + 1))) else (if (wrap64 (((rd_T82 x6 x8).f1) - x3)) = (-1) then (wire_Table.l0 k x0 ((rd_T82 x6 x8).f1) x6 x7 (wrap64 (x8 + 1))) else (some false)))) else (some false))) else (some false)))) else (none)) else (none)) else (some true)
def wire_Table.f (k : Nat) (l0 : List (S82)) : Option (Bool) := wire_Table.l0 k l0 0 l0 (l0.length : Int) 0
theorem wire_Table.mono_l : ∀ k, (∀ y0 y1 y2 y3 y4, LeO (wire_Table.l0 k y0 y1 y2 y3 y4) (wire_Table.l0 (k + 1) y0 y1 y2 y3 y4))
 | 0 => fun _ _ _ _ _ r h => by simp [wire_Table.l0] at h
 | k + 1 => by
  have ih0 := wire_Table.mono_l k
  intro y0 y1 y2 y3 y4
  unfold wire_Table.l0
  repeat' first
  | (with_reducible exact ih0 _ _ _ _ _)
  | (with_reducible exact wire_in.mono _ _ _ _)
  | (with_reducible exact LeO.refl _)
  | (with_reducible exact LeO.none _)
  | (with_reducible refine LeO.ite ?_ ?_)
  | (with_reducible refine LeO.bind ?_ (fun _ => ?_))
  | exact ih0 _ _ _ _ _
  | exact wire_in.mono _ _ _ _
  | exact LeO.none _
  | refine LeO.ite ?_ ?_
  | refine LeO.bind ?_ (fun _ => ?_)
theorem wire_Table.mono : ∀ a0 k, LeO (wire_Table.f k a0) (wire_Table.f (k + 1) a0) := by
 intro a0 k
 have ih0 := wire_Table.mono_l k
 unfold wire_Table.f
 repeat' first
   | (with_reducible exact ih0 _ _ _ _ _)
   | (with_reducible exact wire_in.mono _ _ _ _)
   | (with_reducible exact LeO.refl _)
   | (with_reducible exact LeO.none _)
   | (with_reducible refine LeO.ite ?_ ?_)
   | (with_reducible refine LeO.bind ?_ (fun _ => ?_))
   | exact ih0 _ _ _ _ _
   | exact wire_in.mono _ _ _ _
   | exact LeO.none _
   | refine LeO.ite ?_ ?_
   | refine LeO.bind ?_ (fun _ => ?_)
def wire_Table.T5 : Bool × List (List Nat × List Nat) := (true, [([], []), ([0], [0]), ([1], [1]), ([2], [2]), ([3, 2], [2, 3]), ([4, 2], [2, 4]), ([5, 2, 2], [2, 5]), ([6, 2], [2, 6]), ([2, 7], [2, 7]), ([8, 6], [8]), ([9], [9]), ([10, 9], [9, 10]), ([11, 9], [9, 11]), ([12, 9, 9], [9, 12]), ([13, 9], [9, 13]), ([9, 14], [9, 14]), ([15, 13], [15]), ([16], [16]), ([17, 16], [16, 17]), ([18, 16, 16], [16, 18]), ([19], [19]), ([20, 19], [19, 20]), ([19], [19]), ([19], [19]), ([23, 19], [19, 23]), ([22, 24, 19], [19, 22, 24]), ([25, 19], [19, 25]), ([26, 19], [19, 26]), ([21, 27, 19], [19, 21, 27]), ([28, 19], [19, 28]), ([19, 29, 16], [16, 19, 29]), ([16, 30], [16, 30]), ([31, 19], [31]), ([32], [32]), ([33, 32], [32, 33]), ([32], [32]), ([34, 35, 32], [32, 34, 35]), ([36, 32], [32, 36]), ([37, 32, 32], [32, 37]), ([38], [38]), ([39, 38], [38, 39]), ([38], [38]), ([40, 41, 38], [38, 40, 41]), ([42, 38], [38, 42]), ([38, 43, 32], [32, 38, 43]), ([32, 44], [32, 44])])
def wire_Table.B5 : List Nat := [0, 1, 3, 7, 15, 31, 63, 127, 255, 511, 1023, 2047, 4095, 8191, 16383, 32767, 65535, 131071, 262143, 524287, 1048575, 2097151, 1048575, 1048575, 9437183, 30408703, 63963135, 131071999, 268435455, 536870911, 1073741823, 2147483647, 4294967295, 8589934591, 17179869183, 8589934591, 68719476735, 137438953471, 274877906943, 549755813887, 1099511627775, 549755813887, 4398046511103, 8796093022207, 17592186044415, 35184372088831]
theorem wire_Table.tab5 : rtab .any (opsOf Tryd.f61 5) = wire_Table.T5 := by kernel_rfl
theorem wire_Table.bits5 : waitsOk wire_Table.T5.2 wire_Table.B5 = true := by kernel_rfl
set_option maxHeartbeats 8000000 in
set_option maxRecDepth 100000 in
theorem wire_Table.calls (k : Nat) (A0 : Option Addr) (c0 : Nat) (l0 : List (S82)) (r : Bool) (w : World) (hr0 : Kd.C k82 w A0 l0.length l0) (hc0 : l0.length ≤ c0) (h : wire_Table.f k l0 = some r) :
  Calls Tryd.prog 61 #[.slice A0 l0.length c0] w fun e w' => e = .returned (.bool r) ∧ Below w.heap.size w w' := by
 have hu82 := Tryd.underlying82
 have HR0 := mk hr0
 have HC0 := mk hc0
 clear hr0 hc0
 have HB := mk (Below.refl w.heap.size w)
 have H : (wire_Table.l0 k l0 0 l0 (l0.length : Int) 0) = some r := h
 clear h
 have H' := mk H
 clear H
 go_enter Tryd.func61, Tryd.ntmps61
 go_wp2
 go_loopg [3, 8] k (fun kq v3 v8 w' => ∃ (x3_1 : Int) (x8_1 : Int), v3 = .int .i64 x3_1 ∧ v8 = .int .i64 x8_1 ∧ Aside0 (wire_Table.l0 kq l0 x3_1 l0 (l0.length : Int) x8_1 = some r) ∧ Aside0 (kq ≤ k) ∧ Aside0 (Below w.heap.size w w'))
 case atStart => exact ⟨(0), (0), zs, zs, H', ⟨Nat.le_refl _⟩, ⟨by repeat (first | (with_reducible first | exact HB.1 | apply bA | apply pD | apply b1) | exact HB.1)⟩⟩
 case round =>
  clear H'
  obtain ⟨x3_1, x8_1, rfl, rfl, HA, HK1, HB⟩ := hrel
  cases gk with
  | zero => exact absurd HA.1 (by simp [wire_Table.l0])
  | succ k1 =>
   have H := HA.1
   clear HA
   simp only [wire_Table.l0] at H
   by_cases c2 : x8_1 < (l0.length : Int)
   ·rw [if_pos c2] at H
    have c2b0 : decide (x8_1 < (l0.length : Int)) = true := decide_eq_true c2
    clear c2
    by_cases c3 : 0 ≤ x8_1
    ·rw [if_pos c3] at H
     have c3b0 : decide (0 ≤ x8_1) = true := decide_eq_true c3
     clear c3
     by_cases c4 : x8_1 < (l0.length : Int)
     ·rw [if_pos c4] at H
      have c4b0 : decide (x8_1 < (l0.length : Int)) = true := decide_eq_true c4
      clear c4
      by_cases c5 : x8_1 ≥ 32
      ·rw [if_pos c5] at H
       have c5b0 : decide (32 ≤ x8_1) = true := decide_eq_true c5
       clear c5
       obtain rfl := Option.some.inj H
       have p189 : 0 ≤ (x8_1 : Int) := of_decide_eq_true (by first | (with_reducible assumption) | assumption)
       have q189 : x8_1 < (l0.length : Int) := of_decide_eq_true (by first | (with_reducible assumption) | assumption)
       obtain ⟨ad189, e189, hx189_0, hx189_1⟩ := at_T82 HR0.1 x8_1 p189 q189
       cases e189
       replace hx189_0 := (HB.1.cell (World.block_lt_of_cell? w _ hx189_0)).trans hx189_0
       replace hx189_1 := (HB.1.cell (World.block_lt_of_cell? w _ hx189_1)).trans hx189_1
       replace p189 := eq_true p189
       replace q189 := eq_true q189
       try go_wp2_with (first | ((with_reducible refine gate_dst (N := 5) rfl ?_); (try (refine gate_guard (by rfl) ?_; dsimp only)); refine bx 5 #[.int .i64 0, .int .i64 0] 82 ?_; intro g0_ hg w6 hbox hb; have B0_ := mk (hbox); have W0_ := gl hg zq; have E0_ := gl hg zq; replace HB := mk (below_step zq hb); clear hb hbox hg; obtain ⟨hcz7_0, hcz7_1⟩ := cc2 B0_.1; obtain ⟨hfz7_0, hfz7_1⟩ := cf2 B0_.1))
       have n0_ : Aside0 (((w6.setCell ⟨g0_, 0, none⟩ (.int .i64 ((rd_T82 l0 x8_1).f0))).setCell ⟨g0_, 1, none⟩ (.int .i64 ((rd_T82 l0 x8_1).f1))).heap[g0_]? = some (.cells #[.int .i64 ((rd_T82 l0 x8_1).f0), .int .i64 ((rd_T82 l0 x8_1).f1)] 82 (0, 0))) := ⟨by (with_reducible repeat (first | refine blk_drewN ?_ _ | refine blk_drew ?_ | refine blk_alloc ?_ _)); refine blk_put (cs := #[.int .i64 ((rd_T82 l0 x8_1).f0), .int .i64 0]) ?_ 1 _ rfl; (with_reducible repeat (first | refine blk_drewN ?_ _ | refine blk_drew ?_ | refine blk_alloc ?_ _)); refine blk_put (cs := #[.int .i64 0, .int .i64 0]) ?_ 0 _ rfl; (with_reducible repeat (first | refine blk_drewN ?_ _ | refine blk_drew ?_ | refine blk_alloc ?_ _)); exact B0_.1⟩
       have n1_ : Aside0 (Below w.heap.size w ((w6.setCell ⟨g0_, 0, none⟩ (.int .i64 ((rd_T82 l0 x8_1).f0))).setCell ⟨g0_, 1, none⟩ (.int .i64 ((rd_T82 l0 x8_1).f1)))) := ⟨by repeat (first | (with_reducible first | exact HB.1 | apply bA | apply pD | apply b1 | apply bS E0_.1) | exact HB.1)⟩
       (try clear B0_)
       (try clear HB)
       (try (repeat rw [sc_drewN]))
       generalize ((w6.setCell ⟨g0_, 0, none⟩ (.int .i64 ((rd_T82 l0 x8_1).f0))).setCell ⟨g0_, 1, none⟩ (.int .i64 ((rd_T82 l0 x8_1).f1))) = w8 at n0_ n1_ ⊢
       have B0_ := n0_
       have HB := n1_
       clear n0_ n1_
       replace B0_ := mk (blk_drew B0_.1)
       replace HB := mk (below_drew1 HB.1)
       refine start_ (n := 46) (S := fun w' => True) (ds := []) (bs 46 0) (by kernel_rfl) rfl rfl trivial (fun hHeld => ?_); refine with_tabW wire_Table.tab5 wire_Table.bits5 (fun HT_ HW_ => ?_)
       generalize w8.drew = w9 at B0_ HB hHeld ⊢
       refine pt HT_ 0 13 1 ?_
       refine pt HT_ 1 14 3 ?_
       refine pt HT_ 2 15 7 ?_
       refine pm HT_ 3 16 15 ?_
       refine pm HT_ 4 17 31 ?_
       refine pm HT_ 5 18 63 ?_
       refine pm HT_ 6 19 127 ?_
       refine pm HT_ 7 20 255 ?_
       refine pt HT_ 8 21 511 ?_
       refine pt HT_ 9 22 1023 ?_
       refine pm HT_ 10 23 2047 ?_
       refine pm HT_ 11 24 4095 ?_
       refine pm HT_ 12 25 8191 ?_
       refine pm HT_ 13 26 16383 ?_
       refine pm HT_ 14 27 32767 ?_
       refine pt HT_ 15 28 65535 ?_
       refine pt HT_ 16 29 131071 ?_
       refine pm HT_ 17 30 262143 ?_
       refine pm HT_ 18 31 524287 ?_
       refine pm HT_ 19 32 1048575 ?_
       refine pm HT_ 20 33 2097151 ?_
       refine pm HT_ 21 34 4194303 ?_
       refine pm HT_ 22 35 8388607 ?_
       refine pm HT_ 23 36 16777215 ?_
       refine pm HT_ 24 37 33554431 ?_
       refine pm HT_ 25 38 67108863 ?_
       refine pm HT_ 26 39 134217727 ?_
       refine pm HT_ 27 40 268435455 ?_
       refine pm HT_ 28 41 536870911 ?_
       refine pm HT_ 29 42 1073741823 ?_
       refine pm HT_ 30 43 2147483647 ?_
       refine pt HT_ 31 44 4294967295 ?_
       refine pt HT_ 32 45 8589934591 ?_
       refine pm HT_ 33 46 17179869183 ?_
       refine pm HT_ 34 47 34359738367 ?_
       refine pm HT_ 35 48 68719476735 ?_
       refine pm HT_ 36 49 137438953471 ?_
       refine pm HT_ 37 50 274877906943 ?_
       refine pm HT_ 38 51 549755813887 ?_
       refine pm HT_ 39 52 1099511627775 ?_
       refine pm HT_ 40 53 2199023255551 ?_
       refine pm HT_ 41 54 4398046511103 ?_
       refine pm HT_ 42 55 8796093022207 ?_
       refine pm HT_ 43 56 17592186044415 ?_
       refine pm HT_ 44 57 35184372088831 ?_
       refine pt HT_ 45 58 70368744177663 ?_
       refine done_ (done_of HT_.1 (by kernel_rfl)) ?_
       try go_wp2
       go_ret
       exact ⟨by first | rfl | (simp [errW_none, errW_some] <;> rfl) | (simp [*, errW_none, errW_some] <;> rfl), by repeat (first | (with_reducible first | exact HB.1 | apply bA | apply pD | apply b1 | apply bS E0_.1) | exact HB.1)⟩
      rw [if_neg c5] at H
      have c5b0 : decide (32 ≤ x8_1) = false := decide_eq_false c5
      clear c5
      obtain ⟨y191, hy191⟩ : ∃ y_ : List Int, y_ = (([(rd_T82 l0 x8_1).f0] : List Int)) := ⟨_, rfl⟩
      replace H : ((wire_in.f k1 0 1099511627776 y191).bind fun t194 => (if t194 = true then ((wire_in.f k1 (-32) 32 (([(rd_T82 l0 x8_1).f1] : List Int))).bind fun t198 => (if t198 = true then (if x8_1 > 0 then (if 0 ≤ (wrap64 (x8_1 - 1)) then (if (wrap64 (x8_1 - 1)) < (l0.length : Int) then (if (wrap64 (((rd_T82 l0 x8_1).f0) - ((rd_T82 l0 (wrap64 (x8_1 - 1))).f0))) < 86400 then (some false) else (if (wrap64 (((rd_T82 l0 x8_1).f1) - x3_1)) = 1 then (wire_Table.l0 k1 l0 ((rd_T82 l0 x8_1).f1) l0 (l0.length : Int) (wrap64 (x8_1 + 1))) else (if (wrap64 (((rd_T82 l0 x8_1).f1) - x3_1)) = (-1) then (wire_Table.l0 k1 l0 ((rd_T82 l0 x8_1).f1) l0 (l0.length : Int) (wrap64 (x8_1 + 1))) else (some false)))) else (none)) else (none)) else (if (wrap64 (((rd_T82 l0 x8_1).f1) - x3_1)) = 1 then (wire_Table.l0 k1 l0 ((rd_T82 l0 x8_1).f1) l0 (l0.length : Int) (wrap64 (x8_1 + 1))) else (if (wrap64 (((rd_T82 l0 x8_1).f1) - x3_1)) = (-1) then (wire_Table.l0 k1 l0 ((rd_T82 l0 x8_1).f1) l0 (l0.length : Int) (wrap64 (x8_1 + 1))) else (some false)))) else (some false))) else (some false))) = some r := by first | (rw [hy191]; with_reducible exact H) | (have H2_ := (Option.bind_some _ _).symm.trans H; rw [hy191]; with_reducible exact H2_) | (have H2_ := (Option.bind_some _ _).symm.trans H; with_reducible exact H2_) | with_reducible exact H | (rw [hy191]; exact H) | exact H
      have Ny191 := mk hy191
      clear hy191
      replace H := Option.bind_eq_some_iff.mp H
      obtain ⟨t194, A100, H⟩ := H
      replace H : (if t194 = true then ((wire_in.f k1 (-32) 32 (([(rd_T82 l0 x8_1).f1] : List Int))).bind fun t198 => (if t198 = true then (if x8_1 > 0 then (if 0 ≤ (wrap64 (x8_1 - 1)) then (if (wrap64 (x8_1 - 1)) < (l0.length : Int) then (if (wrap64 (((rd_T82 l0 x8_1).f0) - ((rd_T82 l0 (wrap64 (x8_1 - 1))).f0))) < 86400 then (some false) else (if (wrap64 (((rd_T82 l0 x8_1).f1) - x3_1)) = 1 then (wire_Table.l0 k1 l0 ((rd_T82 l0 x8_1).f1) l0 (l0.length : Int) (wrap64 (x8_1 + 1))) else (if (wrap64 (((rd_T82 l0 x8_1).f1) - x3_1)) = (-1) then (wire_Table.l0 k1 l0 ((rd_T82 l0 x8_1).f1) l0 (l0.length : Int) (wrap64 (x8_1 + 1))) else (some false)))) else (none)) else (none)) else (if (wrap64 (((rd_T82 l0 x8_1).f1) - x3_1)) = 1 then (wire_Table.l0 k1 l0 ((rd_T82 l0 x8_1).f1) l0 (l0.length : Int) (wrap64 (x8_1 + 1))) else (if (wrap64 (((rd_T82 l0 x8_1).f1) - x3_1)) = (-1) then (wire_Table.l0 k1 l0 ((rd_T82 l0 x8_1).f1) l0 (l0.length : Int) (wrap64 (x8_1 + 1))) else (some false)))) else (some false))) else (some false)) = some r := H
      have A10 := mk A100
      clear A100
      by_cases c11 : t194 = true
      ·subst c11
       have H1 : ((wire_in.f k1 (-32) 32 (([(rd_T82 l0 x8_1).f1] : List Int))).bind fun t198 => (if t198 = true then (if x8_1 > 0 then (if 0 ≤ (wrap64 (x8_1 - 1)) then (if (wrap64 (x8_1 - 1)) < (l0.length : Int) then (if (wrap64 (((rd_T82 l0 x8_1).f0) - ((rd_T82 l0 (wrap64 (x8_1 - 1))).f0))) < 86400 then (some false) else (if (wrap64 (((rd_T82 l0 x8_1).f1) - x3_1)) = 1 then (wire_Table.l0 k1 l0 ((rd_T82 l0 x8_1).f1) l0 (l0.length : Int) (wrap64 (x8_1 + 1))) else (if (wrap64 (((rd_T82 l0 x8_1).f1) - x3_1)) = (-1) then (wire_Table.l0 k1 l0 ((rd_T82 l0 x8_1).f1) l0 (l0.length : Int) (wrap64 (x8_1 + 1))) else (some false)))) else (none)) else (none)) else (if (wrap64 (((rd_T82 l0 x8_1).f1) - x3_1)) = 1 then (wire_Table.l0 k1 l0 ((rd_T82 l0 x8_1).f1) l0 (l0.length : Int) (wrap64 (x8_1 + 1))) else (if (wrap64 (((rd_T82 l0 x8_1).f1) - x3_1)) = (-1) then (wire_Table.l0 k1 l0 ((rd_T82 l0 x8_1).f1) l0 (l0.length : Int) (wrap64 (x8_1 + 1))) else (some false)))) else (some false))) = some r := by rw [if_pos rfl] at H; exact H
       clear H
       have H := H1
       clear H1
       obtain ⟨y195, hy195⟩ : ∃ y_ : List Int, y_ = (([(rd_T82 l0 x8_1).f1] : List Int)) := ⟨_, rfl⟩
       replace H : ((wire_in.f k1 (-32) 32 y195).bind fun t198 => (if t198 = true then (if x8_1 > 0 then (if 0 ≤ (wrap64 (x8_1 - 1)) then (if (wrap64 (x8_1 - 1)) < (l0.length : Int) then (if (wrap64 (((rd_T82 l0 x8_1).f0) - ((rd_T82 l0 (wrap64 (x8_1 - 1))).f0))) < 86400 then (some false) else (if (wrap64 (((rd_T82 l0 x8_1).f1) - x3_1)) = 1 then (wire_Table.l0 k1 l0 ((rd_T82 l0 x8_1).f1) l0 (l0.length : Int) (wrap64 (x8_1 + 1))) else (if (wrap64 (((rd_T82 l0 x8_1).f1) - x3_1)) = (-1) then (wire_Table.l0 k1 l0 ((rd_T82 l0 x8_1).f1) l0 (l0.length : Int) (wrap64 (x8_1 + 1))) else (some false)))) else (none)) else (none)) else (if (wrap64 (((rd_T82 l0 x8_1).f1) - x3_1)) = 1 then (wire_Table.l0 k1 l0 ((rd_T82 l0 x8_1).f1) l0 (l0.length : Int) (wrap64 (x8_1 + 1))) else (if (wrap64 (((rd_T82 l0 x8_1).f1) - x3_1)) = (-1) then (wire_Table.l0 k1 l0 ((rd_T82 l0 x8_1).f1) l0 (l0.length : Int) (wrap64 (x8_1 + 1))) else (some false)))) else (some false))) = some r := by first | (rw [hy195]; with_reducible exact H) | (have H2_ := (Option.bind_some _ _).symm.trans H; rw [hy195]; with_reducible exact H2_) | (have H2_ := (Option.bind_some _ _).symm.trans H; with_reducible exact H2_) | with_reducible exact H | (rw [hy195]; exact H) | exact H
       have Ny195 := mk hy195
       clear hy195
       replace H := Option.bind_eq_some_iff.mp H
       obtain ⟨t198, A120, H⟩ := H
       replace H : (if t198 = true then (if x8_1 > 0 then (if 0 ≤ (wrap64 (x8_1 - 1)) then (if (wrap64 (x8_1 - 1)) < (l0.length : Int) then (if (wrap64 (((rd_T82 l0 x8_1).f0) - ((rd_T82 l0 (wrap64 (x8_1 - 1))).f0))) < 86400 then (some false) else (if (wrap64 (((rd_T82 l0 x8_1).f1) - x3_1)) = 1 then (wire_Table.l0 k1 l0 ((rd_T82 l0 x8_1).f1) l0 (l0.length : Int) (wrap64 (x8_1 + 1))) else (if (wrap64 (((rd_T82 l0 x8_1).f1) - x3_1)) = (-1) then (wire_Table.l0 k1 l0 ((rd_T82 l0 x8_1).f1) l0 (l0.length : Int) (wrap64 (x8_1 + 1))) else (some false)))) else (none)) else (none)) else (if (wrap64 (((rd_T82 l0 x8_1).f1) - x3_1)) = 1 then (wire_Table.l0 k1 l0 ((rd_T82 l0 x8_1).f1) l0 (l0.length : Int) (wrap64 (x8_1 + 1))) else (if (wrap64 (((rd_T82 l0 x8_1).f1) - x3_1)) = (-1) then (wire_Table.l0 k1 l0 ((rd_T82 l0 x8_1).f1) l0 (l0.length : Int) (wrap64 (x8_1 + 1))) else (some false)))) else (some false)) = some r := H
       have A12 := mk A120
       clear A120
       by_cases c13 : t198 = true
       ·subst c13
        have H1 : (if x8_1 > 0 then (if 0 ≤ (wrap64 (x8_1 - 1)) then (if (wrap64 (x8_1 - 1)) < (l0.length : Int) then (if (wrap64 (((rd_T82 l0 x8_1).f0) - ((rd_T82 l0 (wrap64 (x8_1 - 1))).f0))) < 86400 then (some false) else (if (wrap64 (((rd_T82 l0 x8_1).f1) - x3_1)) = 1 then (wire_Table.l0 k1 l0 ((rd_T82 l0 x8_1).f1) l0 (l0.length : Int) (wrap64 (x8_1 + 1))) else (if (wrap64 (((rd_T82 l0 x8_1).f1) - x3_1)) = (-1) then (wire_Table.l0 k1 l0 ((rd_T82 l0 x8_1).f1) l0 (l0.length : Int) (wrap64 (x8_1 + 1))) else (some false)))) else (none)) else (none)) else (if (wrap64 (((rd_T82 l0 x8_1).f1) - x3_1)) = 1 then (wire_Table.l0 k1 l0 ((rd_T82 l0 x8_1).f1) l0 (l0.length : Int) (wrap64 (x8_1 + 1))) else (if (wrap64 (((rd_T82 l0 x8_1).f1) - x3_1)) = (-1) then (wire_Table.l0 k1 l0 ((rd_T82 l0 x8_1).f1) l0 (l0.length : Int) (wrap64 (x8_1 + 1))) else (some false)))) = some r := by rw [if_pos rfl] at H; exact H
        clear H
        have H := H1
        clear H1
        by_cases c14 : x8_1 > 0
        ·rw [if_pos c14] at H
         have c14b0 : decide (0 < x8_1) = true := decide_eq_true c14
         clear c14
         obtain ⟨ji15, hji15⟩ : ∃ j_ : Int, (wrap64 (x8_1 - 1)) = j_ := ⟨_, rfl⟩
         replace H : (if 0 ≤ (ji15) then (if (ji15) < (l0.length : Int) then (if (wrap64 (((rd_T82 l0 x8_1).f0) - ((rd_T82 l0 (ji15)).f0))) < 86400 then (some false) else (if (wrap64 (((rd_T82 l0 x8_1).f1) - x3_1)) = 1 then (wire_Table.l0 k1 l0 ((rd_T82 l0 x8_1).f1) l0 (l0.length : Int) (wrap64 (x8_1 + 1))) else (if (wrap64 (((rd_T82 l0 x8_1).f1) - x3_1)) = (-1) then (wire_Table.l0 k1 l0 ((rd_T82 l0 x8_1).f1) l0 (l0.length : Int) (wrap64 (x8_1 + 1))) else (some false)))) else (none)) else (none)) = some r := by first | (rw [hji15] at H; exact H) | (simp only [hji15] at H ⊢; exact H)
         (try rw [hji15] at A10)
         (try rw [hji15] at A12)
         have hji15w : (IntKind.i64.wrap (x8_1 - 1)) = ji15 := (i64_w _).trans hji15
         by_cases c16 : 0 ≤ (ji15)
         ·rw [if_pos c16] at H
          have c16b0 : decide (0 ≤ (ji15)) = true := decide_eq_true c16
          clear c16
          by_cases c17 : (ji15) < (l0.length : Int)
          ·rw [if_pos c17] at H
           have c17b0 : decide ((ji15) < (l0.length : Int)) = true := decide_eq_true c17
           clear c17
           by_cases c18 : (wrap64 (((rd_T82 l0 x8_1).f0) - ((rd_T82 l0 (ji15)).f0))) < 86400
           ·rw [if_pos c18] at H
            have c18b0 : decide ((wrap64 (((rd_T82 l0 x8_1).f0) - ((rd_T82 l0 (ji15)).f0))) < 86400) = true := decide_eq_true c18
            clear c18
            obtain rfl := Option.some.inj H
            have p189 : 0 ≤ (x8_1 : Int) := of_decide_eq_true (by first | (with_reducible assumption) | assumption)
            have q189 : x8_1 < (l0.length : Int) := of_decide_eq_true (by first | (with_reducible assumption) | assumption)
            obtain ⟨ad189, e189, hx189_0, hx189_1⟩ := at_T82 HR0.1 x8_1 p189 q189
            cases e189
            replace hx189_0 := (HB.1.cell (World.block_lt_of_cell? w _ hx189_0)).trans hx189_0
            replace hx189_1 := (HB.1.cell (World.block_lt_of_cell? w _ hx189_1)).trans hx189_1
            replace p189 := eq_true p189
            replace q189 := eq_true q189
            try go_wp2_with (first | ((with_reducible refine gate_dst (N := 5) rfl ?_); (try (refine gate_guard (by rfl) ?_; dsimp only)); refine bx 5 #[.int .i64 0, .int .i64 0] 82 ?_; intro g0_ hg w19 hbox hb; have B0_ := mk (hbox); have W0_ := gl hg zq; have E0_ := gl hg zq; replace HB := mk (below_step zq hb); clear hb hbox hg; obtain ⟨hcz20_0, hcz20_1⟩ := cc2 B0_.1; obtain ⟨hfz20_0, hfz20_1⟩ := cf2 B0_.1))
            have n0_ : Aside0 (((w19.setCell ⟨g0_, 0, none⟩ (.int .i64 ((rd_T82 l0 x8_1).f0))).setCell ⟨g0_, 1, none⟩ (.int .i64 ((rd_T82 l0 x8_1).f1))).heap[g0_]? = some (.cells #[.int .i64 ((rd_T82 l0 x8_1).f0), .int .i64 ((rd_T82 l0 x8_1).f1)] 82 (0, 0))) := ⟨by (with_reducible repeat (first | refine blk_drewN ?_ _ | refine blk_drew ?_ | refine blk_alloc ?_ _)); refine blk_put (cs := #[.int .i64 ((rd_T82 l0 x8_1).f0), .int .i64 0]) ?_ 1 _ rfl; (with_reducible repeat (first | refine blk_drewN ?_ _ | refine blk_drew ?_ | refine blk_alloc ?_ _)); refine blk_put (cs := #[.int .i64 0, .int .i64 0]) ?_ 0 _ rfl; (with_reducible repeat (first | refine blk_drewN ?_ _ | refine blk_drew ?_ | refine blk_alloc ?_ _)); exact B0_.1⟩
            have n1_ : Aside0 (Below w.heap.size w ((w19.setCell ⟨g0_, 0, none⟩ (.int .i64 ((rd_T82 l0 x8_1).f0))).setCell ⟨g0_, 1, none⟩ (.int .i64 ((rd_T82 l0 x8_1).f1)))) := ⟨by repeat (first | (with_reducible first | exact HB.1 | apply bA | apply pD | apply b1 | apply bS E0_.1) | exact HB.1)⟩
            (try clear B0_)
            (try clear HB)
            (try (repeat rw [sc_drewN]))
            generalize ((w19.setCell ⟨g0_, 0, none⟩ (.int .i64 ((rd_T82 l0 x8_1).f0))).setCell ⟨g0_, 1, none⟩ (.int .i64 ((rd_T82 l0 x8_1).f1))) = w21 at n0_ n1_ ⊢
            have B0_ := n0_
            have HB := n1_
            clear n0_ n1_
            replace B0_ := mk (blk_drew B0_.1)
            replace HB := mk (below_drew1 HB.1)
            have p199 : 0 ≤ ((ji15) : Int) := of_decide_eq_true (by first | (with_reducible assumption) | assumption)
            have q199 : (ji15) < (l0.length : Int) := of_decide_eq_true (by first | (with_reducible assumption) | assumption)
            obtain ⟨ad199, e199, hx199_0, hx199_1⟩ := at_T82 HR0.1 (ji15) p199 q199
            have hw199_1 := hx199_1
            have hw199_0 := hx199_0
            obtain rfl : ad189 = ad199 := (by injection e199)
            replace hx199_0 := (HB.1.cell (World.block_lt_of_cell? w _ hx199_0)).trans hx199_0
            replace hx199_1 := (HB.1.cell (World.block_lt_of_cell? w _ hx199_1)).trans hx199_1
            replace p199 := eq_true p199
            replace q199 := eq_true q199
            refine start_ (n := 46) (S := fun w' => w'.cell? ⟨g0_, 0, none⟩ = some (.int .i64 ((rd_T82 l0 x8_1).f0)) ∧ w'.cell? ⟨g0_, 1, none⟩ = some (.int .i64 ((rd_T82 l0 x8_1).f1)) ∧ w'.cell? (ad189.add (((ji15)).toNat * 2)) = some (.int .i64 ((rd_T82 l0 (ji15)).f0)) ∧ w'.cell? ⟨(ad189.add (((ji15)).toNat * 2)).block, (ad189.add (((ji15)).toNat * 2)).off + 1, none⟩ = some (.int .i64 ((rd_T82 l0 (ji15)).f1))) (ds := []) (bs 46 0) (by kernel_rfl) rfl rfl ⟨bQ B0_.1 0, bQ B0_.1 1, ((HB.1.cell (World.block_lt_of_cell? w _ hw199_0)).trans hw199_0), ((HB.1.cell (World.block_lt_of_cell? w _ hw199_1)).trans hw199_1)⟩ (fun hHeld => ?_); refine with_tabW wire_Table.tab5 wire_Table.bits5 (fun HT_ HW_ => ?_)
            generalize w21.drew = w22 at B0_ HB hx199_0 hx199_1 hHeld ⊢
            refine pt HT_ 0 13 1 ?_
            refine pt HT_ 1 14 3 ?_
            refine pt HT_ 2 15 7 ?_
            refine pt HT_ 3 16 15 ?_
            refine tb HT_ HW_ 4 17 31 hHeld ?_
            refine one_ (i := 5) (N := some 18) (bs 46 63) rfl rfl (one_of HT_.1 (by kernel_rfl)) (by decide) (fun K hK => ?_)
            refine Kd.R_lit_step (Kd.int .i64) _ 3 ?hg (N := 18) ?hd (xs := ([(rd_T82 l0 x8_1).f0] : List Int)) (inner := [.int .i64 ((rd_T82 l0 x8_1).f0)]) (ok := fun _ => True) (okp := fun _ => True) ?hr ?hp (fun _ hk => hk) trivial (Below.refl _ _) (Nat.le_refl _) (by simp) ?_; (case hd => rfl); (case hg => rfl); (case hr => first | (go_simp; done) | (go_simp; rfl)); (case hp => exact (Reps.one (show Kd.M (Kd.int .i64) _ _ _ ((rd_T82 l0 x8_1).f0) [.int .i64 ((rd_T82 l0 x8_1).f0)] from rfl) (Reps.none _ _)))
            intro v192 w23 ho24 hb hg_ hnew_
            clear hg_ hnew_
            (first | rw [← Ny191.1] at ho24 | (simp only [Int.reduceToNat] at ho24; rw [← Ny191.1] at ho24))
            have HO193 := mk (Kd.R_lower ho24 (below_size zq))
            have n1_ := bb hb B0_.1
            have n2_ := mk (below_step zq hb)
            clear B0_ HB
            have B0_ := n1_
            have HB := n2_
            clear n1_ n2_ hb ho24
            obtain ⟨Ao25, co25, eo25⟩ := Kd.R_slice HO193.1
            (first | subst eo25 | (injection eo25 with f1_ f2_ f3_; have f4_ := f1_.symm; have f5_ := f3_.symm; clear f1_ f2_ f3_; subst f4_; subst f5_))
            refine hK.out _ _ ⟨bQ B0_.1 0, bQ B0_.1 1, ((HB.1.cell (World.block_lt_of_cell? w _ hw199_0)).trans hw199_0), ((HB.1.cell (World.block_lt_of_cell? w _ hw199_1)).trans hw199_1)⟩ (fun hHeld => ?_)
            clear hK K
            refine nm 18 ?_
            refine one_ (i := 6) (N := some 19) (bs 46 127) rfl rfl (one_of HT_.1 (by kernel_rfl)) (by decide) (fun K hK => ?_)
            refine goes_ Tryd.func71 (by kernel_rfl) rfl #[.int .i64 0, .int .i64 1099511627776, .slice Ao25 y191.length co25] (by rfl) rfl rfl (by (try simp only [List.map_toArray, List.map_cons, List.map_nil]); first | done | rfl | (simp only [List.length_drop, List.length_take]; rfl)) ?_
            with_reducible refine (wire_in.calls k1 0 1099511627776 _ _ y191 true _ ?side1 ?side2 A10.1).mono ?_
            (case side1 => repeat (first | exact (Kd.R_reads' HO193.1).2.2 | (with_reducible refine Kd.C_alloc ?_ _) | (with_reducible refine Kd.C_drewN ?_ _) | (with_reducible refine Kd.C_drew ?_)))
            (case side2 => exact (Kd.R_reads' HO193.1).2.1)
            rintro e w' ⟨rfl, ⟨nd, rfl⟩⟩
            refine ⟨_, rfl, ?_⟩
            refine hK.out _ _ ⟨bQ B0_.1 0, bQ B0_.1 1, ((HB.1.cell (World.block_lt_of_cell? w _ hw199_0)).trans hw199_0), ((HB.1.cell (World.block_lt_of_cell? w _ hw199_1)).trans hw199_1)⟩ (fun hHeld => ?_)
            clear hK K
            refine nm 19 ?_
            refine pt HT_ 7 20 255 ?_
            refine pt HT_ 8 21 511 ?_
            refine pt HT_ 9 22 1023 ?_
            refine pt HT_ 10 23 2047 ?_
            refine tb HT_ HW_ 11 24 4095 hHeld ?_
            refine one_ (i := 12) (N := some 25) (bs 46 8191) rfl rfl (one_of HT_.1 (by kernel_rfl)) (by decide) (fun K hK => ?_)
            refine Kd.R_lit_step (Kd.int .i64) _ 3 ?hg (N := 25) ?hd (xs := ([(rd_T82 l0 x8_1).f1] : List Int)) (inner := [.int .i64 ((rd_T82 l0 x8_1).f1)]) (ok := fun _ => True) (okp := fun _ => True) ?hr ?hp (fun _ hk => hk) trivial (Below.refl _ _) (Nat.le_refl _) (by simp) ?_; (case hd => rfl); (case hg => rfl); (case hr => first | (go_simp; done) | (go_simp; rfl)); (case hp => exact (Reps.one (show Kd.M (Kd.int .i64) _ _ _ ((rd_T82 l0 x8_1).f1) [.int .i64 ((rd_T82 l0 x8_1).f1)] from rfl) (Reps.none _ _)))
            intro v196 w26 ho27 hb hg_ hnew_
            clear hg_ hnew_
            (first | rw [← Ny195.1] at ho27 | (simp only [Int.reduceToNat] at ho27; rw [← Ny195.1] at ho27))
            have n0_ := mk (Kd.R_elder' (by (with_reducible repeat (first | apply Kd.R_alloc | apply Kd.R_drewN | apply Kd.R_drew)); exact HO193.1) (Kd.R_base ho27) hb)
            have HO197 := mk (Kd.R_lower (Kd.R_new' ho27 (Kd.R_lt (by (with_reducible repeat (first | apply Kd.R_alloc | apply Kd.R_drewN | apply Kd.R_drew)); exact HO193.1))) (below_size zq))
            have n2_ := bb hb B0_.1
            have n3_ := mk (below_step zq hb)
            clear HO193 B0_ HB
            have HO193 := n0_
            have B0_ := n2_
            have HB := n3_
            clear n0_ n2_ n3_ hb ho27
            obtain ⟨Ao28, co28, eo28⟩ := Kd.R_slice HO197.1
            (first | subst eo28 | (injection eo28 with f1_ f2_ f3_; have f4_ := f1_.symm; have f5_ := f3_.symm; clear f1_ f2_ f3_; subst f4_; subst f5_))
            refine hK.out _ _ ⟨bQ B0_.1 0, bQ B0_.1 1, ((HB.1.cell (World.block_lt_of_cell? w _ hw199_0)).trans hw199_0), ((HB.1.cell (World.block_lt_of_cell? w _ hw199_1)).trans hw199_1)⟩ (fun hHeld => ?_)
            clear hK K
            refine nm 25 ?_
            refine one_ (i := 13) (N := some 26) (bs 46 16383) rfl rfl (one_of HT_.1 (by kernel_rfl)) (by decide) (fun K hK => ?_)
            refine goes_ Tryd.func71 (by kernel_rfl) rfl #[.int .i64 (-32), .int .i64 32, .slice Ao28 y195.length co28] (by rfl) rfl rfl (by (try simp only [List.map_toArray, List.map_cons, List.map_nil]); first | done | rfl | (simp only [List.length_drop, List.length_take]; rfl)) ?_
            with_reducible refine (wire_in.calls k1 (-32) 32 _ _ y195 true _ ?side1 ?side2 A12.1).mono ?_
            (case side1 => repeat (first | exact (Kd.R_reads' HO197.1).2.2 | (with_reducible refine Kd.C_alloc ?_ _) | (with_reducible refine Kd.C_drewN ?_ _) | (with_reducible refine Kd.C_drew ?_)))
            (case side2 => exact (Kd.R_reads' HO197.1).2.1)
            rintro e w' ⟨rfl, ⟨nd, rfl⟩⟩
            refine ⟨_, rfl, ?_⟩
            refine hK.out _ _ ⟨bQ B0_.1 0, bQ B0_.1 1, ((HB.1.cell (World.block_lt_of_cell? w _ hw199_0)).trans hw199_0), ((HB.1.cell (World.block_lt_of_cell? w _ hw199_1)).trans hw199_1)⟩ (fun hHeld => ?_)
            clear hK K
            refine nm 26 ?_
            refine pt HT_ 14 27 32767 ?_
            refine pt HT_ 15 28 65535 ?_
            refine pt HT_ 16 29 131071 ?_
            refine pt HT_ 17 30 262143 ?_
            refine pt HT_ 18 31 524287 ?_
            refine pt HT_ 19 32 1048575 ?_
            refine pt HT_ 20 33 2097151 ?_
            refine pt HT_ 22 35 6291455 ?_
            refine pt HT_ 23 36 14680063 ?_
            refine pt HT_ 24 37 31457279 ?_
            refine pt HT_ 25 38 65011711 ?_
            refine pt HT_ 26 39 132120575 ?_
            refine tb HT_ HW_ 21 34 134217727 hHeld ?_
            refine tb HT_ HW_ 27 40 268435455 hHeld ?_
            refine pt HT_ 28 41 536870911 ?_
            refine pt HT_ 29 42 1073741823 ?_
            refine pt HT_ 30 43 2147483647 ?_
            refine pt HT_ 31 44 4294967295 ?_
            refine pt HT_ 32 45 8589934591 ?_
            refine pm HT_ 33 46 17179869183 ?_
            refine pm HT_ 34 47 34359738367 ?_
            refine pm HT_ 35 48 68719476735 ?_
            refine pm HT_ 36 49 137438953471 ?_
            refine pm HT_ 37 50 274877906943 ?_
            refine pm HT_ 38 51 549755813887 ?_
            refine pm HT_ 39 52 1099511627775 ?_
            refine pm HT_ 40 53 2199023255551 ?_
            refine pm HT_ 41 54 4398046511103 ?_
            refine pm HT_ 42 55 8796093022207 ?_
            refine pm HT_ 43 56 17592186044415 ?_
            refine pm HT_ 44 57 35184372088831 ?_
            refine pt HT_ 45 58 70368744177663 ?_
            refine done_ (done_of HT_.1 (by kernel_rfl)) ?_
            try go_wp2
            go_ret
            exact ⟨by first | rfl | (simp [errW_none, errW_some] <;> rfl) | (simp only [← hji15]; first | rfl | (simp [errW_none, errW_some] <;> rfl)) | (simp [*, errW_none, errW_some] <;> rfl), by repeat (first | (with_reducible first | exact HB.1 | apply bA | apply pD | apply b1 | apply bS E0_.1) | exact HB.1)⟩
           rw [if_neg c18] at H
           have c18b0 : decide ((wrap64 (((rd_T82 l0 x8_1).f0) - ((rd_T82 l0 (ji15)).f0))) < 86400) = false := decide_eq_false c18
           clear c18
           by_cases c29 : (wrap64 (((rd_T82 l0 x8_1).f1) - x3_1)) = 1
           ·rw [if_pos c29] at H
            have c29b0 : ((wrap64 (((rd_T82 l0 x8_1).f1) - x3_1)) == 1) = true := beq_iff_eq.mpr c29
            have c29b1 : ((wrap64 (((rd_T82 l0 x8_1).f1) - x3_1)) != 1) = false := bne_eq_false_iff_eq.mpr c29
            clear c29
            have H' := mk H
            clear H
            have p189 : 0 ≤ (x8_1 : Int) := of_decide_eq_true (by first | (with_reducible assumption) | assumption)
            have q189 : x8_1 < (l0.length : Int) := of_decide_eq_true (by first | (with_reducible assumption) | assumption)
            obtain ⟨ad189, e189, hx189_0, hx189_1⟩ := at_T82 HR0.1 x8_1 p189 q189
            cases e189
            replace hx189_0 := (HB.1.cell (World.block_lt_of_cell? w _ hx189_0)).trans hx189_0
            replace hx189_1 := (HB.1.cell (World.block_lt_of_cell? w _ hx189_1)).trans hx189_1
            replace p189 := eq_true p189
            replace q189 := eq_true q189
            try go_wp2_with (first | ((with_reducible refine gate_dst (N := 5) rfl ?_); (try (refine gate_guard (by rfl) ?_; dsimp only)); refine bx 5 #[.int .i64 0, .int .i64 0] 82 ?_; intro g0_ hg w30 hbox hb; have B0_ := mk (hbox); have W0_ := gl hg zq; have E0_ := gl hg zq; replace HB := mk (below_step zq hb); clear hb hbox hg; obtain ⟨hcz31_0, hcz31_1⟩ := cc2 B0_.1; obtain ⟨hfz31_0, hfz31_1⟩ := cf2 B0_.1))
            have n0_ : Aside0 (((w30.setCell ⟨g0_, 0, none⟩ (.int .i64 ((rd_T82 l0 x8_1).f0))).setCell ⟨g0_, 1, none⟩ (.int .i64 ((rd_T82 l0 x8_1).f1))).heap[g0_]? = some (.cells #[.int .i64 ((rd_T82 l0 x8_1).f0), .int .i64 ((rd_T82 l0 x8_1).f1)] 82 (0, 0))) := ⟨by (with_reducible repeat (first | refine blk_drewN ?_ _ | refine blk_drew ?_ | refine blk_alloc ?_ _)); refine blk_put (cs := #[.int .i64 ((rd_T82 l0 x8_1).f0), .int .i64 0]) ?_ 1 _ rfl; (with_reducible repeat (first | refine blk_drewN ?_ _ | refine blk_drew ?_ | refine blk_alloc ?_ _)); refine blk_put (cs := #[.int .i64 0, .int .i64 0]) ?_ 0 _ rfl; (with_reducible repeat (first | refine blk_drewN ?_ _ | refine blk_drew ?_ | refine blk_alloc ?_ _)); exact B0_.1⟩
            have n1_ : Aside0 (Below w.heap.size w ((w30.setCell ⟨g0_, 0, none⟩ (.int .i64 ((rd_T82 l0 x8_1).f0))).setCell ⟨g0_, 1, none⟩ (.int .i64 ((rd_T82 l0 x8_1).f1)))) := ⟨by repeat (first | (with_reducible first | exact HB.1 | apply bA | apply pD | apply b1 | apply bS E0_.1) | exact HB.1)⟩
            (try clear B0_)
            (try clear HB)
            (try (repeat rw [sc_drewN]))
            generalize ((w30.setCell ⟨g0_, 0, none⟩ (.int .i64 ((rd_T82 l0 x8_1).f0))).setCell ⟨g0_, 1, none⟩ (.int .i64 ((rd_T82 l0 x8_1).f1))) = w32 at n0_ n1_ ⊢
            have B0_ := n0_
            have HB := n1_
            clear n0_ n1_
            replace B0_ := mk (blk_drew B0_.1)
            replace HB := mk (below_drew1 HB.1)
            have p199 : 0 ≤ ((ji15) : Int) := of_decide_eq_true (by first | (with_reducible assumption) | assumption)
            have q199 : (ji15) < (l0.length : Int) := of_decide_eq_true (by first | (with_reducible assumption) | assumption)
            obtain ⟨ad199, e199, hx199_0, hx199_1⟩ := at_T82 HR0.1 (ji15) p199 q199
            have hw199_1 := hx199_1
            have hw199_0 := hx199_0
            obtain rfl : ad189 = ad199 := (by injection e199)
            replace hx199_0 := (HB.1.cell (World.block_lt_of_cell? w _ hx199_0)).trans hx199_0
            replace hx199_1 := (HB.1.cell (World.block_lt_of_cell? w _ hx199_1)).trans hx199_1
            replace p199 := eq_true p199
            replace q199 := eq_true q199
            refine start_ (n := 46) (S := fun w' => w'.cell? ⟨g0_, 0, none⟩ = some (.int .i64 ((rd_T82 l0 x8_1).f0)) ∧ w'.cell? ⟨g0_, 1, none⟩ = some (.int .i64 ((rd_T82 l0 x8_1).f1)) ∧ w'.cell? (ad189.add (((ji15)).toNat * 2)) = some (.int .i64 ((rd_T82 l0 (ji15)).f0)) ∧ w'.cell? ⟨(ad189.add (((ji15)).toNat * 2)).block, (ad189.add (((ji15)).toNat * 2)).off + 1, none⟩ = some (.int .i64 ((rd_T82 l0 (ji15)).f1))) (ds := []) (bs 46 0) (by kernel_rfl) rfl rfl ⟨bQ B0_.1 0, bQ B0_.1 1, ((HB.1.cell (World.block_lt_of_cell? w _ hw199_0)).trans hw199_0), ((HB.1.cell (World.block_lt_of_cell? w _ hw199_1)).trans hw199_1)⟩ (fun hHeld => ?_); refine with_tabW wire_Table.tab5 wire_Table.bits5 (fun HT_ HW_ => ?_)
            generalize w32.drew = w33 at B0_ HB hx199_0 hx199_1 hHeld ⊢
            refine pt HT_ 0 13 1 ?_
            refine pt HT_ 1 14 3 ?_
            refine pt HT_ 2 15 7 ?_
            refine pt HT_ 3 16 15 ?_
            refine tb HT_ HW_ 4 17 31 hHeld ?_
            refine one_ (i := 5) (N := some 18) (bs 46 63) rfl rfl (one_of HT_.1 (by kernel_rfl)) (by decide) (fun K hK => ?_)
            refine Kd.R_lit_step (Kd.int .i64) _ 3 ?hg (N := 18) ?hd (xs := ([(rd_T82 l0 x8_1).f0] : List Int)) (inner := [.int .i64 ((rd_T82 l0 x8_1).f0)]) (ok := fun _ => True) (okp := fun _ => True) ?hr ?hp (fun _ hk => hk) trivial (Below.refl _ _) (Nat.le_refl _) (by simp) ?_; (case hd => rfl); (case hg => rfl); (case hr => first | (go_simp; done) | (go_simp; rfl)); (case hp => exact (Reps.one (show Kd.M (Kd.int .i64) _ _ _ ((rd_T82 l0 x8_1).f0) [.int .i64 ((rd_T82 l0 x8_1).f0)] from rfl) (Reps.none _ _)))
            intro v192 w34 ho35 hb hg_ hnew_
            clear hg_ hnew_
            (first | rw [← Ny191.1] at ho35 | (simp only [Int.reduceToNat] at ho35; rw [← Ny191.1] at ho35))
            have HO193 := mk (Kd.R_lower ho35 (below_size zq))
            have n1_ := bb hb B0_.1
            have n2_ := mk (below_step zq hb)
            clear B0_ HB
            have B0_ := n1_
            have HB := n2_
            clear n1_ n2_ hb ho35
            obtain ⟨Ao36, co36, eo36⟩ := Kd.R_slice HO193.1
            (first | subst eo36 | (injection eo36 with f1_ f2_ f3_; have f4_ := f1_.symm; have f5_ := f3_.symm; clear f1_ f2_ f3_; subst f4_; subst f5_))
            refine hK.out _ _ ⟨bQ B0_.1 0, bQ B0_.1 1, ((HB.1.cell (World.block_lt_of_cell? w _ hw199_0)).trans hw199_0), ((HB.1.cell (World.block_lt_of_cell? w _ hw199_1)).trans hw199_1)⟩ (fun hHeld => ?_)
            clear hK K
            refine nm 18 ?_
            refine one_ (i := 6) (N := some 19) (bs 46 127) rfl rfl (one_of HT_.1 (by kernel_rfl)) (by decide) (fun K hK => ?_)
            refine goes_ Tryd.func71 (by kernel_rfl) rfl #[.int .i64 0, .int .i64 1099511627776, .slice Ao36 y191.length co36] (by rfl) rfl rfl (by (try simp only [List.map_toArray, List.map_cons, List.map_nil]); first | done | rfl | (simp only [List.length_drop, List.length_take]; rfl)) ?_
            with_reducible refine (wire_in.calls k1 0 1099511627776 _ _ y191 true _ ?side1 ?side2 A10.1).mono ?_
            (case side1 => repeat (first | exact (Kd.R_reads' HO193.1).2.2 | (with_reducible refine Kd.C_alloc ?_ _) | (with_reducible refine Kd.C_drewN ?_ _) | (with_reducible refine Kd.C_drew ?_)))
            (case side2 => exact (Kd.R_reads' HO193.1).2.1)
            rintro e w' ⟨rfl, ⟨nd, rfl⟩⟩
            refine ⟨_, rfl, ?_⟩
            refine hK.out _ _ ⟨bQ B0_.1 0, bQ B0_.1 1, ((HB.1.cell (World.block_lt_of_cell? w _ hw199_0)).trans hw199_0), ((HB.1.cell (World.block_lt_of_cell? w _ hw199_1)).trans hw199_1)⟩ (fun hHeld => ?_)
            clear hK K
            refine nm 19 ?_
            refine pt HT_ 7 20 255 ?_
            refine pt HT_ 8 21 511 ?_
            refine pt HT_ 9 22 1023 ?_
            refine pt HT_ 10 23 2047 ?_
            refine tb HT_ HW_ 11 24 4095 hHeld ?_
            refine one_ (i := 12) (N := some 25) (bs 46 8191) rfl rfl (one_of HT_.1 (by kernel_rfl)) (by decide) (fun K hK => ?_)
            refine Kd.R_lit_step (Kd.int .i64) _ 3 ?hg (N := 25) ?hd (xs := ([(rd_T82 l0 x8_1).f1] : List Int)) (inner := [.int .i64 ((rd_T82 l0 x8_1).f1)]) (ok := fun _ => True) (okp := fun _ => True) ?hr ?hp (fun _ hk => hk) trivial (Below.refl _ _) (Nat.le_refl _) (by simp) ?_; (case hd => rfl); (case hg => rfl); (case hr => first | (go_simp; done) | (go_simp; rfl)); (case hp => exact (Reps.one (show Kd.M (Kd.int .i64) _ _ _ ((rd_T82 l0 x8_1).f1) [.int .i64 ((rd_T82 l0 x8_1).f1)] from rfl) (Reps.none _ _)))
            intro v196 w37 ho38 hb hg_ hnew_
            clear hg_ hnew_
            (first | rw [← Ny195.1] at ho38 | (simp only [Int.reduceToNat] at ho38; rw [← Ny195.1] at ho38))
            have n0_ := mk (Kd.R_elder' (by (with_reducible repeat (first | apply Kd.R_alloc | apply Kd.R_drewN | apply Kd.R_drew)); exact HO193.1) (Kd.R_base ho38) hb)
            have HO197 := mk (Kd.R_lower (Kd.R_new' ho38 (Kd.R_lt (by (with_reducible repeat (first | apply Kd.R_alloc | apply Kd.R_drewN | apply Kd.R_drew)); exact HO193.1))) (below_size zq))
            have n2_ := bb hb B0_.1
            have n3_ := mk (below_step zq hb)
            clear HO193 B0_ HB
            have HO193 := n0_
            have B0_ := n2_
            have HB := n3_
            clear n0_ n2_ n3_ hb ho38
            obtain ⟨Ao39, co39, eo39⟩ := Kd.R_slice HO197.1
            (first | subst eo39 | (injection eo39 with f1_ f2_ f3_; have f4_ := f1_.symm; have f5_ := f3_.symm; clear f1_ f2_ f3_; subst f4_; subst f5_))
            refine hK.out _ _ ⟨bQ B0_.1 0, bQ B0_.1 1, ((HB.1.cell (World.block_lt_of_cell? w _ hw199_0)).trans hw199_0), ((HB.1.cell (World.block_lt_of_cell? w _ hw199_1)).trans hw199_1)⟩ (fun hHeld => ?_)
            clear hK K
            refine nm 25 ?_
            refine one_ (i := 13) (N := some 26) (bs 46 16383) rfl rfl (one_of HT_.1 (by kernel_rfl)) (by decide) (fun K hK => ?_)
            refine goes_ Tryd.func71 (by kernel_rfl) rfl #[.int .i64 (-32), .int .i64 32, .slice Ao39 y195.length co39] (by rfl) rfl rfl (by (try simp only [List.map_toArray, List.map_cons, List.map_nil]); first | done | rfl | (simp only [List.length_drop, List.length_take]; rfl)) ?_
            with_reducible refine (wire_in.calls k1 (-32) 32 _ _ y195 true _ ?side1 ?side2 A12.1).mono ?_
            (case side1 => repeat (first | exact (Kd.R_reads' HO197.1).2.2 | (with_reducible refine Kd.C_alloc ?_ _) | (with_reducible refine Kd.C_drewN ?_ _) | (with_reducible refine Kd.C_drew ?_)))
            (case side2 => exact (Kd.R_reads' HO197.1).2.1)
            rintro e w' ⟨rfl, ⟨nd, rfl⟩⟩
            refine ⟨_, rfl, ?_⟩
            refine hK.out _ _ ⟨bQ B0_.1 0, bQ B0_.1 1, ((HB.1.cell (World.block_lt_of_cell? w _ hw199_0)).trans hw199_0), ((HB.1.cell (World.block_lt_of_cell? w _ hw199_1)).trans hw199_1)⟩ (fun hHeld => ?_)
            clear hK K
            refine nm 26 ?_
            refine pt HT_ 14 27 32767 ?_
            refine pt HT_ 15 28 65535 ?_
            refine pt HT_ 16 29 131071 ?_
            refine pt HT_ 17 30 262143 ?_
            refine pt HT_ 18 31 524287 ?_
            refine pt HT_ 19 32 1048575 ?_
            refine pt HT_ 20 33 2097151 ?_
            refine pt HT_ 22 35 6291455 ?_
            refine pt HT_ 23 36 14680063 ?_
            refine pt HT_ 24 37 31457279 ?_
            refine pt HT_ 25 38 65011711 ?_
            refine pt HT_ 26 39 132120575 ?_
            refine tb HT_ HW_ 21 34 134217727 hHeld ?_
            refine tb HT_ HW_ 27 40 268435455 hHeld ?_
            refine pt HT_ 28 41 536870911 ?_
            refine pt HT_ 29 42 1073741823 ?_
            refine pt HT_ 30 43 2147483647 ?_
            refine pt HT_ 31 44 4294967295 ?_
            refine pt HT_ 32 45 8589934591 ?_
            refine pt HT_ 33 46 17179869183 ?_
            refine pt HT_ 35 48 51539607551 ?_
            refine tb HT_ HW_ 34 47 68719476735 hHeld ?_
            refine pt HT_ 36 49 137438953471 ?_
            refine pt HT_ 37 50 274877906943 ?_
            refine pt HT_ 38 51 549755813887 ?_
            refine pm HT_ 39 52 1099511627775 ?_
            refine pm HT_ 40 53 2199023255551 ?_
            refine pm HT_ 41 54 4398046511103 ?_
            refine pm HT_ 42 55 8796093022207 ?_
            refine pm HT_ 43 56 17592186044415 ?_
            refine pt HT_ 44 57 35184372088831 ?_
            refine pt HT_ 45 58 70368744177663 ?_
            refine done_ (done_of HT_.1 (by kernel_rfl)) ?_
            obtain ⟨hcz40_0, hcz40_1⟩ := cc2 B0_.1
            obtain ⟨hfz40_0, hfz40_1⟩ := cf2 B0_.1
            try go_wp2
            go_roundg k1
            case measure => have := HK1.1; omega
            case rel => exact ⟨((rd_T82 l0 x8_1).f1), (wrap64 (x8_1 + 1)), zs, zs, H', ⟨by have := HK1.1; omega⟩, ⟨by repeat (first | (with_reducible first | exact HB.1 | apply bA | apply pD | apply b1 | apply bS E0_.1) | exact HB.1)⟩⟩
           rw [if_neg c29] at H
           have c29b0 : ((wrap64 (((rd_T82 l0 x8_1).f1) - x3_1)) == 1) = false := beq_eq_false_iff_ne.mpr c29
           have c29b1 : ((wrap64 (((rd_T82 l0 x8_1).f1) - x3_1)) != 1) = true := bne_iff_ne.mpr c29
           by_cases c41 : (wrap64 (((rd_T82 l0 x8_1).f1) - x3_1)) = (-1)
           ·rw [if_pos c41] at H
            have c41b0 : ((wrap64 (((rd_T82 l0 x8_1).f1) - x3_1)) == (-1)) = true := beq_iff_eq.mpr c41
            have c41b1 : ((wrap64 (((rd_T82 l0 x8_1).f1) - x3_1)) != (-1)) = false := bne_eq_false_iff_eq.mpr c41
            clear c41
            have H' := mk H
            clear H
            have p189 : 0 ≤ (x8_1 : Int) := of_decide_eq_true (by first | (with_reducible assumption) | assumption)
            have q189 : x8_1 < (l0.length : Int) := of_decide_eq_true (by first | (with_reducible assumption) | assumption)
            obtain ⟨ad189, e189, hx189_0, hx189_1⟩ := at_T82 HR0.1 x8_1 p189 q189
            cases e189
            replace hx189_0 := (HB.1.cell (World.block_lt_of_cell? w _ hx189_0)).trans hx189_0
            replace hx189_1 := (HB.1.cell (World.block_lt_of_cell? w _ hx189_1)).trans hx189_1
            replace p189 := eq_true p189
            replace q189 := eq_true q189
            try go_wp2_with (first | ((with_reducible refine gate_dst (N := 5) rfl ?_); (try (refine gate_guard (by rfl) ?_; dsimp only)); refine bx 5 #[.int .i64 0, .int .i64 0] 82 ?_; intro g0_ hg w42 hbox hb; have B0_ := mk (hbox); have W0_ := gl hg zq; have E0_ := gl hg zq; replace HB := mk (below_step zq hb); clear hb hbox hg; obtain ⟨hcz43_0, hcz43_1⟩ := cc2 B0_.1; obtain ⟨hfz43_0, hfz43_1⟩ := cf2 B0_.1))
            have n0_ : Aside0 (((w42.setCell ⟨g0_, 0, none⟩ (.int .i64 ((rd_T82 l0 x8_1).f0))).setCell ⟨g0_, 1, none⟩ (.int .i64 ((rd_T82 l0 x8_1).f1))).heap[g0_]? = some (.cells #[.int .i64 ((rd_T82 l0 x8_1).f0), .int .i64 ((rd_T82 l0 x8_1).f1)] 82 (0, 0))) := ⟨by (with_reducible repeat (first | refine blk_drewN ?_ _ | refine blk_drew ?_ | refine blk_alloc ?_ _)); refine blk_put (cs := #[.int .i64 ((rd_T82 l0 x8_1).f0), .int .i64 0]) ?_ 1 _ rfl; (with_reducible repeat (first | refine blk_drewN ?_ _ | refine blk_drew ?_ | refine blk_alloc ?_ _)); refine blk_put (cs := #[.int .i64 0, .int .i64 0]) ?_ 0 _ rfl; (with_reducible repeat (first | refine blk_drewN ?_ _ | refine blk_drew ?_ | refine blk_alloc ?_ _)); exact B0_.1⟩
            have n1_ : Aside0 (Below w.heap.size w ((w42.setCell ⟨g0_, 0, none⟩ (.int .i64 ((rd_T82 l0 x8_1).f0))).setCell ⟨g0_, 1, none⟩ (.int .i64 ((rd_T82 l0 x8_1).f1)))) := ⟨by repeat (first | (with_reducible first | exact HB.1 | apply bA | apply pD | apply b1 | apply bS E0_.1) | exact HB.1)⟩
            (try clear B0_)
            (try clear HB)
            (try (repeat rw [sc_drewN]))
            generalize ((w42.setCell ⟨g0_, 0, none⟩ (.int .i64 ((rd_T82 l0 x8_1).f0))).setCell ⟨g0_, 1, none⟩ (.int .i64 ((rd_T82 l0 x8_1).f1))) = w44 at n0_ n1_ ⊢
            have B0_ := n0_
            have HB := n1_
            clear n0_ n1_
            replace B0_ := mk (blk_drew B0_.1)
            replace HB := mk (below_drew1 HB.1)
            have p199 : 0 ≤ ((ji15) : Int) := of_decide_eq_true (by first | (with_reducible assumption) | assumption)
            have q199 : (ji15) < (l0.length : Int) := of_decide_eq_true (by first | (with_reducible assumption) | assumption)
            obtain ⟨ad199, e199, hx199_0, hx199_1⟩ := at_T82 HR0.1 (ji15) p199 q199
            have hw199_1 := hx199_1
            have hw199_0 := hx199_0
            obtain rfl : ad189 = ad199 := (by injection e199)
            replace hx199_0 := (HB.1.cell (World.block_lt_of_cell? w _ hx199_0)).trans hx199_0
            replace hx199_1 := (HB.1.cell (World.block_lt_of_cell? w _ hx199_1)).trans hx199_1
            replace p199 := eq_true p199
            replace q199 := eq_true q199
            refine start_ (n := 46) (S := fun w' => w'.cell? ⟨g0_, 0, none⟩ = some (.int .i64 ((rd_T82 l0 x8_1).f0)) ∧ w'.cell? ⟨g0_, 1, none⟩ = some (.int .i64 ((rd_T82 l0 x8_1).f1)) ∧ w'.cell? (ad189.add (((ji15)).toNat * 2)) = some (.int .i64 ((rd_T82 l0 (ji15)).f0)) ∧ w'.cell? ⟨(ad189.add (((ji15)).toNat * 2)).block, (ad189.add (((ji15)).toNat * 2)).off + 1, none⟩ = some (.int .i64 ((rd_T82 l0 (ji15)).f1))) (ds := []) (bs 46 0) (by kernel_rfl) rfl rfl ⟨bQ B0_.1 0, bQ B0_.1 1, ((HB.1.cell (World.block_lt_of_cell? w _ hw199_0)).trans hw199_0), ((HB.1.cell (World.block_lt_of_cell? w _ hw199_1)).trans hw199_1)⟩ (fun hHeld => ?_); refine with_tabW wire_Table.tab5 wire_Table.bits5 (fun HT_ HW_ => ?_)
            generalize w44.drew = w45 at B0_ HB hx199_0 hx199_1 hHeld ⊢
            refine pt HT_ 0 13 1 ?_
            refine pt HT_ 1 14 3 ?_
            refine pt HT_ 2 15 7 ?_
            refine pt HT_ 3 16 15 ?_
            refine tb HT_ HW_ 4 17 31 hHeld ?_
            refine one_ (i := 5) (N := some 18) (bs 46 63) rfl rfl (one_of HT_.1 (by kernel_rfl)) (by decide) (fun K hK => ?_)
            refine Kd.R_lit_step (Kd.int .i64) _ 3 ?hg (N := 18) ?hd (xs := ([(rd_T82 l0 x8_1).f0] : List Int)) (inner := [.int .i64 ((rd_T82 l0 x8_1).f0)]) (ok := fun _ => True) (okp := fun _ => True) ?hr ?hp (fun _ hk => hk) trivial (Below.refl _ _) (Nat.le_refl _) (by simp) ?_; (case hd => rfl); (case hg => rfl); (case hr => first | (go_simp; done) | (go_simp; rfl)); (case hp => exact (Reps.one (show Kd.M (Kd.int .i64) _ _ _ ((rd_T82 l0 x8_1).f0) [.int .i64 ((rd_T82 l0 x8_1).f0)] from rfl) (Reps.none _ _)))
            intro v192 w46 ho47 hb hg_ hnew_
            clear hg_ hnew_
            (first | rw [← Ny191.1] at ho47 | (simp only [Int.reduceToNat] at ho47; rw [← Ny191.1] at ho47))
            have HO193 := mk (Kd.R_lower ho47 (below_size zq))
            have n1_ := bb hb B0_.1
            have n2_ := mk (below_step zq hb)
            clear B0_ HB
            have B0_ := n1_
            have HB := n2_
            clear n1_ n2_ hb ho47
            obtain ⟨Ao48, co48, eo48⟩ := Kd.R_slice HO193.1
            (first | subst eo48 | (injection eo48 with f1_ f2_ f3_; have f4_ := f1_.symm; have f5_ := f3_.symm; clear f1_ f2_ f3_; subst f4_; subst f5_))
            refine hK.out _ _ ⟨bQ B0_.1 0, bQ B0_.1 1, ((HB.1.cell (World.block_lt_of_cell? w _ hw199_0)).trans hw199_0), ((HB.1.cell (World.block_lt_of_cell? w _ hw199_1)).trans hw199_1)⟩ (fun hHeld => ?_)
            clear hK K
            refine nm 18 ?_
            refine one_ (i := 6) (N := some 19) (bs 46 127) rfl rfl (one_of HT_.1 (by kernel_rfl)) (by decide) (fun K hK => ?_)
            refine goes_ Tryd.func71 (by kernel_rfl) rfl #[.int .i64 0, .int .i64 1099511627776, .slice Ao48 y191.length co48] (by rfl) rfl rfl (by (try simp only [List.map_toArray, List.map_cons, List.map_nil]); first | done | rfl | (simp only [List.length_drop, List.length_take]; rfl)) ?_
            with_reducible refine (wire_in.calls k1 0 1099511627776 _ _ y191 true _ ?side1 ?side2 A10.1).mono ?_
            (case side1 => repeat (first | exact (Kd.R_reads' HO193.1).2.2 | (with_reducible refine Kd.C_alloc ?_ _) | (with_reducible refine Kd.C_drewN ?_ _) | (with_reducible refine Kd.C_drew ?_)))
            (case side2 => exact (Kd.R_reads' HO193.1).2.1)
            rintro e w' ⟨rfl, ⟨nd, rfl⟩⟩
            refine ⟨_, rfl, ?_⟩
            refine hK.out _ _ ⟨bQ B0_.1 0, bQ B0_.1 1, ((HB.1.cell (World.block_lt_of_cell? w _ hw199_0)).trans hw199_0), ((HB.1.cell (World.block_lt_of_cell? w _ hw199_1)).trans hw199_1)⟩ (fun hHeld => ?_)
            clear hK K
            refine nm 19 ?_
            refine pt HT_ 7 20 255 ?_
            refine pt HT_ 8 21 511 ?_
            refine pt HT_ 9 22 1023 ?_
            refine pt HT_ 10 23 2047 ?_
            refine tb HT_ HW_ 11 24 4095 hHeld ?_
            refine one_ (i := 12) (N := some 25) (bs 46 8191) rfl rfl (one_of HT_.1 (by kernel_rfl)) (by decide) (fun K hK => ?_)
            refine Kd.R_lit_step (Kd.int .i64) _ 3 ?hg (N := 25) ?hd (xs := ([(rd_T82 l0 x8_1).f1] : List Int)) (inner := [.int .i64 ((rd_T82 l0 x8_1).f1)]) (ok := fun _ => True) (okp := fun _ => True) ?hr ?hp (fun _ hk => hk) trivial (Below.refl _ _) (Nat.le_refl _) (by simp) ?_; (case hd => rfl); (case hg => rfl); (case hr => first | (go_simp; done) | (go_simp; rfl)); (case hp => exact (Reps.one (show Kd.M (Kd.int .i64) _ _ _ ((rd_T82 l0 x8_1).f1) [.int .i64 ((rd_T82 l0 x8_1).f1)] from rfl) (Reps.none _ _)))
            intro v196 w49 ho50 hb hg_ hnew_
            clear hg_ hnew_
            (first | rw [← Ny195.1] at ho50 | (simp only [Int.reduceToNat] at ho50; rw [← Ny195.1] at ho50))
            have n0_ := mk (Kd.R_elder' (by (with_reducible repeat (first | apply Kd.R_alloc | apply Kd.R_drewN | apply Kd.R_drew)); exact HO193.1) (Kd.R_base ho50) hb)
            have HO197 := mk (Kd.R_lower (Kd.R_new' ho50 (Kd.R_lt (by (with_reducible repeat (first | apply Kd.R_alloc | apply Kd.R_drewN | apply Kd.R_drew)); exact HO193.1))) (below_size zq))
            have n2_ := bb hb B0_.1
            have n3_ := mk (below_step zq hb)
            clear HO193 B0_ HB
            have HO193 := n0_
            have B0_ := n2_
            have HB := n3_
            clear n0_ n2_ n3_ hb ho50
            obtain ⟨Ao51, co51, eo51⟩ := Kd.R_slice HO197.1
            (first | subst eo51 | (injection eo51 with f1_ f2_ f3_; have f4_ := f1_.symm; have f5_ := f3_.symm; clear f1_ f2_ f3_; subst f4_; subst f5_))
            refine hK.out _ _ ⟨bQ B0_.1 0, bQ B0_.1 1, ((HB.1.cell (World.block_lt_of_cell? w _ hw199_0)).trans hw199_0), ((HB.1.cell (World.block_lt_of_cell? w _ hw199_1)).trans hw199_1)⟩ (fun hHeld => ?_)
            clear hK K
            refine nm 25 ?_
            refine one_ (i := 13) (N := some 26) (bs 46 16383) rfl rfl (one_of HT_.1 (by kernel_rfl)) (by decide) (fun K hK => ?_)
            refine goes_ Tryd.func71 (by kernel_rfl) rfl #[.int .i64 (-32), .int .i64 32, .slice Ao51 y195.length co51] (by rfl) rfl rfl (by (try simp only [List.map_toArray, List.map_cons, List.map_nil]); first | done | rfl | (simp only [List.length_drop, List.length_take]; rfl)) ?_
            with_reducible refine (wire_in.calls k1 (-32) 32 _ _ y195 true _ ?side1 ?side2 A12.1).mono ?_
            (case side1 => repeat (first | exact (Kd.R_reads' HO197.1).2.2 | (with_reducible refine Kd.C_alloc ?_ _) | (with_reducible refine Kd.C_drewN ?_ _) | (with_reducible refine Kd.C_drew ?_)))
            (case side2 => exact (Kd.R_reads' HO197.1).2.1)
            rintro e w' ⟨rfl, ⟨nd, rfl⟩⟩
            refine ⟨_, rfl, ?_⟩
            refine hK.out _ _ ⟨bQ B0_.1 0, bQ B0_.1 1, ((HB.1.cell (World.block_lt_of_cell? w _ hw199_0)).trans hw199_0), ((HB.1.cell (World.block_lt_of_cell? w _ hw199_1)).trans hw199_1)⟩ (fun hHeld => ?_)
            clear hK K
            refine nm 26 ?_
            refine pt HT_ 14 27 32767 ?_
            refine pt HT_ 15 28 65535 ?_
            refine pt HT_ 16 29 131071 ?_
            refine pt HT_ 17 30 262143 ?_
            refine pt HT_ 18 31 524287 ?_
            refine pt HT_ 19 32 1048575 ?_
            refine pt HT_ 20 33 2097151 ?_
            refine pt HT_ 22 35 6291455 ?_
            refine pt HT_ 23 36 14680063 ?_
            refine pt HT_ 24 37 31457279 ?_
            refine pt HT_ 25 38 65011711 ?_
            refine pt HT_ 26 39 132120575 ?_
            refine tb HT_ HW_ 21 34 134217727 hHeld ?_
            refine tb HT_ HW_ 27 40 268435455 hHeld ?_
            refine pt HT_ 28 41 536870911 ?_
            refine pt HT_ 29 42 1073741823 ?_
            refine pt HT_ 30 43 2147483647 ?_
            refine pt HT_ 31 44 4294967295 ?_
            refine pt HT_ 32 45 8589934591 ?_
            refine pt HT_ 33 46 17179869183 ?_
            refine pt HT_ 35 48 51539607551 ?_
            refine tb HT_ HW_ 34 47 68719476735 hHeld ?_
            refine pt HT_ 36 49 137438953471 ?_
            refine pt HT_ 37 50 274877906943 ?_
            refine pt HT_ 38 51 549755813887 ?_
            refine pt HT_ 39 52 1099511627775 ?_
            refine pt HT_ 41 54 3298534883327 ?_
            refine tb HT_ HW_ 40 53 4398046511103 hHeld ?_
            refine pt HT_ 42 55 8796093022207 ?_
            refine pt HT_ 43 56 17592186044415 ?_
            refine pt HT_ 44 57 35184372088831 ?_
            refine pt HT_ 45 58 70368744177663 ?_
            refine done_ (done_of HT_.1 (by kernel_rfl)) ?_
            obtain ⟨hcz52_0, hcz52_1⟩ := cc2 B0_.1
            obtain ⟨hfz52_0, hfz52_1⟩ := cf2 B0_.1
            try go_wp2
            go_roundg k1
            case measure => have := HK1.1; omega
            case rel => exact ⟨((rd_T82 l0 x8_1).f1), (wrap64 (x8_1 + 1)), zs, zs, H', ⟨by have := HK1.1; omega⟩, ⟨by repeat (first | (with_reducible first | exact HB.1 | apply bA | apply pD | apply b1 | apply bS E0_.1) | exact HB.1)⟩⟩
           rw [if_neg c41] at H
           have c41b0 : ((wrap64 (((rd_T82 l0 x8_1).f1) - x3_1)) == (-1)) = false := beq_eq_false_iff_ne.mpr c41
           have c41b1 : ((wrap64 (((rd_T82 l0 x8_1).f1) - x3_1)) != (-1)) = true := bne_iff_ne.mpr c41
           obtain rfl := Option.some.inj H
           have p189 : 0 ≤ (x8_1 : Int) := of_decide_eq_true (by first | (with_reducible assumption) | assumption)
           have q189 : x8_1 < (l0.length : Int) := of_decide_eq_true (by first | (with_reducible assumption) | assumption)
           obtain ⟨ad189, e189, hx189_0, hx189_1⟩ := at_T82 HR0.1 x8_1 p189 q189
           cases e189
           replace hx189_0 := (HB.1.cell (World.block_lt_of_cell? w _ hx189_0)).trans hx189_0
           replace hx189_1 := (HB.1.cell (World.block_lt_of_cell? w _ hx189_1)).trans hx189_1
           replace p189 := eq_true p189
           replace q189 := eq_true q189
           try go_wp2_with (first | ((with_reducible refine gate_dst (N := 5) rfl ?_); (try (refine gate_guard (by rfl) ?_; dsimp only)); refine bx 5 #[.int .i64 0, .int .i64 0] 82 ?_; intro g0_ hg w53 hbox hb; have B0_ := mk (hbox); have W0_ := gl hg zq; have E0_ := gl hg zq; replace HB := mk (below_step zq hb); clear hb hbox hg; obtain ⟨hcz54_0, hcz54_1⟩ := cc2 B0_.1; obtain ⟨hfz54_0, hfz54_1⟩ := cf2 B0_.1))
           have n0_ : Aside0 (((w53.setCell ⟨g0_, 0, none⟩ (.int .i64 ((rd_T82 l0 x8_1).f0))).setCell ⟨g0_, 1, none⟩ (.int .i64 ((rd_T82 l0 x8_1).f1))).heap[g0_]? = some (.cells #[.int .i64 ((rd_T82 l0 x8_1).f0), .int .i64 ((rd_T82 l0 x8_1).f1)] 82 (0, 0))) := ⟨by (with_reducible repeat (first | refine blk_drewN ?_ _ | refine blk_drew ?_ | refine blk_alloc ?_ _)); refine blk_put (cs := #[.int .i64 ((rd_T82 l0 x8_1).f0), .int .i64 0]) ?_ 1 _ rfl; (with_reducible repeat (first | refine blk_drewN ?_ _ | refine blk_drew ?_ | refine blk_alloc ?_ _)); refine blk_put (cs := #[.int .i64 0, .int .i64 0]) ?_ 0 _ rfl; (with_reducible repeat (first | refine blk_drewN ?_ _ | refine blk_drew ?_ | refine blk_alloc ?_ _)); exact B0_.1⟩
           have n1_ : Aside0 (Below w.heap.size w ((w53.setCell ⟨g0_, 0, none⟩ (.int .i64 ((rd_T82 l0 x8_1).f0))).setCell ⟨g0_, 1, none⟩ (.int .i64 ((rd_T82 l0 x8_1).f1)))) := ⟨by repeat (first | (with_reducible first | exact HB.1 | apply bA | apply pD | apply b1 | apply bS E0_.1) | exact HB.1)⟩
           (try clear B0_)
           (try clear HB)
           (try (repeat rw [sc_drewN]))
           generalize ((w53.setCell ⟨g0_, 0, none⟩ (.int .i64 ((rd_T82 l0 x8_1).f0))).setCell ⟨g0_, 1, none⟩ (.int .i64 ((rd_T82 l0 x8_1).f1))) = w55 at n0_ n1_ ⊢
           have B0_ := n0_
           have HB := n1_
           clear n0_ n1_
           replace B0_ := mk (blk_drew B0_.1)
           replace HB := mk (below_drew1 HB.1)
           have p199 : 0 ≤ ((ji15) : Int) := of_decide_eq_true (by first | (with_reducible assumption) | assumption)
           have q199 : (ji15) < (l0.length : Int) := of_decide_eq_true (by first | (with_reducible assumption) | assumption)
           obtain ⟨ad199, e199, hx199_0, hx199_1⟩ := at_T82 HR0.1 (ji15) p199 q199
           have hw199_1 := hx199_1
           have hw199_0 := hx199_0
           obtain rfl : ad189 = ad199 := (by injection e199)
           replace hx199_0 := (HB.1.cell (World.block_lt_of_cell? w _ hx199_0)).trans hx199_0
           replace hx199_1 := (HB.1.cell (World.block_lt_of_cell? w _ hx199_1)).trans hx199_1
           replace p199 := eq_true p199
           replace q199 := eq_true q199
           refine start_ (n := 46) (S := fun w' => w'.cell? ⟨g0_, 0, none⟩ = some (.int .i64 ((rd_T82 l0 x8_1).f0)) ∧ w'.cell? ⟨g0_, 1, none⟩ = some (.int .i64 ((rd_T82 l0 x8_1).f1)) ∧ w'.cell? (ad189.add (((ji15)).toNat * 2)) = some (.int .i64 ((rd_T82 l0 (ji15)).f0)) ∧ w'.cell? ⟨(ad189.add (((ji15)).toNat * 2)).block, (ad189.add (((ji15)).toNat * 2)).off + 1, none⟩ = some (.int .i64 ((rd_T82 l0 (ji15)).f1))) (ds := []) (bs 46 0) (by kernel_rfl) rfl rfl ⟨bQ B0_.1 0, bQ B0_.1 1, ((HB.1.cell (World.block_lt_of_cell? w _ hw199_0)).trans hw199_0), ((HB.1.cell (World.block_lt_of_cell? w _ hw199_1)).trans hw199_1)⟩ (fun hHeld => ?_); refine with_tabW wire_Table.tab5 wire_Table.bits5 (fun HT_ HW_ => ?_)
           generalize w55.drew = w56 at B0_ HB hx199_0 hx199_1 hHeld ⊢
           refine pt HT_ 0 13 1 ?_
           refine pt HT_ 1 14 3 ?_
           refine pt HT_ 2 15 7 ?_
           refine pt HT_ 3 16 15 ?_
           refine tb HT_ HW_ 4 17 31 hHeld ?_
           refine one_ (i := 5) (N := some 18) (bs 46 63) rfl rfl (one_of HT_.1 (by kernel_rfl)) (by decide) (fun K hK => ?_)
           refine Kd.R_lit_step (Kd.int .i64) _ 3 ?hg (N := 18) ?hd (xs := ([(rd_T82 l0 x8_1).f0] : List Int)) (inner := [.int .i64 ((rd_T82 l0 x8_1).f0)]) (ok := fun _ => True) (okp := fun _ => True) ?hr ?hp (fun _ hk => hk) trivial (Below.refl _ _) (Nat.le_refl _) (by simp) ?_; (case hd => rfl); (case hg => rfl); (case hr => first | (go_simp; done) | (go_simp; rfl)); (case hp => exact (Reps.one (show Kd.M (Kd.int .i64) _ _ _ ((rd_T82 l0 x8_1).f0) [.int .i64 ((rd_T82 l0 x8_1).f0)] from rfl) (Reps.none _ _)))
           intro v192 w57 ho58 hb hg_ hnew_
           clear hg_ hnew_
           (first | rw [← Ny191.1] at ho58 | (simp only [Int.reduceToNat] at ho58; rw [← Ny191.1] at ho58))
           have HO193 := mk (Kd.R_lower ho58 (below_size zq))
           have n1_ := bb hb B0_.1
           have n2_ := mk (below_step zq hb)
           clear B0_ HB
           have B0_ := n1_
           have HB := n2_
           clear n1_ n2_ hb ho58
           obtain ⟨Ao59, co59, eo59⟩ := Kd.R_slice HO193.1
           (first | subst eo59 | (injection eo59 with f1_ f2_ f3_; have f4_ := f1_.symm; have f5_ := f3_.symm; clear f1_ f2_ f3_; subst f4_; subst f5_))
           refine hK.out _ _ ⟨bQ B0_.1 0, bQ B0_.1 1, ((HB.1.cell (World.block_lt_of_cell? w _ hw199_0)).trans hw199_0), ((HB.1.cell (World.block_lt_of_cell? w _ hw199_1)).trans hw199_1)⟩ (fun hHeld => ?_)
           clear hK K
           refine nm 18 ?_
           refine one_ (i := 6) (N := some 19) (bs 46 127) rfl rfl (one_of HT_.1 (by kernel_rfl)) (by decide) (fun K hK => ?_)
           refine goes_ Tryd.func71 (by kernel_rfl) rfl #[.int .i64 0, .int .i64 1099511627776, .slice Ao59 y191.length co59] (by rfl) rfl rfl (by (try simp only [List.map_toArray, List.map_cons, List.map_nil]); first | done | rfl | (simp only [List.length_drop, List.length_take]; rfl)) ?_
           with_reducible refine (wire_in.calls k1 0 1099511627776 _ _ y191 true _ ?side1 ?side2 A10.1).mono ?_
           (case side1 => repeat (first | exact (Kd.R_reads' HO193.1).2.2 | (with_reducible refine Kd.C_alloc ?_ _) | (with_reducible refine Kd.C_drewN ?_ _) | (with_reducible refine Kd.C_drew ?_)))
           (case side2 => exact (Kd.R_reads' HO193.1).2.1)
           rintro e w' ⟨rfl, ⟨nd, rfl⟩⟩
           refine ⟨_, rfl, ?_⟩
           refine hK.out _ _ ⟨bQ B0_.1 0, bQ B0_.1 1, ((HB.1.cell (World.block_lt_of_cell? w _ hw199_0)).trans hw199_0), ((HB.1.cell (World.block_lt_of_cell? w _ hw199_1)).trans hw199_1)⟩ (fun hHeld => ?_)
           clear hK K
           refine nm 19 ?_
           refine pt HT_ 7 20 255 ?_
           refine pt HT_ 8 21 511 ?_
           refine pt HT_ 9 22 1023 ?_
           refine pt HT_ 10 23 2047 ?_
           refine tb HT_ HW_ 11 24 4095 hHeld ?_
           refine one_ (i := 12) (N := some 25) (bs 46 8191) rfl rfl (one_of HT_.1 (by kernel_rfl)) (by decide) (fun K hK => ?_)
           refine Kd.R_lit_step (Kd.int .i64) _ 3 ?hg (N := 25) ?hd (xs := ([(rd_T82 l0 x8_1).f1] : List Int)) (inner := [.int .i64 ((rd_T82 l0 x8_1).f1)]) (ok := fun _ => True) (okp := fun _ => True) ?hr ?hp (fun _ hk => hk) trivial (Below.refl _ _) (Nat.le_refl _) (by simp) ?_; (case hd => rfl); (case hg => rfl); (case hr => first | (go_simp; done) | (go_simp; rfl)); (case hp => exact (Reps.one (show Kd.M (Kd.int .i64) _ _ _ ((rd_T82 l0 x8_1).f1) [.int .i64 ((rd_T82 l0 x8_1).f1)] from rfl) (Reps.none _ _)))
           intro v196 w60 ho61 hb hg_ hnew_
           clear hg_ hnew_
           (first | rw [← Ny195.1] at ho61 | (simp only [Int.reduceToNat] at ho61; rw [← Ny195.1] at ho61))
           have n0_ := mk (Kd.R_elder' (by (with_reducible repeat (first | apply Kd.R_alloc | apply Kd.R_drewN | apply Kd.R_drew)); exact HO193.1) (Kd.R_base ho61) hb)
           have HO197 := mk (Kd.R_lower (Kd.R_new' ho61 (Kd.R_lt (by (with_reducible repeat (first | apply Kd.R_alloc | apply Kd.R_drewN | apply Kd.R_drew)); exact HO193.1))) (below_size zq))
           have n2_ := bb hb B0_.1
           have n3_ := mk (below_step zq hb)
           clear HO193 B0_ HB
           have HO193 := n0_
           have B0_ := n2_
           have HB := n3_
           clear n0_ n2_ n3_ hb ho61
           obtain ⟨Ao62, co62, eo62⟩ := Kd.R_slice HO197.1
           (first | subst eo62 | (injection eo62 with f1_ f2_ f3_; have f4_ := f1_.symm; have f5_ := f3_.symm; clear f1_ f2_ f3_; subst f4_; subst f5_))
           refine hK.out _ _ ⟨bQ B0_.1 0, bQ B0_.1 1, ((HB.1.cell (World.block_lt_of_cell? w _ hw199_0)).trans hw199_0), ((HB.1.cell (World.block_lt_of_cell? w _ hw199_1)).trans hw199_1)⟩ (fun hHeld => ?_)
           clear hK K
           refine nm 25 ?_
           refine one_ (i := 13) (N := some 26) (bs 46 16383) rfl rfl (one_of HT_.1 (by kernel_rfl)) (by decide) (fun K hK => ?_)
           refine goes_ Tryd.func71 (by kernel_rfl) rfl #[.int .i64 (-32), .int .i64 32, .slice Ao62 y195.length co62] (by rfl) rfl rfl (by (try simp only [List.map_toArray, List.map_cons, List.map_nil]); first | done | rfl | (simp only [List.length_drop, List.length_take]; rfl)) ?_
           with_reducible refine (wire_in.calls k1 (-32) 32 _ _ y195 true _ ?side1 ?side2 A12.1).mono ?_
           (case side1 => repeat (first | exact (Kd.R_reads' HO197.1).2.2 | (with_reducible refine Kd.C_alloc ?_ _) | (with_reducible refine Kd.C_drewN ?_ _) | (with_reducible refine Kd.C_drew ?_)))
           (case side2 => exact (Kd.R_reads' HO197.1).2.1)
           rintro e w' ⟨rfl, ⟨nd, rfl⟩⟩
           refine ⟨_, rfl, ?_⟩
           refine hK.out _ _ ⟨bQ B0_.1 0, bQ B0_.1 1, ((HB.1.cell (World.block_lt_of_cell? w _ hw199_0)).trans hw199_0), ((HB.1.cell (World.block_lt_of_cell? w _ hw199_1)).trans hw199_1)⟩ (fun hHeld => ?_)
           clear hK K
           refine nm 26 ?_
           refine pt HT_ 14 27 32767 ?_
           refine pt HT_ 15 28 65535 ?_
           refine pt HT_ 16 29 131071 ?_
           refine pt HT_ 17 30 262143 ?_
           refine pt HT_ 18 31 524287 ?_
           refine pt HT_ 19 32 1048575 ?_
           refine pt HT_ 20 33 2097151 ?_
           refine pt HT_ 22 35 6291455 ?_
           refine pt HT_ 23 36 14680063 ?_
           refine pt HT_ 24 37 31457279 ?_
           refine pt HT_ 25 38 65011711 ?_
           refine pt HT_ 26 39 132120575 ?_
           refine tb HT_ HW_ 21 34 134217727 hHeld ?_
           refine tb HT_ HW_ 27 40 268435455 hHeld ?_
           refine pt HT_ 28 41 536870911 ?_
           refine pt HT_ 29 42 1073741823 ?_
           refine pt HT_ 30 43 2147483647 ?_
           refine pt HT_ 31 44 4294967295 ?_
           refine pt HT_ 32 45 8589934591 ?_
           refine pt HT_ 33 46 17179869183 ?_
           refine pt HT_ 35 48 51539607551 ?_
           refine tb HT_ HW_ 34 47 68719476735 hHeld ?_
           refine pt HT_ 36 49 137438953471 ?_
           refine pt HT_ 37 50 274877906943 ?_
           refine pt HT_ 38 51 549755813887 ?_
           refine pt HT_ 39 52 1099511627775 ?_
           refine pt HT_ 41 54 3298534883327 ?_
           refine tb HT_ HW_ 40 53 4398046511103 hHeld ?_
           refine pt HT_ 42 55 8796093022207 ?_
           refine pt HT_ 43 56 17592186044415 ?_
           refine pt HT_ 44 57 35184372088831 ?_
           refine pt HT_ 45 58 70368744177663 ?_
           refine done_ (done_of HT_.1 (by kernel_rfl)) ?_
           try go_wp2
           go_ret
           exact ⟨by first | rfl | (simp [errW_none, errW_some] <;> rfl) | (simp only [← hji15]; first | rfl | (simp [errW_none, errW_some] <;> rfl)) | (simp [*, errW_none, errW_some] <;> rfl), by repeat (first | (with_reducible first | exact HB.1 | apply bA | apply pD | apply b1 | apply bS E0_.1) | exact HB.1)⟩
          rw [if_neg c17] at H
          exact absurd H (by simp)
         rw [if_neg c16] at H
         exact absurd H (by simp)
        rw [if_neg c14] at H
        have c14b0 : decide (0 < x8_1) = false := decide_eq_false c14
        clear c14
        by_cases c63 : (wrap64 (((rd_T82 l0 x8_1).f1) - x3_1)) = 1
        ·rw [if_pos c63] at H
         have c63b0 : ((wrap64 (((rd_T82 l0 x8_1).f1) - x3_1)) == 1) = true := beq_iff_eq.mpr c63
         have c63b1 : ((wrap64 (((rd_T82 l0 x8_1).f1) - x3_1)) != 1) = false := bne_eq_false_iff_eq.mpr c63
         clear c63
         have H' := mk H
         clear H
         have p189 : 0 ≤ (x8_1 : Int) := of_decide_eq_true (by first | (with_reducible assumption) | assumption)
         have q189 : x8_1 < (l0.length : Int) := of_decide_eq_true (by first | (with_reducible assumption) | assumption)
         obtain ⟨ad189, e189, hx189_0, hx189_1⟩ := at_T82 HR0.1 x8_1 p189 q189
         cases e189
         replace hx189_0 := (HB.1.cell (World.block_lt_of_cell? w _ hx189_0)).trans hx189_0
         replace hx189_1 := (HB.1.cell (World.block_lt_of_cell? w _ hx189_1)).trans hx189_1
         replace p189 := eq_true p189
         replace q189 := eq_true q189
         try go_wp2_with (first | ((with_reducible refine gate_dst (N := 5) rfl ?_); (try (refine gate_guard (by rfl) ?_; dsimp only)); refine bx 5 #[.int .i64 0, .int .i64 0] 82 ?_; intro g0_ hg w64 hbox hb; have B0_ := mk (hbox); have W0_ := gl hg zq; have E0_ := gl hg zq; replace HB := mk (below_step zq hb); clear hb hbox hg; obtain ⟨hcz65_0, hcz65_1⟩ := cc2 B0_.1; obtain ⟨hfz65_0, hfz65_1⟩ := cf2 B0_.1))
         have n0_ : Aside0 (((w64.setCell ⟨g0_, 0, none⟩ (.int .i64 ((rd_T82 l0 x8_1).f0))).setCell ⟨g0_, 1, none⟩ (.int .i64 ((rd_T82 l0 x8_1).f1))).heap[g0_]? = some (.cells #[.int .i64 ((rd_T82 l0 x8_1).f0), .int .i64 ((rd_T82 l0 x8_1).f1)] 82 (0, 0))) := ⟨by (with_reducible repeat (first | refine blk_drewN ?_ _ | refine blk_drew ?_ | refine blk_alloc ?_ _)); refine blk_put (cs := #[.int .i64 ((rd_T82 l0 x8_1).f0), .int .i64 0]) ?_ 1 _ rfl; (with_reducible repeat (first | refine blk_drewN ?_ _ | refine blk_drew ?_ | refine blk_alloc ?_ _)); refine blk_put (cs := #[.int .i64 0, .int .i64 0]) ?_ 0 _ rfl; (with_reducible repeat (first | refine blk_drewN ?_ _ | refine blk_drew ?_ | refine blk_alloc ?_ _)); exact B0_.1⟩
         have n1_ : Aside0 (Below w.heap.size w ((w64.setCell ⟨g0_, 0, none⟩ (.int .i64 ((rd_T82 l0 x8_1).f0))).setCell ⟨g0_, 1, none⟩ (.int .i64 ((rd_T82 l0 x8_1).f1)))) := ⟨by repeat (first | (with_reducible first | exact HB.1 | apply bA | apply pD | apply b1 | apply bS E0_.1) | exact HB.1)⟩
         (try clear B0_)
         (try clear HB)
         (try (repeat rw [sc_drewN]))
         generalize ((w64.setCell ⟨g0_, 0, none⟩ (.int .i64 ((rd_T82 l0 x8_1).f0))).setCell ⟨g0_, 1, none⟩ (.int .i64 ((rd_T82 l0 x8_1).f1))) = w66 at n0_ n1_ ⊢
         have B0_ := n0_
         have HB := n1_
         clear n0_ n1_
         replace B0_ := mk (blk_drew B0_.1)
         replace HB := mk (below_drew1 HB.1)
         refine start_ (n := 46) (S := fun w' => w'.cell? ⟨g0_, 0, none⟩ = some (.int .i64 ((rd_T82 l0 x8_1).f0)) ∧ w'.cell? ⟨g0_, 1, none⟩ = some (.int .i64 ((rd_T82 l0 x8_1).f1))) (ds := []) (bs 46 0) (by kernel_rfl) rfl rfl ⟨bQ B0_.1 0, bQ B0_.1 1⟩ (fun hHeld => ?_); refine with_tabW wire_Table.tab5 wire_Table.bits5 (fun HT_ HW_ => ?_)
         generalize w66.drew = w67 at B0_ HB hHeld ⊢
         refine pt HT_ 0 13 1 ?_
         refine pt HT_ 1 14 3 ?_
         refine pt HT_ 2 15 7 ?_
         refine pt HT_ 3 16 15 ?_
         refine tb HT_ HW_ 4 17 31 hHeld ?_
         refine one_ (i := 5) (N := some 18) (bs 46 63) rfl rfl (one_of HT_.1 (by kernel_rfl)) (by decide) (fun K hK => ?_)
         refine Kd.R_lit_step (Kd.int .i64) _ 3 ?hg (N := 18) ?hd (xs := ([(rd_T82 l0 x8_1).f0] : List Int)) (inner := [.int .i64 ((rd_T82 l0 x8_1).f0)]) (ok := fun _ => True) (okp := fun _ => True) ?hr ?hp (fun _ hk => hk) trivial (Below.refl _ _) (Nat.le_refl _) (by simp) ?_; (case hd => rfl); (case hg => rfl); (case hr => first | (go_simp; done) | (go_simp; rfl)); (case hp => exact (Reps.one (show Kd.M (Kd.int .i64) _ _ _ ((rd_T82 l0 x8_1).f0) [.int .i64 ((rd_T82 l0 x8_1).f0)] from rfl) (Reps.none _ _)))
         intro v192 w68 ho69 hb hg_ hnew_
         clear hg_ hnew_
         (first | rw [← Ny191.1] at ho69 | (simp only [Int.reduceToNat] at ho69; rw [← Ny191.1] at ho69))
         have HO193 := mk (Kd.R_lower ho69 (below_size zq))
         have n1_ := bb hb B0_.1
         have n2_ := mk (below_step zq hb)
         clear B0_ HB
         have B0_ := n1_
         have HB := n2_
         clear n1_ n2_ hb ho69
         obtain ⟨Ao70, co70, eo70⟩ := Kd.R_slice HO193.1
         (first | subst eo70 | (injection eo70 with f1_ f2_ f3_; have f4_ := f1_.symm; have f5_ := f3_.symm; clear f1_ f2_ f3_; subst f4_; subst f5_))
         refine hK.out _ _ ⟨bQ B0_.1 0, bQ B0_.1 1⟩ (fun hHeld => ?_)
         clear hK K
         refine nm 18 ?_
         refine one_ (i := 6) (N := some 19) (bs 46 127) rfl rfl (one_of HT_.1 (by kernel_rfl)) (by decide) (fun K hK => ?_)
         refine goes_ Tryd.func71 (by kernel_rfl) rfl #[.int .i64 0, .int .i64 1099511627776, .slice Ao70 y191.length co70] (by rfl) rfl rfl (by (try simp only [List.map_toArray, List.map_cons, List.map_nil]); first | done | rfl | (simp only [List.length_drop, List.length_take]; rfl)) ?_
         with_reducible refine (wire_in.calls k1 0 1099511627776 _ _ y191 true _ ?side1 ?side2 A10.1).mono ?_
         (case side1 => repeat (first | exact (Kd.R_reads' HO193.1).2.2 | (with_reducible refine Kd.C_alloc ?_ _) | (with_reducible refine Kd.C_drewN ?_ _) | (with_reducible refine Kd.C_drew ?_)))
         (case side2 => exact (Kd.R_reads' HO193.1).2.1)
         rintro e w' ⟨rfl, ⟨nd, rfl⟩⟩
         refine ⟨_, rfl, ?_⟩
         refine hK.out _ _ ⟨bQ B0_.1 0, bQ B0_.1 1⟩ (fun hHeld => ?_)
         clear hK K
         refine nm 19 ?_
         refine pt HT_ 7 20 255 ?_
         refine pt HT_ 8 21 511 ?_
         refine pt HT_ 9 22 1023 ?_
         refine pt HT_ 10 23 2047 ?_
         refine tb HT_ HW_ 11 24 4095 hHeld ?_
         refine one_ (i := 12) (N := some 25) (bs 46 8191) rfl rfl (one_of HT_.1 (by kernel_rfl)) (by decide) (fun K hK => ?_)
         refine Kd.R_lit_step (Kd.int .i64) _ 3 ?hg (N := 25) ?hd (xs := ([(rd_T82 l0 x8_1).f1] : List Int)) (inner := [.int .i64 ((rd_T82 l0 x8_1).f1)]) (ok := fun _ => True) (okp := fun _ => True) ?hr ?hp (fun _ hk => hk) trivial (Below.refl _ _) (Nat.le_refl _) (by simp) ?_; (case hd => rfl); (case hg => rfl); (case hr => first | (go_simp; done) | (go_simp; rfl)); (case hp => exact (Reps.one (show Kd.M (Kd.int .i64) _ _ _ ((rd_T82 l0 x8_1).f1) [.int .i64 ((rd_T82 l0 x8_1).f1)] from rfl) (Reps.none _ _)))
         intro v196 w71 ho72 hb hg_ hnew_
         clear hg_ hnew_
         (first | rw [← Ny195.1] at ho72 | (simp only [Int.reduceToNat] at ho72; rw [← Ny195.1] at ho72))
         have n0_ := mk (Kd.R_elder' (by (with_reducible repeat (first | apply Kd.R_alloc | apply Kd.R_drewN | apply Kd.R_drew)); exact HO193.1) (Kd.R_base ho72) hb)
         have HO197 := mk (Kd.R_lower (Kd.R_new' ho72 (Kd.R_lt (by (with_reducible repeat (first | apply Kd.R_alloc | apply Kd.R_drewN | apply Kd.R_drew)); exact HO193.1))) (below_size zq))
         have n2_ := bb hb B0_.1
         have n3_ := mk (below_step zq hb)
         clear HO193 B0_ HB
         have HO193 := n0_
         have B0_ := n2_
         have HB := n3_
         clear n0_ n2_ n3_ hb ho72
         obtain ⟨Ao73, co73, eo73⟩ := Kd.R_slice HO197.1
         (first | subst eo73 | (injection eo73 with f1_ f2_ f3_; have f4_ := f1_.symm; have f5_ := f3_.symm; clear f1_ f2_ f3_; subst f4_; subst f5_))
         refine hK.out _ _ ⟨bQ B0_.1 0, bQ B0_.1 1⟩ (fun hHeld => ?_)
         clear hK K
         refine nm 25 ?_
         refine one_ (i := 13) (N := some 26) (bs 46 16383) rfl rfl (one_of HT_.1 (by kernel_rfl)) (by decide) (fun K hK => ?_)
         refine goes_ Tryd.func71 (by kernel_rfl) rfl #[.int .i64 (-32), .int .i64 32, .slice Ao73 y195.length co73] (by rfl) rfl rfl (by (try simp only [List.map_toArray, List.map_cons, List.map_nil]); first | done | rfl | (simp only [List.length_drop, List.length_take]; rfl)) ?_
         with_reducible refine (wire_in.calls k1 (-32) 32 _ _ y195 true _ ?side1 ?side2 A12.1).mono ?_
         (case side1 => repeat (first | exact (Kd.R_reads' HO197.1).2.2 | (with_reducible refine Kd.C_alloc ?_ _) | (with_reducible refine Kd.C_drewN ?_ _) | (with_reducible refine Kd.C_drew ?_)))
         (case side2 => exact (Kd.R_reads' HO197.1).2.1)
         rintro e w' ⟨rfl, ⟨nd, rfl⟩⟩
         refine ⟨_, rfl, ?_⟩
         refine hK.out _ _ ⟨bQ B0_.1 0, bQ B0_.1 1⟩ (fun hHeld => ?_)
         clear hK K
         refine nm 26 ?_
         refine pt HT_ 14 27 32767 ?_
         refine pt HT_ 15 28 65535 ?_
         refine pt HT_ 16 29 131071 ?_
         refine pt HT_ 17 30 262143 ?_
         refine pt HT_ 18 31 524287 ?_
         refine pt HT_ 19 32 1048575 ?_
         refine pm HT_ 20 33 2097151 ?_
         refine pm HT_ 21 34 4194303 ?_
         refine pm HT_ 22 35 8388607 ?_
         refine pm HT_ 23 36 16777215 ?_
         refine pm HT_ 24 37 33554431 ?_
         refine pm HT_ 25 38 67108863 ?_
         refine pm HT_ 26 39 134217727 ?_
         refine pm HT_ 27 40 268435455 ?_
         refine pm HT_ 28 41 536870911 ?_
         refine pm HT_ 29 42 1073741823 ?_
         refine pt HT_ 30 43 2147483647 ?_
         refine pt HT_ 31 44 4294967295 ?_
         refine pt HT_ 32 45 8589934591 ?_
         refine pt HT_ 33 46 17179869183 ?_
         refine pt HT_ 35 48 51539607551 ?_
         refine tb HT_ HW_ 34 47 68719476735 hHeld ?_
         refine pt HT_ 36 49 137438953471 ?_
         refine pt HT_ 37 50 274877906943 ?_
         refine pt HT_ 38 51 549755813887 ?_
         refine pm HT_ 39 52 1099511627775 ?_
         refine pm HT_ 40 53 2199023255551 ?_
         refine pm HT_ 41 54 4398046511103 ?_
         refine pm HT_ 42 55 8796093022207 ?_
         refine pm HT_ 43 56 17592186044415 ?_
         refine pt HT_ 44 57 35184372088831 ?_
         refine pt HT_ 45 58 70368744177663 ?_
         refine done_ (done_of HT_.1 (by kernel_rfl)) ?_
         obtain ⟨hcz74_0, hcz74_1⟩ := cc2 B0_.1
         obtain ⟨hfz74_0, hfz74_1⟩ := cf2 B0_.1
         try go_wp2
         go_roundg k1
         case measure => have := HK1.1; omega
         case rel => exact ⟨((rd_T82 l0 x8_1).f1), (wrap64 (x8_1 + 1)), zs, zs, H', ⟨by have := HK1.1; omega⟩, ⟨by repeat (first | (with_reducible first | exact HB.1 | apply bA | apply pD | apply b1 | apply bS E0_.1) | exact HB.1)⟩⟩
        rw [if_neg c63] at H
        have c63b0 : ((wrap64 (((rd_T82 l0 x8_1).f1) - x3_1)) == 1) = false := beq_eq_false_iff_ne.mpr c63
        have c63b1 : ((wrap64 (((rd_T82 l0 x8_1).f1) - x3_1)) != 1) = true := bne_iff_ne.mpr c63
        by_cases c75 : (wrap64 (((rd_T82 l0 x8_1).f1) - x3_1)) = (-1)
        ·rw [if_pos c75] at H
         have c75b0 : ((wrap64 (((rd_T82 l0 x8_1).f1) - x3_1)) == (-1)) = true := beq_iff_eq.mpr c75
         have c75b1 : ((wrap64 (((rd_T82 l0 x8_1).f1) - x3_1)) != (-1)) = false := bne_eq_false_iff_eq.mpr c75
         clear c75
         have H' := mk H
         clear H
         have p189 : 0 ≤ (x8_1 : Int) := of_decide_eq_true (by first | (with_reducible assumption) | assumption)
         have q189 : x8_1 < (l0.length : Int) := of_decide_eq_true (by first | (with_reducible assumption) | assumption)
         obtain ⟨ad189, e189, hx189_0, hx189_1⟩ := at_T82 HR0.1 x8_1 p189 q189
         cases e189
         replace hx189_0 := (HB.1.cell (World.block_lt_of_cell? w _ hx189_0)).trans hx189_0
         replace hx189_1 := (HB.1.cell (World.block_lt_of_cell? w _ hx189_1)).trans hx189_1
         replace p189 := eq_true p189
         replace q189 := eq_true q189
         try go_wp2_with (first | ((with_reducible refine gate_dst (N := 5) rfl ?_); (try (refine gate_guard (by rfl) ?_; dsimp only)); refine bx 5 #[.int .i64 0, .int .i64 0] 82 ?_; intro g0_ hg w76 hbox hb; have B0_ := mk (hbox); have W0_ := gl hg zq; have E0_ := gl hg zq; replace HB := mk (below_step zq hb); clear hb hbox hg; obtain ⟨hcz77_0, hcz77_1⟩ := cc2 B0_.1; obtain ⟨hfz77_0, hfz77_1⟩ := cf2 B0_.1))
         have n0_ : Aside0 (((w76.setCell ⟨g0_, 0, none⟩ (.int .i64 ((rd_T82 l0 x8_1).f0))).setCell ⟨g0_, 1, none⟩ (.int .i64 ((rd_T82 l0 x8_1).f1))).heap[g0_]? = some (.cells #[.int .i64 ((rd_T82 l0 x8_1).f0), .int .i64 ((rd_T82 l0 x8_1).f1)] 82 (0, 0))) := ⟨by (with_reducible repeat (first | refine blk_drewN ?_ _ | refine blk_drew ?_ | refine blk_alloc ?_ _)); refine blk_put (cs := #[.int .i64 ((rd_T82 l0 x8_1).f0), .int .i64 0]) ?_ 1 _ rfl; (with_reducible repeat (first | refine blk_drewN ?_ _ | refine blk_drew ?_ | refine blk_alloc ?_ _)); refine blk_put (cs := #[.int .i64 0, .int .i64 0]) ?_ 0 _ rfl; (with_reducible repeat (first | refine blk_drewN ?_ _ | refine blk_drew ?_ | refine blk_alloc ?_ _)); exact B0_.1⟩
         have n1_ : Aside0 (Below w.heap.size w ((w76.setCell ⟨g0_, 0, none⟩ (.int .i64 ((rd_T82 l0 x8_1).f0))).setCell ⟨g0_, 1, none⟩ (.int .i64 ((rd_T82 l0 x8_1).f1)))) := ⟨by repeat (first | (with_reducible first | exact HB.1 | apply bA | apply pD | apply b1 | apply bS E0_.1) | exact HB.1)⟩
         (try clear B0_)
         (try clear HB)
         (try (repeat rw [sc_drewN]))
         generalize ((w76.setCell ⟨g0_, 0, none⟩ (.int .i64 ((rd_T82 l0 x8_1).f0))).setCell ⟨g0_, 1, none⟩ (.int .i64 ((rd_T82 l0 x8_1).f1))) = w78 at n0_ n1_ ⊢
         have B0_ := n0_
         have HB := n1_
         clear n0_ n1_
         replace B0_ := mk (blk_drew B0_.1)
         replace HB := mk (below_drew1 HB.1)
         refine start_ (n := 46) (S := fun w' => w'.cell? ⟨g0_, 0, none⟩ = some (.int .i64 ((rd_T82 l0 x8_1).f0)) ∧ w'.cell? ⟨g0_, 1, none⟩ = some (.int .i64 ((rd_T82 l0 x8_1).f1))) (ds := []) (bs 46 0) (by kernel_rfl) rfl rfl ⟨bQ B0_.1 0, bQ B0_.1 1⟩ (fun hHeld => ?_); refine with_tabW wire_Table.tab5 wire_Table.bits5 (fun HT_ HW_ => ?_)
         generalize w78.drew = w79 at B0_ HB hHeld ⊢
         refine pt HT_ 0 13 1 ?_
         refine pt HT_ 1 14 3 ?_
         refine pt HT_ 2 15 7 ?_
         refine pt HT_ 3 16 15 ?_
         refine tb HT_ HW_ 4 17 31 hHeld ?_
         refine one_ (i := 5) (N := some 18) (bs 46 63) rfl rfl (one_of HT_.1 (by kernel_rfl)) (by decide) (fun K hK => ?_)
         refine Kd.R_lit_step (Kd.int .i64) _ 3 ?hg (N := 18) ?hd (xs := ([(rd_T82 l0 x8_1).f0] : List Int)) (inner := [.int .i64 ((rd_T82 l0 x8_1).f0)]) (ok := fun _ => True) (okp := fun _ => True) ?hr ?hp (fun _ hk => hk) trivial (Below.refl _ _) (Nat.le_refl _) (by simp) ?_; (case hd => rfl); (case hg => rfl); (case hr => first | (go_simp; done) | (go_simp; rfl)); (case hp => exact (Reps.one (show Kd.M (Kd.int .i64) _ _ _ ((rd_T82 l0 x8_1).f0) [.int .i64 ((rd_T82 l0 x8_1).f0)] from rfl) (Reps.none _ _)))
         intro v192 w80 ho81 hb hg_ hnew_
         clear hg_ hnew_
         (first | rw [← Ny191.1] at ho81 | (simp only [Int.reduceToNat] at ho81; rw [← Ny191.1] at ho81))
         have HO193 := mk (Kd.R_lower ho81 (below_size zq))
         have n1_ := bb hb B0_.1
         have n2_ := mk (below_step zq hb)
         clear B0_ HB
         have B0_ := n1_
         have HB := n2_
         clear n1_ n2_ hb ho81
         obtain ⟨Ao82, co82, eo82⟩ := Kd.R_slice HO193.1
         (first | subst eo82 | (injection eo82 with f1_ f2_ f3_; have f4_ := f1_.symm; have f5_ := f3_.symm; clear f1_ f2_ f3_; subst f4_; subst f5_))
         refine hK.out _ _ ⟨bQ B0_.1 0, bQ B0_.1 1⟩ (fun hHeld => ?_)
         clear hK K
         refine nm 18 ?_
         refine one_ (i := 6) (N := some 19) (bs 46 127) rfl rfl (one_of HT_.1 (by kernel_rfl)) (by decide) (fun K hK => ?_)
         refine goes_ Tryd.func71 (by kernel_rfl) rfl #[.int .i64 0, .int .i64 1099511627776, .slice Ao82 y191.length co82] (by rfl) rfl rfl (by (try simp only [List.map_toArray, List.map_cons, List.map_nil]); first | done | rfl | (simp only [List.length_drop, List.length_take]; rfl)) ?_
         with_reducible refine (wire_in.calls k1 0 1099511627776 _ _ y191 true _ ?side1 ?side2 A10.1).mono ?_
         (case side1 => repeat (first | exact (Kd.R_reads' HO193.1).2.2 | (with_reducible refine Kd.C_alloc ?_ _) | (with_reducible refine Kd.C_drewN ?_ _) | (with_reducible refine Kd.C_drew ?_)))
         (case side2 => exact (Kd.R_reads' HO193.1).2.1)
         rintro e w' ⟨rfl, ⟨nd, rfl⟩⟩
         refine ⟨_, rfl, ?_⟩
         refine hK.out _ _ ⟨bQ B0_.1 0, bQ B0_.1 1⟩ (fun hHeld => ?_)
         clear hK K
         refine nm 19 ?_
         refine pt HT_ 7 20 255 ?_
         refine pt HT_ 8 21 511 ?_
         refine pt HT_ 9 22 1023 ?_
         refine pt HT_ 10 23 2047 ?_
         refine tb HT_ HW_ 11 24 4095 hHeld ?_
         refine one_ (i := 12) (N := some 25) (bs 46 8191) rfl rfl (one_of HT_.1 (by kernel_rfl)) (by decide) (fun K hK => ?_)
         refine Kd.R_lit_step (Kd.int .i64) _ 3 ?hg (N := 25) ?hd (xs := ([(rd_T82 l0 x8_1).f1] : List Int)) (inner := [.int .i64 ((rd_T82 l0 x8_1).f1)]) (ok := fun _ => True) (okp := fun _ => True) ?hr ?hp (fun _ hk => hk) trivial (Below.refl _ _) (Nat.le_refl _) (by simp) ?_; (case hd => rfl); (case hg => rfl); (case hr => first | (go_simp; done) | (go_simp; rfl)); (case hp => exact (Reps.one (show Kd.M (Kd.int .i64) _ _ _ ((rd_T82 l0 x8_1).f1) [.int .i64 ((rd_T82 l0 x8_1).f1)] from rfl) (Reps.none _ _)))
         intro v196 w83 ho84 hb hg_ hnew_
         clear hg_ hnew_
         (first | rw [← Ny195.1] at ho84 | (simp only [Int.reduceToNat] at ho84; rw [← Ny195.1] at ho84))
         have n0_ := mk (Kd.R_elder' (by (with_reducible repeat (first | apply Kd.R_alloc | apply Kd.R_drewN | apply Kd.R_drew)); exact HO193.1) (Kd.R_base ho84) hb)
         have HO197 := mk (Kd.R_lower (Kd.R_new' ho84 (Kd.R_lt (by (with_reducible repeat (first | apply Kd.R_alloc | apply Kd.R_drewN | apply Kd.R_drew)); exact HO193.1))) (below_size zq))
         have n2_ := bb hb B0_.1
         have n3_ := mk (below_step zq hb)
         clear HO193 B0_ HB
         have HO193 := n0_
         have B0_ := n2_
         have HB := n3_
         clear n0_ n2_ n3_ hb ho84
         obtain ⟨Ao85, co85, eo85⟩ := Kd.R_slice HO197.1
         (first | subst eo85 | (injection eo85 with f1_ f2_ f3_; have f4_ := f1_.symm; have f5_ := f3_.symm; clear f1_ f2_ f3_; subst f4_; subst f5_))
         refine hK.out _ _ ⟨bQ B0_.1 0, bQ B0_.1 1⟩ (fun hHeld => ?_)
         clear hK K
         refine nm 25 ?_
         refine one_ (i := 13) (N := some 26) (bs 46 16383) rfl rfl (one_of HT_.1 (by kernel_rfl)) (by decide) (fun K hK => ?_)
         refine goes_ Tryd.func71 (by kernel_rfl) rfl #[.int .i64 (-32), .int .i64 32, .slice Ao85 y195.length co85] (by rfl) rfl rfl (by (try simp only [List.map_toArray, List.map_cons, List.map_nil]); first | done | rfl | (simp only [List.length_drop, List.length_take]; rfl)) ?_
         with_reducible refine (wire_in.calls k1 (-32) 32 _ _ y195 true _ ?side1 ?side2 A12.1).mono ?_
         (case side1 => repeat (first | exact (Kd.R_reads' HO197.1).2.2 | (with_reducible refine Kd.C_alloc ?_ _) | (with_reducible refine Kd.C_drewN ?_ _) | (with_reducible refine Kd.C_drew ?_)))
         (case side2 => exact (Kd.R_reads' HO197.1).2.1)
         rintro e w' ⟨rfl, ⟨nd, rfl⟩⟩
         refine ⟨_, rfl, ?_⟩
         refine hK.out _ _ ⟨bQ B0_.1 0, bQ B0_.1 1⟩ (fun hHeld => ?_)
         clear hK K
         refine nm 26 ?_
         refine pt HT_ 14 27 32767 ?_
         refine pt HT_ 15 28 65535 ?_
         refine pt HT_ 16 29 131071 ?_
         refine pt HT_ 17 30 262143 ?_
         refine pt HT_ 18 31 524287 ?_
         refine pt HT_ 19 32 1048575 ?_
         refine pm HT_ 20 33 2097151 ?_
         refine pm HT_ 21 34 4194303 ?_
         refine pm HT_ 22 35 8388607 ?_
         refine pm HT_ 23 36 16777215 ?_
         refine pm HT_ 24 37 33554431 ?_
         refine pm HT_ 25 38 67108863 ?_
         refine pm HT_ 26 39 134217727 ?_
         refine pm HT_ 27 40 268435455 ?_
         refine pm HT_ 28 41 536870911 ?_
         refine pm HT_ 29 42 1073741823 ?_
         refine pt HT_ 30 43 2147483647 ?_
         refine pt HT_ 31 44 4294967295 ?_
         refine pt HT_ 32 45 8589934591 ?_
         refine pt HT_ 33 46 17179869183 ?_
         refine pt HT_ 35 48 51539607551 ?_
         refine tb HT_ HW_ 34 47 68719476735 hHeld ?_
         refine pt HT_ 36 49 137438953471 ?_
         refine pt HT_ 37 50 274877906943 ?_
         refine pt HT_ 38 51 549755813887 ?_
         refine pt HT_ 39 52 1099511627775 ?_
         refine pt HT_ 41 54 3298534883327 ?_
         refine tb HT_ HW_ 40 53 4398046511103 hHeld ?_
         refine pt HT_ 42 55 8796093022207 ?_
         refine pt HT_ 43 56 17592186044415 ?_
         refine pt HT_ 44 57 35184372088831 ?_
         refine pt HT_ 45 58 70368744177663 ?_
         refine done_ (done_of HT_.1 (by kernel_rfl)) ?_
         obtain ⟨hcz86_0, hcz86_1⟩ := cc2 B0_.1
         obtain ⟨hfz86_0, hfz86_1⟩ := cf2 B0_.1
         try go_wp2
         go_roundg k1
         case measure => have := HK1.1; omega
         case rel => exact ⟨((rd_T82 l0 x8_1).f1), (wrap64 (x8_1 + 1)), zs, zs, H', ⟨by have := HK1.1; omega⟩, ⟨by repeat (first | (with_reducible first | exact HB.1 | apply bA | apply pD | apply b1 | apply bS E0_.1) | exact HB.1)⟩⟩
        rw [if_neg c75] at H
        have c75b0 : ((wrap64 (((rd_T82 l0 x8_1).f1) - x3_1)) == (-1)) = false := beq_eq_false_iff_ne.mpr c75
        have c75b1 : ((wrap64 (((rd_T82 l0 x8_1).f1) - x3_1)) != (-1)) = true := bne_iff_ne.mpr c75
        obtain rfl := Option.some.inj H
        have p189 : 0 ≤ (x8_1 : Int) := of_decide_eq_true (by first | (with_reducible assumption) | assumption)
        have q189 : x8_1 < (l0.length : Int) := of_decide_eq_true (by first | (with_reducible assumption) | assumption)
        obtain ⟨ad189, e189, hx189_0, hx189_1⟩ := at_T82 HR0.1 x8_1 p189 q189
        cases e189
        replace hx189_0 := (HB.1.cell (World.block_lt_of_cell? w _ hx189_0)).trans hx189_0
        replace hx189_1 := (HB.1.cell (World.block_lt_of_cell? w _ hx189_1)).trans hx189_1
        replace p189 := eq_true p189
        replace q189 := eq_true q189
        try go_wp2_with (first | ((with_reducible refine gate_dst (N := 5) rfl ?_); (try (refine gate_guard (by rfl) ?_; dsimp only)); refine bx 5 #[.int .i64 0, .int .i64 0] 82 ?_; intro g0_ hg w87 hbox hb; have B0_ := mk (hbox); have W0_ := gl hg zq; have E0_ := gl hg zq; replace HB := mk (below_step zq hb); clear hb hbox hg; obtain ⟨hcz88_0, hcz88_1⟩ := cc2 B0_.1; obtain ⟨hfz88_0, hfz88_1⟩ := cf2 B0_.1))
        have n0_ : Aside0 (((w87.setCell ⟨g0_, 0, none⟩ (.int .i64 ((rd_T82 l0 x8_1).f0))).setCell ⟨g0_, 1, none⟩ (.int .i64 ((rd_T82 l0 x8_1).f1))).heap[g0_]? = some (.cells #[.int .i64 ((rd_T82 l0 x8_1).f0), .int .i64 ((rd_T82 l0 x8_1).f1)] 82 (0, 0))) := ⟨by (with_reducible repeat (first | refine blk_drewN ?_ _ | refine blk_drew ?_ | refine blk_alloc ?_ _)); refine blk_put (cs := #[.int .i64 ((rd_T82 l0 x8_1).f0), .int .i64 0]) ?_ 1 _ rfl; (with_reducible repeat (first | refine blk_drewN ?_ _ | refine blk_drew ?_ | refine blk_alloc ?_ _)); refine blk_put (cs := #[.int .i64 0, .int .i64 0]) ?_ 0 _ rfl; (with_reducible repeat (first | refine blk_drewN ?_ _ | refine blk_drew ?_ | refine blk_alloc ?_ _)); exact B0_.1⟩
        have n1_ : Aside0 (Below w.heap.size w ((w87.setCell ⟨g0_, 0, none⟩ (.int .i64 ((rd_T82 l0 x8_1).f0))).setCell ⟨g0_, 1, none⟩ (.int .i64 ((rd_T82 l0 x8_1).f1)))) := ⟨by repeat (first | (with_reducible first | exact HB.1 | apply bA | apply pD | apply b1 | apply bS E0_.1) | exact HB.1)⟩
        (try clear B0_)
        (try clear HB)
        (try (repeat rw [sc_drewN]))
        generalize ((w87.setCell ⟨g0_, 0, none⟩ (.int .i64 ((rd_T82 l0 x8_1).f0))).setCell ⟨g0_, 1, none⟩ (.int .i64 ((rd_T82 l0 x8_1).f1))) = w89 at n0_ n1_ ⊢
        have B0_ := n0_
        have HB := n1_
        clear n0_ n1_
        replace B0_ := mk (blk_drew B0_.1)
        replace HB := mk (below_drew1 HB.1)
        refine start_ (n := 46) (S := fun w' => w'.cell? ⟨g0_, 0, none⟩ = some (.int .i64 ((rd_T82 l0 x8_1).f0)) ∧ w'.cell? ⟨g0_, 1, none⟩ = some (.int .i64 ((rd_T82 l0 x8_1).f1))) (ds := []) (bs 46 0) (by kernel_rfl) rfl rfl ⟨bQ B0_.1 0, bQ B0_.1 1⟩ (fun hHeld => ?_); refine with_tabW wire_Table.tab5 wire_Table.bits5 (fun HT_ HW_ => ?_)
        generalize w89.drew = w90 at B0_ HB hHeld ⊢
        refine pt HT_ 0 13 1 ?_
        refine pt HT_ 1 14 3 ?_
        refine pt HT_ 2 15 7 ?_
        refine pt HT_ 3 16 15 ?_
        refine tb HT_ HW_ 4 17 31 hHeld ?_
        refine one_ (i := 5) (N := some 18) (bs 46 63) rfl rfl (one_of HT_.1 (by kernel_rfl)) (by decide) (fun K hK => ?_)
        refine Kd.R_lit_step (Kd.int .i64) _ 3 ?hg (N := 18) ?hd (xs := ([(rd_T82 l0 x8_1).f0] : List Int)) (inner := [.int .i64 ((rd_T82 l0 x8_1).f0)]) (ok := fun _ => True) (okp := fun _ => True) ?hr ?hp (fun _ hk => hk) trivial (Below.refl _ _) (Nat.le_refl _) (by simp) ?_; (case hd => rfl); (case hg => rfl); (case hr => first | (go_simp; done) | (go_simp; rfl)); (case hp => exact (Reps.one (show Kd.M (Kd.int .i64) _ _ _ ((rd_T82 l0 x8_1).f0) [.int .i64 ((rd_T82 l0 x8_1).f0)] from rfl) (Reps.none _ _)))
        intro v192 w91 ho92 hb hg_ hnew_
        clear hg_ hnew_
        (first | rw [← Ny191.1] at ho92 | (simp only [Int.reduceToNat] at ho92; rw [← Ny191.1] at ho92))
        have HO193 := mk (Kd.R_lower ho92 (below_size zq))
        have n1_ := bb hb B0_.1
        have n2_ := mk (below_step zq hb)
        clear B0_ HB
        have B0_ := n1_
        have HB := n2_
        clear n1_ n2_ hb ho92
        obtain ⟨Ao93, co93, eo93⟩ := Kd.R_slice HO193.1
        (first | subst eo93 | (injection eo93 with f1_ f2_ f3_; have f4_ := f1_.symm; have f5_ := f3_.symm; clear f1_ f2_ f3_; subst f4_; subst f5_))
        refine hK.out _ _ ⟨bQ B0_.1 0, bQ B0_.1 1⟩ (fun hHeld => ?_)
        clear hK K
        refine nm 18 ?_
        refine one_ (i := 6) (N := some 19) (bs 46 127) rfl rfl (one_of HT_.1 (by kernel_rfl)) (by decide) (fun K hK => ?_)
        refine goes_ Tryd.func71 (by kernel_rfl) rfl #[.int .i64 0, .int .i64 1099511627776, .slice Ao93 y191.length co93] (by rfl) rfl rfl (by (try simp only [List.map_toArray, List.map_cons, List.map_nil]); first | done | rfl | (simp only [List.length_drop, List.length_take]; rfl)) ?_
        with_reducible refine (wire_in.calls k1 0 1099511627776 _ _ y191 true _ ?side1 ?side2 A10.1).mono ?_
        (case side1 => repeat (first | exact (Kd.R_reads' HO193.1).2.2 | (with_reducible refine Kd.C_alloc ?_ _) | (with_reducible refine Kd.C_drewN ?_ _) | (with_reducible refine Kd.C_drew ?_)))
        (case side2 => exact (Kd.R_reads' HO193.1).2.1)
        rintro e w' ⟨rfl, ⟨nd, rfl⟩⟩
        refine ⟨_, rfl, ?_⟩
        refine hK.out _ _ ⟨bQ B0_.1 0, bQ B0_.1 1⟩ (fun hHeld => ?_)
        clear hK K
        refine nm 19 ?_
        refine pt HT_ 7 20 255 ?_
        refine pt HT_ 8 21 511 ?_
        refine pt HT_ 9 22 1023 ?_
        refine pt HT_ 10 23 2047 ?_
        refine tb HT_ HW_ 11 24 4095 hHeld ?_
        refine one_ (i := 12) (N := some 25) (bs 46 8191) rfl rfl (one_of HT_.1 (by kernel_rfl)) (by decide) (fun K hK => ?_)
        refine Kd.R_lit_step (Kd.int .i64) _ 3 ?hg (N := 25) ?hd (xs := ([(rd_T82 l0 x8_1).f1] : List Int)) (inner := [.int .i64 ((rd_T82 l0 x8_1).f1)]) (ok := fun _ => True) (okp := fun _ => True) ?hr ?hp (fun _ hk => hk) trivial (Below.refl _ _) (Nat.le_refl _) (by simp) ?_; (case hd => rfl); (case hg => rfl); (case hr => first | (go_simp; done) | (go_simp; rfl)); (case hp => exact (Reps.one (show Kd.M (Kd.int .i64) _ _ _ ((rd_T82 l0 x8_1).f1) [.int .i64 ((rd_T82 l0 x8_1).f1)] from rfl) (Reps.none _ _)))
        intro v196 w94 ho95 hb hg_ hnew_
        clear hg_ hnew_
        (first | rw [← Ny195.1] at ho95 | (simp only [Int.reduceToNat] at ho95; rw [← Ny195.1] at ho95))
        have n0_ := mk (Kd.R_elder' (by (with_reducible repeat (first | apply Kd.R_alloc | apply Kd.R_drewN | apply Kd.R_drew)); exact HO193.1) (Kd.R_base ho95) hb)
        have HO197 := mk (Kd.R_lower (Kd.R_new' ho95 (Kd.R_lt (by (with_reducible repeat (first | apply Kd.R_alloc | apply Kd.R_drewN | apply Kd.R_drew)); exact HO193.1))) (below_size zq))
        have n2_ := bb hb B0_.1
        have n3_ := mk (below_step zq hb)
        clear HO193 B0_ HB
        have HO193 := n0_
        have B0_ := n2_
        have HB := n3_
        clear n0_ n2_ n3_ hb ho95
        obtain ⟨Ao96, co96, eo96⟩ := Kd.R_slice HO197.1
        (first | subst eo96 | (injection eo96 with f1_ f2_ f3_; have f4_ := f1_.symm; have f5_ := f3_.symm; clear f1_ f2_ f3_; subst f4_; subst f5_))
        refine hK.out _ _ ⟨bQ B0_.1 0, bQ B0_.1 1⟩ (fun hHeld => ?_)
        clear hK K
        refine nm 25 ?_
        refine one_ (i := 13) (N := some 26) (bs 46 16383) rfl rfl (one_of HT_.1 (by kernel_rfl)) (by decide) (fun K hK => ?_)
        refine goes_ Tryd.func71 (by kernel_rfl) rfl #[.int .i64 (-32), .int .i64 32, .slice Ao96 y195.length co96] (by rfl) rfl rfl (by (try simp only [List.map_toArray, List.map_cons, List.map_nil]); first | done | rfl | (simp only [List.length_drop, List.length_take]; rfl)) ?_
        with_reducible refine (wire_in.calls k1 (-32) 32 _ _ y195 true _ ?side1 ?side2 A12.1).mono ?_
        (case side1 => repeat (first | exact (Kd.R_reads' HO197.1).2.2 | (with_reducible refine Kd.C_alloc ?_ _) | (with_reducible refine Kd.C_drewN ?_ _) | (with_reducible refine Kd.C_drew ?_)))
        (case side2 => exact (Kd.R_reads' HO197.1).2.1)
        rintro e w' ⟨rfl, ⟨nd, rfl⟩⟩
        refine ⟨_, rfl, ?_⟩
        refine hK.out _ _ ⟨bQ B0_.1 0, bQ B0_.1 1⟩ (fun hHeld => ?_)
        clear hK K
        refine nm 26 ?_
        refine pt HT_ 14 27 32767 ?_
        refine pt HT_ 15 28 65535 ?_
        refine pt HT_ 16 29 131071 ?_
        refine pt HT_ 17 30 262143 ?_
        refine pt HT_ 18 31 524287 ?_
        refine pt HT_ 19 32 1048575 ?_
        refine pm HT_ 20 33 2097151 ?_
        refine pm HT_ 21 34 4194303 ?_
        refine pm HT_ 22 35 8388607 ?_
        refine pm HT_ 23 36 16777215 ?_
        refine pm HT_ 24 37 33554431 ?_
        refine pm HT_ 25 38 67108863 ?_
        refine pm HT_ 26 39 134217727 ?_
        refine pm HT_ 27 40 268435455 ?_
        refine pm HT_ 28 41 536870911 ?_
        refine pm HT_ 29 42 1073741823 ?_
        refine pt HT_ 30 43 2147483647 ?_
        refine pt HT_ 31 44 4294967295 ?_
        refine pt HT_ 32 45 8589934591 ?_
        refine pt HT_ 33 46 17179869183 ?_
        refine pt HT_ 35 48 51539607551 ?_
        refine tb HT_ HW_ 34 47 68719476735 hHeld ?_
        refine pt HT_ 36 49 137438953471 ?_
        refine pt HT_ 37 50 274877906943 ?_
        refine pt HT_ 38 51 549755813887 ?_
        refine pt HT_ 39 52 1099511627775 ?_
        refine pt HT_ 41 54 3298534883327 ?_
        refine tb HT_ HW_ 40 53 4398046511103 hHeld ?_
        refine pt HT_ 42 55 8796093022207 ?_
        refine pt HT_ 43 56 17592186044415 ?_
        refine pt HT_ 44 57 35184372088831 ?_
        refine pt HT_ 45 58 70368744177663 ?_
        refine done_ (done_of HT_.1 (by kernel_rfl)) ?_
        try go_wp2
        go_ret
        exact ⟨by first | rfl | (simp [errW_none, errW_some] <;> rfl) | (simp [*, errW_none, errW_some] <;> rfl), by repeat (first | (with_reducible first | exact HB.1 | apply bA | apply pD | apply b1 | apply bS E0_.1) | exact HB.1)⟩
       replace c13 := Bool.eq_false_iff.mpr c13
       subst c13
       have H1 : (some false) = some r := by rw [if_neg (show ¬ (false = true) by decide)] at H; exact H
       clear H
       have H := H1
       clear H1
       obtain rfl := Option.some.inj H
       have p189 : 0 ≤ (x8_1 : Int) := of_decide_eq_true (by first | (with_reducible assumption) | assumption)
       have q189 : x8_1 < (l0.length : Int) := of_decide_eq_true (by first | (with_reducible assumption) | assumption)
       obtain ⟨ad189, e189, hx189_0, hx189_1⟩ := at_T82 HR0.1 x8_1 p189 q189
       cases e189
       replace hx189_0 := (HB.1.cell (World.block_lt_of_cell? w _ hx189_0)).trans hx189_0
       replace hx189_1 := (HB.1.cell (World.block_lt_of_cell? w _ hx189_1)).trans hx189_1
       replace p189 := eq_true p189
       replace q189 := eq_true q189
       try go_wp2_with (first | ((with_reducible refine gate_dst (N := 5) rfl ?_); (try (refine gate_guard (by rfl) ?_; dsimp only)); refine bx 5 #[.int .i64 0, .int .i64 0] 82 ?_; intro g0_ hg w97 hbox hb; have B0_ := mk (hbox); have W0_ := gl hg zq; have E0_ := gl hg zq; replace HB := mk (below_step zq hb); clear hb hbox hg; obtain ⟨hcz98_0, hcz98_1⟩ := cc2 B0_.1; obtain ⟨hfz98_0, hfz98_1⟩ := cf2 B0_.1))
       have n0_ : Aside0 (((w97.setCell ⟨g0_, 0, none⟩ (.int .i64 ((rd_T82 l0 x8_1).f0))).setCell ⟨g0_, 1, none⟩ (.int .i64 ((rd_T82 l0 x8_1).f1))).heap[g0_]? = some (.cells #[.int .i64 ((rd_T82 l0 x8_1).f0), .int .i64 ((rd_T82 l0 x8_1).f1)] 82 (0, 0))) := ⟨by (with_reducible repeat (first | refine blk_drewN ?_ _ | refine blk_drew ?_ | refine blk_alloc ?_ _)); refine blk_put (cs := #[.int .i64 ((rd_T82 l0 x8_1).f0), .int .i64 0]) ?_ 1 _ rfl; (with_reducible repeat (first | refine blk_drewN ?_ _ | refine blk_drew ?_ | refine blk_alloc ?_ _)); refine blk_put (cs := #[.int .i64 0, .int .i64 0]) ?_ 0 _ rfl; (with_reducible repeat (first | refine blk_drewN ?_ _ | refine blk_drew ?_ | refine blk_alloc ?_ _)); exact B0_.1⟩
       have n1_ : Aside0 (Below w.heap.size w ((w97.setCell ⟨g0_, 0, none⟩ (.int .i64 ((rd_T82 l0 x8_1).f0))).setCell ⟨g0_, 1, none⟩ (.int .i64 ((rd_T82 l0 x8_1).f1)))) := ⟨by repeat (first | (with_reducible first | exact HB.1 | apply bA | apply pD | apply b1 | apply bS E0_.1) | exact HB.1)⟩
       (try clear B0_)
       (try clear HB)
       (try (repeat rw [sc_drewN]))
       generalize ((w97.setCell ⟨g0_, 0, none⟩ (.int .i64 ((rd_T82 l0 x8_1).f0))).setCell ⟨g0_, 1, none⟩ (.int .i64 ((rd_T82 l0 x8_1).f1))) = w99 at n0_ n1_ ⊢
       have B0_ := n0_
       have HB := n1_
       clear n0_ n1_
       replace B0_ := mk (blk_drew B0_.1)
       replace HB := mk (below_drew1 HB.1)
       refine start_ (n := 46) (S := fun w' => w'.cell? ⟨g0_, 0, none⟩ = some (.int .i64 ((rd_T82 l0 x8_1).f0)) ∧ w'.cell? ⟨g0_, 1, none⟩ = some (.int .i64 ((rd_T82 l0 x8_1).f1))) (ds := []) (bs 46 0) (by kernel_rfl) rfl rfl ⟨bQ B0_.1 0, bQ B0_.1 1⟩ (fun hHeld => ?_); refine with_tabW wire_Table.tab5 wire_Table.bits5 (fun HT_ HW_ => ?_)
       generalize w99.drew = w100 at B0_ HB hHeld ⊢
       refine pt HT_ 0 13 1 ?_
       refine pt HT_ 1 14 3 ?_
       refine pt HT_ 2 15 7 ?_
       refine pt HT_ 3 16 15 ?_
       refine tb HT_ HW_ 4 17 31 hHeld ?_
       refine one_ (i := 5) (N := some 18) (bs 46 63) rfl rfl (one_of HT_.1 (by kernel_rfl)) (by decide) (fun K hK => ?_)
       refine Kd.R_lit_step (Kd.int .i64) _ 3 ?hg (N := 18) ?hd (xs := ([(rd_T82 l0 x8_1).f0] : List Int)) (inner := [.int .i64 ((rd_T82 l0 x8_1).f0)]) (ok := fun _ => True) (okp := fun _ => True) ?hr ?hp (fun _ hk => hk) trivial (Below.refl _ _) (Nat.le_refl _) (by simp) ?_; (case hd => rfl); (case hg => rfl); (case hr => first | (go_simp; done) | (go_simp; rfl)); (case hp => exact (Reps.one (show Kd.M (Kd.int .i64) _ _ _ ((rd_T82 l0 x8_1).f0) [.int .i64 ((rd_T82 l0 x8_1).f0)] from rfl) (Reps.none _ _)))
       intro v192 w101 ho102 hb hg_ hnew_
       clear hg_ hnew_
       (first | rw [← Ny191.1] at ho102 | (simp only [Int.reduceToNat] at ho102; rw [← Ny191.1] at ho102))
       have HO193 := mk (Kd.R_lower ho102 (below_size zq))
       have n1_ := bb hb B0_.1
       have n2_ := mk (below_step zq hb)
       clear B0_ HB
       have B0_ := n1_
       have HB := n2_
       clear n1_ n2_ hb ho102
       obtain ⟨Ao103, co103, eo103⟩ := Kd.R_slice HO193.1
       (first | subst eo103 | (injection eo103 with f1_ f2_ f3_; have f4_ := f1_.symm; have f5_ := f3_.symm; clear f1_ f2_ f3_; subst f4_; subst f5_))
       refine hK.out _ _ ⟨bQ B0_.1 0, bQ B0_.1 1⟩ (fun hHeld => ?_)
       clear hK K
       refine nm 18 ?_
       refine one_ (i := 6) (N := some 19) (bs 46 127) rfl rfl (one_of HT_.1 (by kernel_rfl)) (by decide) (fun K hK => ?_)
       refine goes_ Tryd.func71 (by kernel_rfl) rfl #[.int .i64 0, .int .i64 1099511627776, .slice Ao103 y191.length co103] (by rfl) rfl rfl (by (try simp only [List.map_toArray, List.map_cons, List.map_nil]); first | done | rfl | (simp only [List.length_drop, List.length_take]; rfl)) ?_
       with_reducible refine (wire_in.calls k1 0 1099511627776 _ _ y191 true _ ?side1 ?side2 A10.1).mono ?_
       (case side1 => repeat (first | exact (Kd.R_reads' HO193.1).2.2 | (with_reducible refine Kd.C_alloc ?_ _) | (with_reducible refine Kd.C_drewN ?_ _) | (with_reducible refine Kd.C_drew ?_)))
       (case side2 => exact (Kd.R_reads' HO193.1).2.1)
       rintro e w' ⟨rfl, ⟨nd, rfl⟩⟩
       refine ⟨_, rfl, ?_⟩
       refine hK.out _ _ ⟨bQ B0_.1 0, bQ B0_.1 1⟩ (fun hHeld => ?_)
       clear hK K
       refine nm 19 ?_
       refine pt HT_ 7 20 255 ?_
       refine pt HT_ 8 21 511 ?_
       refine pt HT_ 9 22 1023 ?_
       refine pt HT_ 10 23 2047 ?_
       refine tb HT_ HW_ 11 24 4095 hHeld ?_
       refine one_ (i := 12) (N := some 25) (bs 46 8191) rfl rfl (one_of HT_.1 (by kernel_rfl)) (by decide) (fun K hK => ?_)
       refine Kd.R_lit_step (Kd.int .i64) _ 3 ?hg (N := 25) ?hd (xs := ([(rd_T82 l0 x8_1).f1] : List Int)) (inner := [.int .i64 ((rd_T82 l0 x8_1).f1)]) (ok := fun _ => True) (okp := fun _ => True) ?hr ?hp (fun _ hk => hk) trivial (Below.refl _ _) (Nat.le_refl _) (by simp) ?_; (case hd => rfl); (case hg => rfl); (case hr => first | (go_simp; done) | (go_simp; rfl)); (case hp => exact (Reps.one (show Kd.M (Kd.int .i64) _ _ _ ((rd_T82 l0 x8_1).f1) [.int .i64 ((rd_T82 l0 x8_1).f1)] from rfl) (Reps.none _ _)))
       intro v196 w104 ho105 hb hg_ hnew_
       clear hg_ hnew_
       (first | rw [← Ny195.1] at ho105 | (simp only [Int.reduceToNat] at ho105; rw [← Ny195.1] at ho105))
       have n0_ := mk (Kd.R_elder' (by (with_reducible repeat (first | apply Kd.R_alloc | apply Kd.R_drewN | apply Kd.R_drew)); exact HO193.1) (Kd.R_base ho105) hb)
       have HO197 := mk (Kd.R_lower (Kd.R_new' ho105 (Kd.R_lt (by (with_reducible repeat (first | apply Kd.R_alloc | apply Kd.R_drewN | apply Kd.R_drew)); exact HO193.1))) (below_size zq))
       have n2_ := bb hb B0_.1
       have n3_ := mk (below_step zq hb)
       clear HO193 B0_ HB
       have HO193 := n0_
       have B0_ := n2_
       have HB := n3_
       clear n0_ n2_ n3_ hb ho105
       obtain ⟨Ao106, co106, eo106⟩ := Kd.R_slice HO197.1
       (first | subst eo106 | (injection eo106 with f1_ f2_ f3_; have f4_ := f1_.symm; have f5_ := f3_.symm; clear f1_ f2_ f3_; subst f4_; subst f5_))
       refine hK.out _ _ ⟨bQ B0_.1 0, bQ B0_.1 1⟩ (fun hHeld => ?_)
       clear hK K
       refine nm 25 ?_
       refine one_ (i := 13) (N := some 26) (bs 46 16383) rfl rfl (one_of HT_.1 (by kernel_rfl)) (by decide) (fun K hK => ?_)
       refine goes_ Tryd.func71 (by kernel_rfl) rfl #[.int .i64 (-32), .int .i64 32, .slice Ao106 y195.length co106] (by rfl) rfl rfl (by (try simp only [List.map_toArray, List.map_cons, List.map_nil]); first | done | rfl | (simp only [List.length_drop, List.length_take]; rfl)) ?_
       with_reducible refine (wire_in.calls k1 (-32) 32 _ _ y195 false _ ?side1 ?side2 A12.1).mono ?_
       (case side1 => repeat (first | exact (Kd.R_reads' HO197.1).2.2 | (with_reducible refine Kd.C_alloc ?_ _) | (with_reducible refine Kd.C_drewN ?_ _) | (with_reducible refine Kd.C_drew ?_)))
       (case side2 => exact (Kd.R_reads' HO197.1).2.1)
       rintro e w' ⟨rfl, ⟨nd, rfl⟩⟩
       refine ⟨_, rfl, ?_⟩
       refine hK.out _ _ ⟨bQ B0_.1 0, bQ B0_.1 1⟩ (fun hHeld => ?_)
       clear hK K
       refine nm 26 ?_
       refine pt HT_ 14 27 32767 ?_
       refine pt HT_ 15 28 65535 ?_
       refine pt HT_ 16 29 131071 ?_
       refine pm HT_ 17 30 262143 ?_
       refine pm HT_ 18 31 524287 ?_
       refine pm HT_ 19 32 1048575 ?_
       refine pm HT_ 20 33 2097151 ?_
       refine pm HT_ 21 34 4194303 ?_
       refine pm HT_ 22 35 8388607 ?_
       refine pm HT_ 23 36 16777215 ?_
       refine pm HT_ 24 37 33554431 ?_
       refine pm HT_ 25 38 67108863 ?_
       refine pm HT_ 26 39 134217727 ?_
       refine pm HT_ 27 40 268435455 ?_
       refine pm HT_ 28 41 536870911 ?_
       refine pm HT_ 29 42 1073741823 ?_
       refine pm HT_ 30 43 2147483647 ?_
       refine pt HT_ 31 44 4294967295 ?_
       refine pt HT_ 32 45 8589934591 ?_
       refine pm HT_ 33 46 17179869183 ?_
       refine pm HT_ 34 47 34359738367 ?_
       refine pm HT_ 35 48 68719476735 ?_
       refine pm HT_ 36 49 137438953471 ?_
       refine pm HT_ 37 50 274877906943 ?_
       refine pm HT_ 38 51 549755813887 ?_
       refine pm HT_ 39 52 1099511627775 ?_
       refine pm HT_ 40 53 2199023255551 ?_
       refine pm HT_ 41 54 4398046511103 ?_
       refine pm HT_ 42 55 8796093022207 ?_
       refine pm HT_ 43 56 17592186044415 ?_
       refine pm HT_ 44 57 35184372088831 ?_
       refine pt HT_ 45 58 70368744177663 ?_
       refine done_ (done_of HT_.1 (by kernel_rfl)) ?_
       try go_wp2
       go_ret
       exact ⟨by first | rfl | (simp [errW_none, errW_some] <;> rfl) | (simp [*, errW_none, errW_some] <;> rfl), by repeat (first | (with_reducible first | exact HB.1 | apply bA | apply pD | apply b1 | apply bS E0_.1) | exact HB.1)⟩
      replace c11 := Bool.eq_false_iff.mpr c11
      subst c11
      have H1 : (some false) = some r := by rw [if_neg (show ¬ (false = true) by decide)] at H; exact H
      clear H
      have H := H1
      clear H1
      obtain rfl := Option.some.inj H
      have p189 : 0 ≤ (x8_1 : Int) := of_decide_eq_true (by first | (with_reducible assumption) | assumption)
      have q189 : x8_1 < (l0.length : Int) := of_decide_eq_true (by first | (with_reducible assumption) | assumption)
      obtain ⟨ad189, e189, hx189_0, hx189_1⟩ := at_T82 HR0.1 x8_1 p189 q189
      cases e189
      replace hx189_0 := (HB.1.cell (World.block_lt_of_cell? w _ hx189_0)).trans hx189_0
      replace hx189_1 := (HB.1.cell (World.block_lt_of_cell? w _ hx189_1)).trans hx189_1
      replace p189 := eq_true p189
      replace q189 := eq_true q189
      try go_wp2_with (first | ((with_reducible refine gate_dst (N := 5) rfl ?_); (try (refine gate_guard (by rfl) ?_; dsimp only)); refine bx 5 #[.int .i64 0, .int .i64 0] 82 ?_; intro g0_ hg w107 hbox hb; have B0_ := mk (hbox); have W0_ := gl hg zq; have E0_ := gl hg zq; replace HB := mk (below_step zq hb); clear hb hbox hg; obtain ⟨hcz108_0, hcz108_1⟩ := cc2 B0_.1; obtain ⟨hfz108_0, hfz108_1⟩ := cf2 B0_.1))
      have n0_ : Aside0 (((w107.setCell ⟨g0_, 0, none⟩ (.int .i64 ((rd_T82 l0 x8_1).f0))).setCell ⟨g0_, 1, none⟩ (.int .i64 ((rd_T82 l0 x8_1).f1))).heap[g0_]? = some (.cells #[.int .i64 ((rd_T82 l0 x8_1).f0), .int .i64 ((rd_T82 l0 x8_1).f1)] 82 (0, 0))) := ⟨by (with_reducible repeat (first | refine blk_drewN ?_ _ | refine blk_drew ?_ | refine blk_alloc ?_ _)); refine blk_put (cs := #[.int .i64 ((rd_T82 l0 x8_1).f0), .int .i64 0]) ?_ 1 _ rfl; (with_reducible repeat (first | refine blk_drewN ?_ _ | refine blk_drew ?_ | refine blk_alloc ?_ _)); refine blk_put (cs := #[.int .i64 0, .int .i64 0]) ?_ 0 _ rfl; (with_reducible repeat (first | refine blk_drewN ?_ _ | refine blk_drew ?_ | refine blk_alloc ?_ _)); exact B0_.1⟩
      have n1_ : Aside0 (Below w.heap.size w ((w107.setCell ⟨g0_, 0, none⟩ (.int .i64 ((rd_T82 l0 x8_1).f0))).setCell ⟨g0_, 1, none⟩ (.int .i64 ((rd_T82 l0 x8_1).f1)))) := ⟨by repeat (first | (with_reducible first | exact HB.1 | apply bA | apply pD | apply b1 | apply bS E0_.1) | exact HB.1)⟩
      (try clear B0_)
      (try clear HB)
      (try (repeat rw [sc_drewN]))
      generalize ((w107.setCell ⟨g0_, 0, none⟩ (.int .i64 ((rd_T82 l0 x8_1).f0))).setCell ⟨g0_, 1, none⟩ (.int .i64 ((rd_T82 l0 x8_1).f1))) = w109 at n0_ n1_ ⊢
      have B0_ := n0_
      have HB := n1_
      clear n0_ n1_
      replace B0_ := mk (blk_drew B0_.1)
      replace HB := mk (below_drew1 HB.1)
      refine start_ (n := 46) (S := fun w' => w'.cell? ⟨g0_, 0, none⟩ = some (.int .i64 ((rd_T82 l0 x8_1).f0))) (ds := []) (bs 46 0) (by kernel_rfl) rfl rfl (bQ B0_.1 0) (fun hHeld => ?_); refine with_tabW wire_Table.tab5 wire_Table.bits5 (fun HT_ HW_ => ?_)
      generalize w109.drew = w110 at B0_ HB hHeld ⊢
      refine pt HT_ 0 13 1 ?_
      refine pt HT_ 1 14 3 ?_
      refine pt HT_ 2 15 7 ?_
      refine pt HT_ 3 16 15 ?_
      refine take_ (i := 4) (N := some 17) (v := ?_) (a' := ?_) (bs 46 31) rfl rfl (take_ofW HT_.1 HW_.1 (by kernel_rfl)) (fun _ _ _ h => h) (Or.inl ⟨by rfl, ?_⟩) hHeld ?_ ?_
      rotate_left
      ·intro w' s0
       go_simp
       with_reducible rfl
      rotate_left
      ·simp only [Act.put, zA, zB, zC, i64_w, i32_w]
       rfl
      refine one_ (i := 5) (N := some 18) (bs 46 63) rfl rfl (one_of HT_.1 (by kernel_rfl)) (by decide) (fun K hK => ?_)
      refine Kd.R_lit_step (Kd.int .i64) _ 3 ?hg (N := 18) ?hd (xs := ([(rd_T82 l0 x8_1).f0] : List Int)) (inner := [.int .i64 ((rd_T82 l0 x8_1).f0)]) (ok := fun _ => True) (okp := fun _ => True) ?hr ?hp (fun _ hk => hk) trivial (Below.refl _ _) (Nat.le_refl _) (by simp) ?_; (case hd => rfl); (case hg => rfl); (case hr => first | (go_simp; done) | (go_simp; rfl)); (case hp => exact (Reps.one (show Kd.M (Kd.int .i64) _ _ _ ((rd_T82 l0 x8_1).f0) [.int .i64 ((rd_T82 l0 x8_1).f0)] from rfl) (Reps.none _ _)))
      intro v192 w111 ho112 hb hg_ hnew_
      clear hg_ hnew_
      (first | rw [← Ny191.1] at ho112 | (simp only [Int.reduceToNat] at ho112; rw [← Ny191.1] at ho112))
      have HO193 := mk (Kd.R_lower ho112 (below_size zq))
      have n1_ := bb hb B0_.1
      have n2_ := mk (below_step zq hb)
      clear B0_ HB
      have B0_ := n1_
      have HB := n2_
      clear n1_ n2_ hb ho112
      obtain ⟨Ao113, co113, eo113⟩ := Kd.R_slice HO193.1
      (first | subst eo113 | (injection eo113 with f1_ f2_ f3_; have f4_ := f1_.symm; have f5_ := f3_.symm; clear f1_ f2_ f3_; subst f4_; subst f5_))
      refine hK.out _ _ (bQ B0_.1 0) (fun hHeld => ?_)
      clear hK K
      refine nm 18 ?_
      refine one_ (i := 6) (N := some 19) (bs 46 127) rfl rfl (one_of HT_.1 (by kernel_rfl)) (by decide) (fun K hK => ?_)
      refine goes_ Tryd.func71 (by kernel_rfl) rfl #[.int .i64 0, .int .i64 1099511627776, .slice Ao113 y191.length co113] (by rfl) rfl rfl (by (try simp only [List.map_toArray, List.map_cons, List.map_nil]); first | done | rfl | (simp only [List.length_drop, List.length_take]; rfl)) ?_
      with_reducible refine (wire_in.calls k1 0 1099511627776 _ _ y191 false _ ?side1 ?side2 A10.1).mono ?_
      (case side1 => repeat (first | exact (Kd.R_reads' HO193.1).2.2 | (with_reducible refine Kd.C_alloc ?_ _) | (with_reducible refine Kd.C_drewN ?_ _) | (with_reducible refine Kd.C_drew ?_)))
      (case side2 => exact (Kd.R_reads' HO193.1).2.1)
      rintro e w' ⟨rfl, ⟨nd, rfl⟩⟩
      refine ⟨_, rfl, ?_⟩
      refine hK.out _ _ (bQ B0_.1 0) (fun hHeld => ?_)
      clear hK K
      refine nm 19 ?_
      refine pt HT_ 7 20 255 ?_
      refine pt HT_ 8 21 511 ?_
      refine pt HT_ 9 22 1023 ?_
      refine pm HT_ 10 23 2047 ?_
      refine pm HT_ 11 24 4095 ?_
      refine pm HT_ 12 25 8191 ?_
      refine pm HT_ 13 26 16383 ?_
      refine pm HT_ 14 27 32767 ?_
      refine pt HT_ 15 28 65535 ?_
      refine pt HT_ 16 29 131071 ?_
      refine pm HT_ 17 30 262143 ?_
      refine pm HT_ 18 31 524287 ?_
      refine pm HT_ 19 32 1048575 ?_
      refine pm HT_ 20 33 2097151 ?_
      refine pm HT_ 21 34 4194303 ?_
      refine pm HT_ 22 35 8388607 ?_
      refine pm HT_ 23 36 16777215 ?_
      refine pm HT_ 24 37 33554431 ?_
      refine pm HT_ 25 38 67108863 ?_
      refine pm HT_ 26 39 134217727 ?_
      refine pm HT_ 27 40 268435455 ?_
      refine pm HT_ 28 41 536870911 ?_
      refine pm HT_ 29 42 1073741823 ?_
      refine pm HT_ 30 43 2147483647 ?_
      refine pt HT_ 31 44 4294967295 ?_
      refine pt HT_ 32 45 8589934591 ?_
      refine pm HT_ 33 46 17179869183 ?_
      refine pm HT_ 34 47 34359738367 ?_
      refine pm HT_ 35 48 68719476735 ?_
      refine pm HT_ 36 49 137438953471 ?_
      refine pm HT_ 37 50 274877906943 ?_
      refine pm HT_ 38 51 549755813887 ?_
      refine pm HT_ 39 52 1099511627775 ?_
      refine pm HT_ 40 53 2199023255551 ?_
      refine pm HT_ 41 54 4398046511103 ?_
      refine pm HT_ 42 55 8796093022207 ?_
      refine pm HT_ 43 56 17592186044415 ?_
      refine pm HT_ 44 57 35184372088831 ?_
      refine pt HT_ 45 58 70368744177663 ?_
      refine done_ (done_of HT_.1 (by kernel_rfl)) ?_
      try go_wp2
      go_ret
      exact ⟨by first | rfl | (simp [errW_none, errW_some] <;> rfl) | (simp [*, errW_none, errW_some] <;> rfl), by repeat (first | (with_reducible first | exact HB.1 | apply bA | apply pD | apply b1 | apply bS E0_.1) | exact HB.1)⟩
     rw [if_neg c4] at H
     exact absurd H (by simp)
    rw [if_neg c3] at H
    exact absurd H (by simp)
   rw [if_neg c2] at H
   have c2b0 : decide (x8_1 < (l0.length : Int)) = false := decide_eq_false c2
   clear c2
   obtain rfl := Option.some.inj H
   go_wp2
   go_ret
   exact ⟨by first | rfl | (simp [errW_none, errW_some] <;> rfl) | (simp [*, errW_none, errW_some] <;> rfl), by repeat (first | (with_reducible first | exact HB.1 | apply bA | apply pD | apply b1) | exact HB.1)⟩

end Go.Proofs.YtigkjbaclpklpaaDoor.Q
