/- The calls of these Go functions answer what the Lean functions beside them answer; written by a program (wip/pr2.py, out of the print of the loaded program); under no condition but those that stand in the theorems. -/
import Derived.Test.YtigkjbaclpklpaaDoorQx0
namespace Go.Proofs.YtigkjbaclpklpaaDoor.Q
open Go.RowKit Go.Proofs.YtigkjbaclpklpaaDoorW.PrintWords Go.Proofs.YtigkjbaclpklpaaDoorW.PrintLast Go.Proofs.YtigkjbaclpklpaaDoorW.PrintMore
attribute [local go_sem] max2_int min2_int max_two min_two max_three min_three max_four min_four   -- for this text's walks alone
set_option linter.unusedVariables false
set_option linter.unusedSimpArgs false

/-! ### health_Of: function 26 -/
def health_Of.j0 : Nat → Bool → Int → Int → Int → Int → Int → Int → Int → Int → Int → Int → Int → Int → Int → Int → Int → Bool → Int → Int → Bool → List (S82) → Int → Int → Int → Option (Int)
 | 0, _, _, _, _, _, _, _, _, _, _, _, _, _, _, _, _, _, _, _, _, _, _, _, _ => none
 | k + 1, x5, x102000, x102001, x102002, x102003, x102004, x102005, x102006, x102007, x102008, x102009, x102010, x102011, x103000, x103001, x103002, x103003, x103004, x103005, x103006, x103007, x103008, x103009, x103010 => if x5 = true then (some 0) else (if x103004 > x102009 then (some 2) else (some 1))
def health_Of.f (k : Nat) (a0_0 : Int) (a0_1 : Int) (a0_2 : Int) (a0_3 : Int) (a0_4 : Int) (a0_5 : Int) (a0_6 : Int) (a0_7 : Int) (a0_8 : Int) (a0_9 : Int) (a0_10 : Int) (a0_11 : Int) (a1_0 : Int) (a1_1 : Int) (a1_2 : Int) (a1_3 : Bool) (a1_4 : Int) (a1_5 : Int) (a1_6 : Bool) (l1_7 : List (S82)) (a1_8 : Int) (a1_9 : Int) (a1_10 : Int) : Option (Int) := if a1_6 = true then (if a1_3 = true then (health_Of.j0 k (decide (a1_5 > a0_2)) a0_0 a0_1 a0_2 a0_3 a0_4 a0_5 a0_6 a0_7 a0_8 a0_9 a0_10 a0_11 a1_0 a1_1 a1_2 a1_3 a1_4 a1_5 a1_6 l1_7 a1_8 a1_9 a1_10) else (health_Of.j0 k true a0_0 a0_1 a0_2 a0_3 a0_4 a0_5 a0_6 a0_7 a0_8 a0_9 a0_10 a0_11 a1_0 a1_1 a1_2 a1_3 a1_4 a1_5 a1_6 l1_7 a1_8 a1_9 a1_10)) else (health_Of.j0 k true a0_0 a0_1 a0_2 a0_3 a0_4 a0_5 a0_6 a0_7 a0_8 a0_9 a0_10 a0_11 a1_0 a1_1 a1_2 a1_3 a1_4 a1_5 a1_6 l1_7 a1_8 a1_9 a1_10)
theorem health_Of.mono_l : ∀ k, (∀ y0 y1 y2 y3 y4 y5 y6 y7 y8 y9 y10 y11 y12 y13 y14 y15 y16 y17 y18 y19 y20 y21 y22 y23, LeO (health_Of.j0 k y0 y1 y2 y3 y4 y5 y6 y7 y8 y9 y10 y11 y12 y13 y14 y15 y16 y17 y18 y19 y20 y21 y22 y23) (health_Of.j0 (k + 1) y0 y1 y2 y3 y4 y5 y6 y7 y8 y9 y10 y11 y12 y13 y14 y15 y16 y17 y18 y19 y20 y21 y22 y23))
 | 0 => fun _ _ _ _ _ _ _ _ _ _ _ _ _ _ _ _ _ _ _ _ _ _ _ _ r h => by simp [health_Of.j0] at h
 | k + 1 => by
  have ih0 := health_Of.mono_l k
  intro y0 y1 y2 y3 y4 y5 y6 y7 y8 y9 y10 y11 y12 y13 y14 y15 y16 y17 y18 y19 y20 y21 y22 y23
  unfold health_Of.j0
  repeat' first
  | (with_reducible exact ih0 _ _ _ _ _ _ _ _ _ _ _ _ _ _ _ _ _ _ _ _ _ _ _ _)
  | (with_reducible exact LeO.refl _)
  | (with_reducible exact LeO.none _)
  | (with_reducible refine LeO.ite ?_ ?_)
  | (with_reducible refine LeO.bind ?_ (fun _ => ?_))
  | exact ih0 _ _ _ _ _ _ _ _ _ _ _ _ _ _ _ _ _ _ _ _ _ _ _ _
  | exact LeO.none _
  | refine LeO.ite ?_ ?_
  | refine LeO.bind ?_ (fun _ => ?_)
theorem health_Of.mono : ∀ a0 a1 a2 a3 a4 a5 a6 a7 a8 a9 a10 a11 a12 a13 a14 a15 a16 a17 a18 a19 a20 a21 a22 k, LeO (health_Of.f k a0 a1 a2 a3 a4 a5 a6 a7 a8 a9 a10 a11 a12 a13 a14 a15 a16 a17 a18 a19 a20 a21 a22) (health_Of.f (k + 1) a0 a1 a2 a3 a4 a5 a6 a7 a8 a9 a10 a11 a12 a13 a14 a15 a16 a17 a18 a19 a20 a21 a22) := by
 intro a0 a1 a2 a3 a4 a5 a6 a7 a8 a9 a10 a11 a12 a13 a14 a15 a16 a17 a18 a19 a20 a21 a22 k
 have ih0 := health_Of.mono_l k
 unfold health_Of.f
 repeat' first
   | (with_reducible exact ih0 _ _ _ _ _ _ _ _ _ _ _ _ _ _ _ _ _ _ _ _ _ _ _ _)
   | (with_reducible exact LeO.refl _)
   | (with_reducible exact LeO.none _)
   | (with_reducible refine LeO.ite ?_ ?_)
   | (with_reducible refine LeO.bind ?_ (fun _ => ?_))
   | exact ih0 _ _ _ _ _ _ _ _ _ _ _ _ _ _ _ _ _ _ _ _ _ _ _ _
   | exact LeO.none _
   | refine LeO.ite ?_ ?_
   | refine LeO.bind ?_ (fun _ => ?_)
set_option maxHeartbeats 8000000 in
set_option maxRecDepth 100000 in
theorem health_Of.calls (k : Nat) (a0_0 : Int) (a0_1 : Int) (a0_2 : Int) (a0_3 : Int) (a0_4 : Int) (a0_5 : Int) (a0_6 : Int) (a0_7 : Int) (a0_8 : Int) (a0_9 : Int) (a0_10 : Int) (a0_11 : Int) (a1_0 : Int) (a1_1 : Int) (a1_2 : Int) (a1_3 : Bool) (a1_4 : Int) (a1_5 : Int) (a1_6 : Bool) (A1_7 : Option Addr) (c1_7 : Nat) (l1_7 : List (S82)) (a1_8 : Int) (a1_9 : Int) (a1_10 : Int) (r : Int) (w : World) (hr1_7 : Kd.C k82 w A1_7 l1_7.length l1_7) (hc1_7 : l1_7.length ≤ c1_7) (h : health_Of.f k a0_0 a0_1 a0_2 a0_3 a0_4 a0_5 a0_6 a0_7 a0_8 a0_9 a0_10 a0_11 a1_0 a1_1 a1_2 a1_3 a1_4 a1_5 a1_6 l1_7 a1_8 a1_9 a1_10 = some r) :
  Calls Tryd.prog 26 #[.agg #[.int .i64 a0_0, .int .i64 a0_1, .int .i64 a0_2, .int .i64 a0_3, .int .i64 a0_4, .int .i64 a0_5, .int .i64 a0_6, .int .i64 a0_7, .int .i64 a0_8, .int .i64 a0_9, .int .i64 a0_10, .int .i64 a0_11], .agg #[.int .i64 a1_0, .int .i64 a1_1, .int .i64 a1_2, .bool a1_3, .int .i64 a1_4, .int .i64 a1_5, .bool a1_6, .slice A1_7 l1_7.length c1_7, .int .i64 a1_8, .int .i64 a1_9, .int .i64 a1_10]] w fun e w' => e = .returned (.int .i64 r) ∧ Below w.heap.size w w' := by
 have hu23 := Tryd.underlying23
 have hu30 := Tryd.underlying30
 have HR1_7 := mk hr1_7
 have HC1_7 := mk hc1_7
 clear hr1_7 hc1_7
 have HB := mk (Below.refl w.heap.size w)
 have H : (if a1_6 = true then (if a1_3 = true then (health_Of.j0 k (decide (a1_5 > a0_2)) a0_0 a0_1 a0_2 a0_3 a0_4 a0_5 a0_6 a0_7 a0_8 a0_9 a0_10 a0_11 a1_0 a1_1 a1_2 a1_3 a1_4 a1_5 a1_6 l1_7 a1_8 a1_9 a1_10) else (health_Of.j0 k true a0_0 a0_1 a0_2 a0_3 a0_4 a0_5 a0_6 a0_7 a0_8 a0_9 a0_10 a0_11 a1_0 a1_1 a1_2 a1_3 a1_4 a1_5 a1_6 l1_7 a1_8 a1_9 a1_10)) else (health_Of.j0 k true a0_0 a0_1 a0_2 a0_3 a0_4 a0_5 a0_6 a0_7 a0_8 a0_9 a0_10 a0_11 a1_0 a1_1 a1_2 a1_3 a1_4 a1_5 a1_6 l1_7 a1_8 a1_9 a1_10)) = some r := h
 clear h
 have HC3 := mk H
 clear H
 go_enter Tryd.func26, Tryd.ntmps26
 go_upto_region 1 with (first | ((with_reducible refine gate_dst (N := 2) rfl ?_); refine bx 2 #[.int .i64 a0_0, .int .i64 a0_1, .int .i64 a0_2, .int .i64 a0_3, .int .i64 a0_4, .int .i64 a0_5, .int .i64 a0_6, .int .i64 a0_7, .int .i64 a0_8, .int .i64 a0_9, .int .i64 a0_10, .int .i64 a0_11] 23 ?_; intro g0_ hg w4 hbox hb; have B0_ := mk (hbox); have W0_ := gl hg zq; have E0_ := gl hg zq; replace HB := mk (below_step zq hb); clear hb hbox hg) | ((with_reducible refine gate_dst (N := 3) rfl ?_); refine bx 3 #[.int .i64 a1_0, .int .i64 a1_1, .int .i64 a1_2, .bool a1_3, .int .i64 a1_4, .int .i64 a1_5, .bool a1_6, .slice A1_7 l1_7.length c1_7, .int .i64 a1_8, .int .i64 a1_9, .int .i64 a1_10] 30 ?_; intro g1_ hg w5 hbox hb; have B1_ := mk (hbox); have W1_ := gl hg zq; have E1_ := gl hg zq; replace HB := mk (below_step zq hb); have N01_ := nl hg B0_.1; have N10_ := ng hg B0_.1; replace B0_ := bb hb B0_.1; clear hb hbox hg))
 (try simp only [Act.put, zA, zB, zC])
 go_cut [5] (fun v5 wc => ∃ (kq : Nat) (x5_2 : Bool), v5 = .bool x5_2 ∧ Aside0 (health_Of.j0 kq x5_2 a0_0 a0_1 a0_2 a0_3 a0_4 a0_5 a0_6 a0_7 a0_8 a0_9 a0_10 a0_11 a1_0 a1_1 a1_2 a1_3 a1_4 a1_5 a1_6 l1_7 a1_8 a1_9 a1_10 = some r) ∧ Aside0 (kq ≤ k) ∧ Aside0 (wc.heap[g0_]? = some (.cells #[.int .i64 a0_0, .int .i64 a0_1, .int .i64 a0_2, .int .i64 a0_3, .int .i64 a0_4, .int .i64 a0_5, .int .i64 a0_6, .int .i64 a0_7, .int .i64 a0_8, .int .i64 a0_9, .int .i64 a0_10, .int .i64 a0_11] 23 (0, 0))) ∧ Aside0 (wc.heap[g1_]? = some (.cells #[.int .i64 a1_0, .int .i64 a1_1, .int .i64 a1_2, .bool a1_3, .int .i64 a1_4, .int .i64 a1_5, .bool a1_6, (.slice A1_7 l1_7.length c1_7), .int .i64 a1_8, .int .i64 a1_9, .int .i64 a1_10] 30 (0, 0))) ∧ Aside0 (Below w.heap.size w wc))
 case first =>
  have H := HC3.1
  clear HC3
  by_cases c6 : a1_6 = true
  ·subst c6
   have H1 : (if a1_3 = true then (health_Of.j0 k (decide (a1_5 > a0_2)) a0_0 a0_1 a0_2 a0_3 a0_4 a0_5 a0_6 a0_7 a0_8 a0_9 a0_10 a0_11 a1_0 a1_1 a1_2 a1_3 a1_4 a1_5 true l1_7 a1_8 a1_9 a1_10) else (health_Of.j0 k true a0_0 a0_1 a0_2 a0_3 a0_4 a0_5 a0_6 a0_7 a0_8 a0_9 a0_10 a0_11 a1_0 a1_1 a1_2 a1_3 a1_4 a1_5 true l1_7 a1_8 a1_9 a1_10)) = some r := by rw [if_pos rfl] at H; exact H
   clear H
   have H := H1
   clear H1
   by_cases c7 : a1_3 = true
   ·subst c7
    have H1 : (health_Of.j0 k (decide (a1_5 > a0_2)) a0_0 a0_1 a0_2 a0_3 a0_4 a0_5 a0_6 a0_7 a0_8 a0_9 a0_10 a0_11 a1_0 a1_1 a1_2 true a1_4 a1_5 true l1_7 a1_8 a1_9 a1_10) = some r := by rw [if_pos rfl] at H; exact H
    clear H
    have H := H1
    clear H1
    have H' := mk H
    clear H
    have hnb8 := N10_.1
    have hnc8 := N01_.1
    have hcz9_3 : w5.cell? ⟨g1_, 3, none⟩ = some (.bool true) := bQ B1_.1 3
    have hcz9_5 : w5.cell? ⟨g1_, 5, none⟩ = some (.int .i64 a1_5) := bQ B1_.1 5
    have hcz9_6 : w5.cell? ⟨g1_, 6, none⟩ = some (.bool true) := bQ B1_.1 6
    have hfz9_3 := blk_frozen B1_.1 3
    have hfz9_5 := blk_frozen B1_.1 5
    have hfz9_6 := blk_frozen B1_.1 6
    have hcz10_2 : w5.cell? ⟨g0_, 2, none⟩ = some (.int .i64 a0_2) := bQ B0_.1 2
    have hfz10_2 := blk_frozen B0_.1 2
    go_wp2
    go_meet
    case rel => exact ⟨_, (decide (a1_5 > a0_2)), zs, H', ⟨by first | omega | exact Nat.le_refl _⟩, ⟨by exact B0_.1⟩, ⟨by exact B1_.1⟩, ⟨by repeat (first | (with_reducible first | exact HB.1 | apply bA | apply pD | apply b1 | apply bS E0_.1 | apply bS E1_.1) | exact HB.1)⟩⟩
   replace c7 := Bool.eq_false_iff.mpr c7
   subst c7
   have H1 : (health_Of.j0 k true a0_0 a0_1 a0_2 a0_3 a0_4 a0_5 a0_6 a0_7 a0_8 a0_9 a0_10 a0_11 a1_0 a1_1 a1_2 false a1_4 a1_5 true l1_7 a1_8 a1_9 a1_10) = some r := by rw [if_neg (show ¬ (false = true) by decide)] at H; exact H
   clear H
   have H := H1
   clear H1
   have H' := mk H
   clear H
   have hnb11 := N10_.1
   have hnc11 := N01_.1
   have hcz12_3 : w5.cell? ⟨g1_, 3, none⟩ = some (.bool false) := bQ B1_.1 3
   have hcz12_6 : w5.cell? ⟨g1_, 6, none⟩ = some (.bool true) := bQ B1_.1 6
   have hfz12_3 := blk_frozen B1_.1 3
   have hfz12_6 := blk_frozen B1_.1 6
   go_wp2
   go_meet
   case rel => exact ⟨_, (true), zs, H', ⟨by first | omega | exact Nat.le_refl _⟩, ⟨by exact B0_.1⟩, ⟨by exact B1_.1⟩, ⟨by repeat (first | (with_reducible first | exact HB.1 | apply bA | apply pD | apply b1 | apply bS E0_.1 | apply bS E1_.1) | exact HB.1)⟩⟩
  replace c6 := Bool.eq_false_iff.mpr c6
  subst c6
  have H1 : (health_Of.j0 k true a0_0 a0_1 a0_2 a0_3 a0_4 a0_5 a0_6 a0_7 a0_8 a0_9 a0_10 a0_11 a1_0 a1_1 a1_2 a1_3 a1_4 a1_5 false l1_7 a1_8 a1_9 a1_10) = some r := by rw [if_neg (show ¬ (false = true) by decide)] at H; exact H
  clear H
  have H := H1
  clear H1
  have H' := mk H
  clear H
  have hnb13 := N10_.1
  have hnc13 := N01_.1
  have hcz14_6 : w5.cell? ⟨g1_, 6, none⟩ = some (.bool false) := bQ B1_.1 6
  have hfz14_6 := blk_frozen B1_.1 6
  go_wp2
  go_meet
  case rel => exact ⟨_, (true), zs, H', ⟨by first | omega | exact Nat.le_refl _⟩, ⟨by exact B0_.1⟩, ⟨by exact B1_.1⟩, ⟨by repeat (first | (with_reducible first | exact HB.1 | apply bA | apply pD | apply b1 | apply bS E0_.1 | apply bS E1_.1) | exact HB.1)⟩⟩
 case rest =>
  clear HC3
  try clear c1
  try clear c2
  try clear p2
  try clear c6
  try clear c7
  try clear c8
  try clear c11
  try clear c13
  try clear hcz10_2
  try clear hcz12_3
  try clear hcz12_6
  try clear hcz14_6
  try clear hcz9_3
  try clear hcz9_5
  try clear hcz9_6
  try clear hfz10_2
  try clear hfz12_3
  try clear hfz12_6
  try clear hfz14_6
  try clear hfz9_3
  try clear hfz9_5
  try clear hfz9_6
  obtain ⟨kq, x5_2, rfl, HA, HJ2, B0_, B1_, HB⟩ := hcut
  cases kq with
  | zero => exact absurd HA.1 (by simp [health_Of.j0])
  | succ kj2 =>
   have H := HA.1
   clear HA
   simp only [health_Of.j0] at H
   by_cases c15 : x5_2 = true
   ·subst c15
    have H1 : (some 0) = some r := by rw [if_pos rfl] at H; exact H
    clear H
    have H := H1
    clear H1
    obtain rfl := Option.some.inj H
    go_wp2
    go_ret
    exact ⟨by first | rfl | (simp [errW_none, errW_some] <;> rfl) | (simp [*, errW_none, errW_some] <;> rfl), by repeat (first | (with_reducible first | exact HB.1 | apply bA | apply pD | apply b1 | apply bS E0_.1 | apply bS E1_.1) | exact HB.1)⟩
   replace c15 := Bool.eq_false_iff.mpr c15
   subst c15
   have H1 : (if a1_4 > a0_9 then (some 2) else (some 1)) = some r := by rw [if_neg (show ¬ (false = true) by decide)] at H; exact H
   clear H
   have H := H1
   clear H1
   by_cases c16 : a1_4 > a0_9
   ·rw [if_pos c16] at H
    have c16b0 : decide (a0_9 < a1_4) = true := decide_eq_true c16
    clear c16
    obtain rfl := Option.some.inj H
    have hnb17 := N10_.1
    have hnc17 := N01_.1
    have hcz18_4 : wc.cell? ⟨g1_, 4, none⟩ = some (.int .i64 a1_4) := bQ B1_.1 4
    have hfz18_4 := blk_frozen B1_.1 4
    have hcz19_9 : wc.cell? ⟨g0_, 9, none⟩ = some (.int .i64 a0_9) := bQ B0_.1 9
    have hfz19_9 := blk_frozen B0_.1 9
    go_wp2
    go_ret
    exact ⟨by first | rfl | (simp [errW_none, errW_some] <;> rfl) | (simp [*, errW_none, errW_some] <;> rfl), by repeat (first | (with_reducible first | exact HB.1 | apply bA | apply pD | apply b1 | apply bS E0_.1 | apply bS E1_.1) | exact HB.1)⟩
   rw [if_neg c16] at H
   have c16b0 : decide (a0_9 < a1_4) = false := decide_eq_false c16
   clear c16
   obtain rfl := Option.some.inj H
   have hnb20 := N10_.1
   have hnc20 := N01_.1
   have hcz21_4 : wc.cell? ⟨g1_, 4, none⟩ = some (.int .i64 a1_4) := bQ B1_.1 4
   have hfz21_4 := blk_frozen B1_.1 4
   have hcz22_9 : wc.cell? ⟨g0_, 9, none⟩ = some (.int .i64 a0_9) := bQ B0_.1 9
   have hfz22_9 := blk_frozen B0_.1 9
   go_wp2
   go_ret
   exact ⟨by first | rfl | (simp [errW_none, errW_some] <;> rfl) | (simp [*, errW_none, errW_some] <;> rfl), by repeat (first | (with_reducible first | exact HB.1 | apply bA | apply pD | apply b1 | apply bS E0_.1 | apply bS E1_.1) | exact HB.1)⟩

-- NOT PRINTED: function 13 (health_Front_Health)

-- NOT PRINTED: function 19 (health_Front_synced)

-- NOT PRINTED: function 7 (health_Front_Now)

/-! ### sat_Bound: function 38 -/
def sat_Bound.j0 : Nat → Int → Int → Int → Bool → Option (Int)
 | 0, _, _, _, _ => none
 | k + 1, x0, x1, x2, x7 => if x7 = true then (some x1) else (if x0 > x2 then (some x2) else (some x0))
def sat_Bound.f (k : Nat) (a0 : Int) (a1 : Int) (a2 : Int) : Option (Int) := if a0 < a1 then (sat_Bound.j0 k a0 a1 a2 true) else (sat_Bound.j0 k a0 a1 a2 (decide (a2 < a1)))
theorem sat_Bound.mono_l : ∀ k, (∀ y0 y1 y2 y3, LeO (sat_Bound.j0 k y0 y1 y2 y3) (sat_Bound.j0 (k + 1) y0 y1 y2 y3))
 | 0 => fun _ _ _ _ r h => by simp [sat_Bound.j0] at h
 | k + 1 => by
  have ih0 := sat_Bound.mono_l k
  ·intro y0 y1 y2 y3
   unfold sat_Bound.j0
   repeat' first
   | (with_reducible exact ih0 _ _ _ _)
   | (with_reducible exact LeO.refl _)
   | (with_reducible exact LeO.none _)
   | (with_reducible refine LeO.ite ?_ ?_)
   | (with_reducible refine LeO.bind ?_ (fun _ => ?_))
   | exact ih0 _ _ _ _
   | exact LeO.none _
   | refine LeO.ite ?_ ?_
   | refine LeO.bind ?_ (fun _ => ?_)
theorem sat_Bound.mono : ∀ a0 a1 a2 k, LeO (sat_Bound.f k a0 a1 a2) (sat_Bound.f (k + 1) a0 a1 a2) := by
 intro a0 a1 a2 k
 have ih0 := sat_Bound.mono_l k
 unfold sat_Bound.f
 repeat' first
   | (with_reducible exact ih0 _ _ _ _)
   | (with_reducible exact LeO.refl _)
   | (with_reducible exact LeO.none _)
   | (with_reducible refine LeO.ite ?_ ?_)
   | (with_reducible refine LeO.bind ?_ (fun _ => ?_))
   | exact ih0 _ _ _ _
   | exact LeO.none _
   | refine LeO.ite ?_ ?_
   | refine LeO.bind ?_ (fun _ => ?_)
set_option maxHeartbeats 8000000 in
set_option maxRecDepth 100000 in
theorem sat_Bound.calls (k : Nat) (a0 : Int) (a1 : Int) (a2 : Int) (r : Int) (w : World) (h : sat_Bound.f k a0 a1 a2 = some r) :
  Calls Tryd.prog 38 #[.int .i64 a0, .int .i64 a1, .int .i64 a2] w fun e w' => e = .returned (.int .i64 r) ∧ Drawn0 w w' := by
 have H : (if a0 < a1 then (sat_Bound.j0 k a0 a1 a2 true) else (sat_Bound.j0 k a0 a1 a2 (decide (a2 < a1)))) = some r := h
 clear h
 have HC4 := Aside0.mk H
 clear H
 go_enter Tryd.func38, Tryd.ntmps38
 go_upto_region 1 with (fail)
 go_cut [7] (fun v7 wc => ∃ (kq : Nat) (x7_3 : Bool), v7 = .bool x7_3 ∧ Aside0 (sat_Bound.j0 kq a0 a1 a2 x7_3 = some r) ∧ Aside0 (kq ≤ k) ∧ Drawn0 w wc)
 case first =>
  have H := HC4.1
  clear HC4
  by_cases c5 : a0 < a1
  ·rw [if_pos c5] at H
   have c5b0 : decide (a0 < a1) = true := decide_eq_true c5
   clear c5
   (first | rw [c5b0] | (simp only [i64_w, i32_w]; rw [c5b0]) | skip)
   have H' := Aside0.mk H
   clear H
   go_wp2
   go_meet
   case rel => exact ⟨_, (true), zs, H', ⟨by first | omega | exact Nat.le_refl _⟩, by repeat (first | exact Drawn0.refl _ | apply Drawn0.step)⟩
  ·rw [if_neg c5] at H
   have c5b0 : decide (a0 < a1) = false := decide_eq_false c5
   clear c5
   (first | rw [c5b0] | (simp only [i64_w, i32_w]; rw [c5b0]) | skip)
   have H' := Aside0.mk H
   clear H
   go_wp2
   go_meet
   case rel => exact ⟨_, (decide (a2 < a1)), zs, H', ⟨by first | omega | exact Nat.le_refl _⟩, by repeat (first | exact Drawn0.refl _ | apply Drawn0.step)⟩
 case rest =>
  clear HC4
  try clear p2
  try clear c3
  try clear c5
  try clear c5b0
  obtain ⟨kq, x7_3, rfl, HA, HJ3, ⟨mc3, rfl⟩⟩ := hcut
  cases kq with
  | zero => exact absurd HA.1 (by simp [sat_Bound.j0])
  | succ kj3 =>
   have H := HA.1
   clear HA
   simp only [sat_Bound.j0] at H
   by_cases c6 : x7_3 = true
   ·subst c6
    have H1 : (some a1) = some r := by rw [if_pos rfl] at H; exact H
    clear H
    have H := H1
    clear H1
    obtain rfl := Option.some.inj H
    go_wp2
    go_ret
    exact ⟨by first | rfl | (simp; done) | (simp [*]; done) | (simp [Int.tdiv_eq_ediv_of_nonneg]; done) | (simp [Go.RowKit.wrap64]; done) | (simp [*, Go.RowKit.wrap64]; done), by repeat (first | exact Drawn0.refl _ | apply Drawn0.step)⟩
   ·replace c6 := Bool.eq_false_iff.mpr c6
    subst c6
    have H1 : (if a0 > a2 then (some a2) else (some a0)) = some r := by rw [if_neg (show ¬ (false = true) by decide)] at H; exact H
    clear H
    have H := H1
    clear H1
    by_cases c7 : a0 > a2
    ·rw [if_pos c7] at H
     have c7b0 : decide (a2 < a0) = true := decide_eq_true c7
     clear c7
     obtain rfl := Option.some.inj H
     go_wp2
     go_ret
     exact ⟨by first | rfl | (simp; done) | (simp [*]; done) | (simp [Int.tdiv_eq_ediv_of_nonneg]; done) | (simp [Go.RowKit.wrap64]; done) | (simp [*, Go.RowKit.wrap64]; done), by repeat (first | exact Drawn0.refl _ | apply Drawn0.step)⟩
    ·rw [if_neg c7] at H
     have c7b0 : decide (a2 < a0) = false := decide_eq_false c7
     clear c7
     obtain rfl := Option.some.inj H
     go_wp2
     go_ret
     exact ⟨by first | rfl | (simp; done) | (simp [*]; done) | (simp [Int.tdiv_eq_ediv_of_nonneg]; done) | (simp [Go.RowKit.wrap64]; done) | (simp [*, Go.RowKit.wrap64]; done), by repeat (first | exact Drawn0.refl _ | apply Drawn0.step)⟩

/-! ### sat_Clip: function 40 -/
def sat_Clip.f (k : Nat) (a0 : Int) : Option (Int) := (sat_Bound.f k a0 (-2305843009213693952) 2305843009213693952).bind fun t104 => (some t104)
theorem sat_Clip.mono : ∀ a0 k, LeO (sat_Clip.f k a0) (sat_Clip.f (k + 1) a0) := by
  intro a0 k
  unfold sat_Clip.f
  repeat' first
      | (with_reducible exact sat_Bound.mono _ _ _ _)
      | (with_reducible exact LeO.refl _)
      | (with_reducible exact LeO.none _)
      | (with_reducible refine LeO.ite ?_ ?_)
      | (with_reducible refine LeO.bind ?_ (fun _ => ?_))
      | exact sat_Bound.mono _ _ _ _
      | exact LeO.none _
      | refine LeO.ite ?_ ?_
      | refine LeO.bind ?_ (fun _ => ?_)
set_option maxHeartbeats 8000000 in
set_option maxRecDepth 100000 in
theorem sat_Clip.calls (k : Nat) (a0 : Int) (r : Int) (w : World) (h : sat_Clip.f k a0 = some r) :
    Calls Tryd.prog 40 #[.int .i64 a0] w fun e w' => e = .returned (.int .i64 r) ∧ Drawn0 w w' := by
  have H : ((sat_Bound.f k a0 (-2305843009213693952) 2305843009213693952).bind fun t104 => (some t104)) = some r := h
  clear h
  replace H := Option.bind_eq_some_iff.mp H
  obtain ⟨t104, A20, H⟩ := H
  replace H : (some t104) = some r := H
  have A2 := Aside0.mk A20
  clear A20
  obtain rfl := Option.some.inj H
  go_enter Tryd.func40, Tryd.ntmps40
  go_wp2_with (first | ((with_reducible refine gate_callee (f := 38) rfl ?_); refine goesL_ (some 4) rfl rfl Tryd.func38 (by kernel_rfl) rfl #[.int .i64 a0, .int .i64 (-2305843009213693952), .int .i64 2305843009213693952] rfl (by (try simp only [List.map_toArray, List.map_cons, List.map_nil]); first | done | rfl | (simp only [List.length_drop, List.length_take]; rfl)) ?_; (with_reducible refine (sat_Bound.calls k a0 (-2305843009213693952) 2305843009213693952 t104 _ A2.out).mono ?_); rintro e w' ⟨rfl, ⟨nd, rfl⟩⟩; refine ⟨_, rfl, ?_⟩))
  go_ret
  exact ⟨by first | rfl | (simp; done) | (simp [*]; done) | (simp [Int.tdiv_eq_ediv_of_nonneg]; done) | (simp [Go.RowKit.wrap64]; done) | (simp [*, Go.RowKit.wrap64]; done), by repeat (first | exact Drawn0.refl _ | apply Drawn0.step)⟩

end Go.Proofs.YtigkjbaclpklpaaDoor.Q
