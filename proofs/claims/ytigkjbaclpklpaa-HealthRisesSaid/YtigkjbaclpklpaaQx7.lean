/- The calls of these Go functions answer what the Lean functions beside them answer; written by a program (wip/pr2.py, out of the print of the loaded program); under no condition but those that stand in the theorems. -/
import Derived.Test.YtigkjbaclpklpaaQx0
import Derived.Test.YtigkjbaclpklpaaQx2
namespace Go.Proofs.Ytigkjbaclpklpaa.Q
open Go.RowKit Go.Proofs.YtigkjbaclpklpaaW.PrintWords Go.Proofs.YtigkjbaclpklpaaW.PrintLast Go.Proofs.YtigkjbaclpklpaaW.PrintMore
attribute [local go_sem] max2_int min2_int max_two min_two max_three min_three max_four min_four   -- for this text's walks alone
set_option linter.unusedVariables false
set_option linter.unusedSimpArgs false

/-! ### health_Of: function 13 -/
def health_Of.j0 : Nat → Bool → Int → Int → Int → Int → Int → Int → Int → Int → Int → Int → Int → Int → Int → Int → Int → Bool → Int → Int → Bool → List (S42) → Int → Int → Int → Option (Int)
 | 0, _, _, _, _, _, _, _, _, _, _, _, _, _, _, _, _, _, _, _, _, _, _, _, _ => none
 | k + 1, x5, x124000, x124001, x124002, x124003, x124004, x124005, x124006, x124007, x124008, x124009, x124010, x124011, x125000, x125001, x125002, x125003, x125004, x125005, x125006, x125007, x125008, x125009, x125010 => if x5 = true then (some 0) else (if x125004 > x124009 then (some 2) else (some 1))
def health_Of.f (k : Nat) (a0_0 : Int) (a0_1 : Int) (a0_2 : Int) (a0_3 : Int) (a0_4 : Int) (a0_5 : Int) (a0_6 : Int) (a0_7 : Int) (a0_8 : Int) (a0_9 : Int) (a0_10 : Int) (a0_11 : Int) (a1_0 : Int) (a1_1 : Int) (a1_2 : Int) (a1_3 : Bool) (a1_4 : Int) (a1_5 : Int) (a1_6 : Bool) (l1_7 : List (S42)) (a1_8 : Int) (a1_9 : Int) (a1_10 : Int) : Option (Int) := if a1_6 = true then (if a1_3 = true then (health_Of.j0 k (decide (a1_5 > a0_2)) a0_0 a0_1 a0_2 a0_3 a0_4 a0_5 a0_6 a0_7 a0_8 a0_9 a0_10 a0_11 a1_0 a1_1 a1_2 a1_3 a1_4 a1_5 a1_6 l1_7 a1_8 a1_9 a1_10) else (health_Of.j0 k true a0_0 a0_1 a0_2 a0_3 a0_4 a0_5 a0_6 a0_7 a0_8 a0_9 a0_10 a0_11 a1_0 a1_1 a1_2 a1_3 a1_4 a1_5 a1_6 l1_7 a1_8 a1_9 a1_10)) else (health_Of.j0 k true a0_0 a0_1 a0_2 a0_3 a0_4 a0_5 a0_6 a0_7 a0_8 a0_9 a0_10 a0_11 a1_0 a1_1 a1_2 a1_3 a1_4 a1_5 a1_6 l1_7 a1_8 a1_9 a1_10)
theorem health_Of.mono_l : ∀ k, (∀ y0 y1 y2 y3 y4 y5 y6 y7 y8 y9 y10 y11 y12 y13 y14 y15 y16 y17 y18 y19 y20 y21 y22 y23, LeO (health_Of.j0 k y0 y1 y2 y3 y4 y5 y6 y7 y8 y9 y10 y11 y12 y13 y14 y15 y16 y17 y18 y19 y20 y21 y22 y23) (health_Of.j0 (k + 1) y0 y1 y2 y3 y4 y5 y6 y7 y8 y9 y10 y11 y12 y13 y14 y15 y16 y17 y18 y19 y20 y21 y22 y23))
 | 0 => fun _ _ _ _ _ _ _ _ _ _ _ _ _ _ _ _ _ _ _ _ _ _ _ _ r h => by simp [health_Of.j0] at h
 | k + 1 => by
  have ih0 := health_Of.mono_l k
  intro y0 y1 y2 y3 y4 y5 y6 y7 y8 y9 y10 y11 y12 y13 y14 y15 y16 y17 y18 y19 y20 y21 y22 y23
  unfold health_Of.j0
  repeat' first
  | (with_reducible exact ih0 _ _ _ _ _ _ _ _ _ _ _ _ _ _ _ _ _ _ _ _ _ _ _ _)
  | (with_reducible exact LeO.refl _)
  | (with_reducible exact LeO.none _)
  | (with_reducible refine LeO.ite ?_ ?_)
  | (with_reducible refine LeO.bind ?_ (fun _ => ?_))
  | exact ih0 _ _ _ _ _ _ _ _ _ _ _ _ _ _ _ _ _ _ _ _ _ _ _ _
  | exact LeO.none _
  | refine LeO.ite ?_ ?_
  | refine LeO.bind ?_ (fun _ => ?_)
theorem health_Of.mono : ∀ a0 a1 a2 a3 a4 a5 a6 a7 a8 a9 a10 a11 a12 a13 a14 a15 a16 a17 a18 a19 a20 a21 a22 k, LeO (health_Of.f k a0 a1 a2 a3 a4 a5 a6 a7 a8 a9 a10 a11 a12 a13 a14 a15 a16 a17 a18 a19 a20 a21 a22) (health_Of.f (k + 1) a0 a1 a2 a3 a4 a5 a6 a7 a8 a9 a10 a11 a12 a13 a14 a15 a16 a17 a18 a19 a20 a21 a22) := by
 intro a0 a1 a2 a3 a4 a5 a6 a7 a8 a9 a10 a11 a12 a13 a14 a15 a16 a17 a18 a19 a20 a21 a22 k
 have ih0 := health_Of.mono_l k
 unfold health_Of.f
 repeat' first
   | (with_reducible exact ih0 _ _ _ _ _ _ _ _ _ _ _ _ _ _ _ _ _ _ _ _ _ _ _ _)
   | (with_reducible exact LeO.refl _)
   | (with_reducible exact LeO.none _)
   | (with_reducible refine LeO.ite ?_ ?_)
   | (with_reducible refine LeO.bind ?_ (fun _ => ?_))
   | exact ih0 _ _ _ _ _ _ _ _ _ _ _ _ _ _ _ _ _ _ _ _ _ _ _ _
   | exact LeO.none _
   | refine LeO.ite ?_ ?_
   | refine LeO.bind ?_ (fun _ => ?_)
set_option maxHeartbeats 8000000 in
set_option maxRecDepth 100000 in
theorem health_Of.calls (k : Nat) (a0_0 : Int) (a0_1 : Int) (a0_2 : Int) (a0_3 : Int) (a0_4 : Int) (a0_5 : Int) (a0_6 : Int) (a0_7 : Int) (a0_8 : Int) (a0_9 : Int) (a0_10 : Int) (a0_11 : Int) (a1_0 : Int) (a1_1 : Int) (a1_2 : Int) (a1_3 : Bool) (a1_4 : Int) (a1_5 : Int) (a1_6 : Bool) (A1_7 : Option Addr) (c1_7 : Nat) (l1_7 : List (S42)) (a1_8 : Int) (a1_9 : Int) (a1_10 : Int) (r : Int) (w : World) (hr1_7 : Kd.C k42 w A1_7 l1_7.length l1_7) (hc1_7 : l1_7.length ≤ c1_7) (h : health_Of.f k a0_0 a0_1 a0_2 a0_3 a0_4 a0_5 a0_6 a0_7 a0_8 a0_9 a0_10 a0_11 a1_0 a1_1 a1_2 a1_3 a1_4 a1_5 a1_6 l1_7 a1_8 a1_9 a1_10 = some r) :
  Calls Try.prog 13 #[.agg #[.int .i64 a0_0, .int .i64 a0_1, .int .i64 a0_2, .int .i64 a0_3, .int .i64 a0_4, .int .i64 a0_5, .int .i64 a0_6, .int .i64 a0_7, .int .i64 a0_8, .int .i64 a0_9, .int .i64 a0_10, .int .i64 a0_11], .agg #[.int .i64 a1_0, .int .i64 a1_1, .int .i64 a1_2, .bool a1_3, .int .i64 a1_4, .int .i64 a1_5, .bool a1_6, .slice A1_7 l1_7.length c1_7, .int .i64 a1_8, .int .i64 a1_9, .int .i64 a1_10]] w fun e w' => e = .returned (.int .i64 r) ∧ Below w.heap.size w w' := by
 have hu23 := Try.underlying23
 have hu30 := Try.underlying30
 have HR1_7 := mk hr1_7
 have HC1_7 := mk hc1_7
 clear hr1_7 hc1_7
 have HB := mk (Below.refl w.heap.size w)
 have H : (if a1_6 = true then (if a1_3 = true then (health_Of.j0 k (decide (a1_5 > a0_2)) a0_0 a0_1 a0_2 a0_3 a0_4 a0_5 a0_6 a0_7 a0_8 a0_9 a0_10 a0_11 a1_0 a1_1 a1_2 a1_3 a1_4 a1_5 a1_6 l1_7 a1_8 a1_9 a1_10) else (health_Of.j0 k true a0_0 a0_1 a0_2 a0_3 a0_4 a0_5 a0_6 a0_7 a0_8 a0_9 a0_10 a0_11 a1_0 a1_1 a1_2 a1_3 a1_4 a1_5 a1_6 l1_7 a1_8 a1_9 a1_10)) else (health_Of.j0 k true a0_0 a0_1 a0_2 a0_3 a0_4 a0_5 a0_6 a0_7 a0_8 a0_9 a0_10 a0_11 a1_0 a1_1 a1_2 a1_3 a1_4 a1_5 a1_6 l1_7 a1_8 a1_9 a1_10)) = some r := h
 clear h
 have HC3 := mk H
 clear H
 go_enter Try.func13, Try.ntmps13
 go_upto_region 1 with (first | ((with_reducible refine gate_dst (N := 2) rfl ?_); refine box_event ?hg (N := 2) ?hd (cs := #[.int .i64 a0_0, .int .i64 a0_1, .int .i64 a0_2, .int .i64 a0_3, .int .i64 a0_4, .int .i64 a0_5, .int .i64 a0_6, .int .i64 a0_7, .int .i64 a0_8, .int .i64 a0_9, .int .i64 a0_10, .int .i64 a0_11]) (t := 23) ?hr ?_; (case hd => rfl); (case hg => rfl); (case hr => first | (go_simp; done) | (go_simp; rfl)); intro g0_ hg w4 hbox hb; have n0_ := mk (below_step (by repeat first | exact HB.1 | apply pD | apply b1 | refine bT (by assumption) ?_ | apply bA) hb); have n1_ := mk (hbox); have n2_ := gl hg (by repeat first | exact HB.1 | apply pD | apply b1 | refine bT (by assumption) ?_ | apply bA); have n3_ := gl hg (by repeat first | exact HB.1 | apply pD | apply b1 | refine bT (by assumption) ?_ | apply bA); clear HB; have HB := n0_; have B0_ := n1_; have W0_ := n2_; have E0_ := n3_; clear n0_ n1_ n2_ n3_; clear hb hbox hg) | ((with_reducible refine gate_dst (N := 3) rfl ?_); refine box_event ?hg (N := 3) ?hd (cs := #[.int .i64 a1_0, .int .i64 a1_1, .int .i64 a1_2, .bool a1_3, .int .i64 a1_4, .int .i64 a1_5, .bool a1_6, .slice A1_7 l1_7.length c1_7, .int .i64 a1_8, .int .i64 a1_9, .int .i64 a1_10]) (t := 30) ?hr ?_; (case hd => rfl); (case hg => rfl); (case hr => first | (go_simp; done) | (go_simp; rfl)); intro g1_ hg w5 hbox hb; have n0_ := bb hb B0_.1; have n1_ := mk (below_step (by repeat first | exact HB.1 | apply pD | apply b1 | refine bT (by assumption) ?_ | apply bA) hb); have n2_ := mk (hbox); have n3_ := gl hg (by repeat first | exact HB.1 | apply pD | apply b1 | refine bT (by assumption) ?_ | apply bA); have n4_ := gl hg (by repeat first | exact HB.1 | apply pD | apply b1 | refine bT (by assumption) ?_ | apply bA); have n5_ := nl hg B0_.1; have n6_ := ng hg B0_.1; clear B0_; clear HB; have B0_ := n0_; have HB := n1_; have B1_ := n2_; have W1_ := n3_; have E1_ := n4_; have N01_ := n5_; have N10_ := n6_; clear n0_ n1_ n2_ n3_ n4_ n5_ n6_; clear hb hbox hg))
 (try simp only [Act.put, List.setIfInBounds_toArray, List.set_cons_zero, List.set_cons_succ])
 go_cut [5] (fun v5 wc => ∃ (kq : Nat) (x5_2 : Bool), v5 = .bool x5_2 ∧ Aside0 (health_Of.j0 kq x5_2 a0_0 a0_1 a0_2 a0_3 a0_4 a0_5 a0_6 a0_7 a0_8 a0_9 a0_10 a0_11 a1_0 a1_1 a1_2 a1_3 a1_4 a1_5 a1_6 l1_7 a1_8 a1_9 a1_10 = some r) ∧ Aside0 (kq ≤ k) ∧ Aside0 (wc.heap[g0_]? = some (.cells #[.int .i64 a0_0, .int .i64 a0_1, .int .i64 a0_2, .int .i64 a0_3, .int .i64 a0_4, .int .i64 a0_5, .int .i64 a0_6, .int .i64 a0_7, .int .i64 a0_8, .int .i64 a0_9, .int .i64 a0_10, .int .i64 a0_11] 23 (0, 0))) ∧ Aside0 (wc.heap[g1_]? = some (.cells #[.int .i64 a1_0, .int .i64 a1_1, .int .i64 a1_2, .bool a1_3, .int .i64 a1_4, .int .i64 a1_5, .bool a1_6, (.slice A1_7 l1_7.length c1_7), .int .i64 a1_8, .int .i64 a1_9, .int .i64 a1_10] 30 (0, 0))) ∧ Aside0 (Below w.heap.size w wc))
 case first =>
  have H := HC3.out
  clear HC3
  by_cases c6 : a1_6 = true
  ·subst c6
   have H1 : (if a1_3 = true then (health_Of.j0 k (decide (a1_5 > a0_2)) a0_0 a0_1 a0_2 a0_3 a0_4 a0_5 a0_6 a0_7 a0_8 a0_9 a0_10 a0_11 a1_0 a1_1 a1_2 a1_3 a1_4 a1_5 true l1_7 a1_8 a1_9 a1_10) else (health_Of.j0 k true a0_0 a0_1 a0_2 a0_3 a0_4 a0_5 a0_6 a0_7 a0_8 a0_9 a0_10 a0_11 a1_0 a1_1 a1_2 a1_3 a1_4 a1_5 true l1_7 a1_8 a1_9 a1_10)) = some r := by rw [if_pos rfl] at H; exact H
   clear H
   have H := H1
   clear H1
   by_cases c7 : a1_3 = true
   ·subst c7
    have H1 : (health_Of.j0 k (decide (a1_5 > a0_2)) a0_0 a0_1 a0_2 a0_3 a0_4 a0_5 a0_6 a0_7 a0_8 a0_9 a0_10 a0_11 a1_0 a1_1 a1_2 true a1_4 a1_5 true l1_7 a1_8 a1_9 a1_10) = some r := by rw [if_pos rfl] at H; exact H
    clear H
    have H := H1
    clear H1
    have H' := mk H
    clear H
    have hnb8 := N10_.1
    have hnc8 := N01_.1
    have hcz9_3 : w5.cell? ⟨g1_, 3, none⟩ = some (.bool true) := bQ B1_.1 3
    have hcz9_5 : w5.cell? ⟨g1_, 5, none⟩ = some (.int .i64 a1_5) := bQ B1_.1 5
    have hcz9_6 : w5.cell? ⟨g1_, 6, none⟩ = some (.bool true) := bQ B1_.1 6
    have hfz9_3 := blk_frozen B1_.1 3
    have hfz9_5 := blk_frozen B1_.1 5
    have hfz9_6 := blk_frozen B1_.1 6
    have hcz10_2 : w5.cell? ⟨g0_, 2, none⟩ = some (.int .i64 a0_2) := bQ B0_.1 2
    have hfz10_2 := blk_frozen B0_.1 2
    go_wp2
    go_meet
    case rel => exact ⟨_, (decide (a1_5 > a0_2)), (by first | rfl | (simp; done) | (simp [*]; done) | (simp [Int.tdiv_eq_ediv_of_nonneg]; done) | (simp [Go.RowKit.wrap64]; done) | (simp [*, Go.RowKit.wrap64]; done)), H', ⟨by first | omega | exact Nat.le_refl _⟩, ⟨by exact B0_.1⟩, ⟨by exact B1_.1⟩, ⟨by repeat (first | (with_reducible first | exact HB.1 | apply bA | apply pD | apply b1 | apply bS E0_.1 | apply bS E1_.1) | exact HB.1)⟩⟩
   replace c7 := Bool.eq_false_iff.mpr c7
   subst c7
   have H1 : (health_Of.j0 k true a0_0 a0_1 a0_2 a0_3 a0_4 a0_5 a0_6 a0_7 a0_8 a0_9 a0_10 a0_11 a1_0 a1_1 a1_2 false a1_4 a1_5 true l1_7 a1_8 a1_9 a1_10) = some r := by rw [if_neg (show ¬ (false = true) by decide)] at H; exact H
   clear H
   have H := H1
   clear H1
   have H' := mk H
   clear H
   have hnb11 := N10_.1
   have hnc11 := N01_.1
   have hcz12_3 : w5.cell? ⟨g1_, 3, none⟩ = some (.bool false) := bQ B1_.1 3
   have hcz12_6 : w5.cell? ⟨g1_, 6, none⟩ = some (.bool true) := bQ B1_.1 6
   have hfz12_3 := blk_frozen B1_.1 3
   have hfz12_6 := blk_frozen B1_.1 6
   go_wp2
   go_meet
   case rel => exact ⟨_, (true), (by first | rfl | (simp; done) | (simp [*]; done) | (simp [Int.tdiv_eq_ediv_of_nonneg]; done) | (simp [Go.RowKit.wrap64]; done) | (simp [*, Go.RowKit.wrap64]; done)), H', ⟨by first | omega | exact Nat.le_refl _⟩, ⟨by exact B0_.1⟩, ⟨by exact B1_.1⟩, ⟨by repeat (first | (with_reducible first | exact HB.1 | apply bA | apply pD | apply b1 | apply bS E0_.1 | apply bS E1_.1) | exact HB.1)⟩⟩
  replace c6 := Bool.eq_false_iff.mpr c6
  subst c6
  have H1 : (health_Of.j0 k true a0_0 a0_1 a0_2 a0_3 a0_4 a0_5 a0_6 a0_7 a0_8 a0_9 a0_10 a0_11 a1_0 a1_1 a1_2 a1_3 a1_4 a1_5 false l1_7 a1_8 a1_9 a1_10) = some r := by rw [if_neg (show ¬ (false = true) by decide)] at H; exact H
  clear H
  have H := H1
  clear H1
  have H' := mk H
  clear H
  have hnb13 := N10_.1
  have hnc13 := N01_.1
  have hcz14_6 : w5.cell? ⟨g1_, 6, none⟩ = some (.bool false) := bQ B1_.1 6
  have hfz14_6 := blk_frozen B1_.1 6
  go_wp2
  go_meet
  case rel => exact ⟨_, (true), (by first | rfl | (simp; done) | (simp [*]; done) | (simp [Int.tdiv_eq_ediv_of_nonneg]; done) | (simp [Go.RowKit.wrap64]; done) | (simp [*, Go.RowKit.wrap64]; done)), H', ⟨by first | omega | exact Nat.le_refl _⟩, ⟨by exact B0_.1⟩, ⟨by exact B1_.1⟩, ⟨by repeat (first | (with_reducible first | exact HB.1 | apply bA | apply pD | apply b1 | apply bS E0_.1 | apply bS E1_.1) | exact HB.1)⟩⟩
 case rest =>
  clear HC3
  try clear c1
  try clear p2
  try clear c6
  try clear c7
  try clear c8
  try clear c11
  try clear c13
  try clear hcz10_2
  try clear hcz12_3
  try clear hcz12_6
  try clear hcz14_6
  try clear hcz9_3
  try clear hcz9_5
  try clear hcz9_6
  try clear hfz10_2
  try clear hfz12_3
  try clear hfz12_6
  try clear hfz14_6
  try clear hfz9_3
  try clear hfz9_5
  try clear hfz9_6
  obtain ⟨kq, x5_2, rfl, HA, HJ2, B0_, B1_, HB⟩ := hcut
  cases kq with
  | zero => exact absurd HA.out (by simp [health_Of.j0])
  | succ kj2 =>
   have H := HA.out
   clear HA
   simp only [health_Of.j0] at H
   by_cases c15 : x5_2 = true
   ·subst c15
    have H1 : (some 0) = some r := by rw [if_pos rfl] at H; exact H
    clear H
    have H := H1
    clear H1
    obtain rfl := Option.some.inj H
    go_wp2
    go_ret
    exact ⟨by first | rfl | (simp [errW_none, errW_some] <;> rfl) | (simp [*, errW_none, errW_some] <;> rfl), by repeat (first | (with_reducible first | exact HB.1 | apply bA | apply pD | apply b1 | apply bS E0_.1 | apply bS E1_.1) | exact HB.1)⟩
   replace c15 := Bool.eq_false_iff.mpr c15
   subst c15
   have H1 : (if a1_4 > a0_9 then (some 2) else (some 1)) = some r := by rw [if_neg (show ¬ (false = true) by decide)] at H; exact H
   clear H
   have H := H1
   clear H1
   by_cases c16 : a1_4 > a0_9
   ·rw [if_pos c16] at H
    have c16b0 : decide (a0_9 < a1_4) = true := decide_eq_true c16
    clear c16
    obtain rfl := Option.some.inj H
    have hnb17 := N10_.1
    have hnc17 := N01_.1
    have hcz18_4 : wc.cell? ⟨g1_, 4, none⟩ = some (.int .i64 a1_4) := bQ B1_.1 4
    have hfz18_4 := blk_frozen B1_.1 4
    have hcz19_9 : wc.cell? ⟨g0_, 9, none⟩ = some (.int .i64 a0_9) := bQ B0_.1 9
    have hfz19_9 := blk_frozen B0_.1 9
    go_wp2
    go_ret
    exact ⟨by first | rfl | (simp [errW_none, errW_some] <;> rfl) | (simp [*, errW_none, errW_some] <;> rfl), by repeat (first | (with_reducible first | exact HB.1 | apply bA | apply pD | apply b1 | apply bS E0_.1 | apply bS E1_.1) | exact HB.1)⟩
   rw [if_neg c16] at H
   have c16b0 : decide (a0_9 < a1_4) = false := decide_eq_false c16
   clear c16
   obtain rfl := Option.some.inj H
   have hnb20 := N10_.1
   have hnc20 := N01_.1
   have hcz21_4 : wc.cell? ⟨g1_, 4, none⟩ = some (.int .i64 a1_4) := bQ B1_.1 4
   have hfz21_4 := blk_frozen B1_.1 4
   have hcz22_9 : wc.cell? ⟨g0_, 9, none⟩ = some (.int .i64 a0_9) := bQ B0_.1 9
   have hfz22_9 := blk_frozen B0_.1 9
   go_wp2
   go_ret
   exact ⟨by first | rfl | (simp [errW_none, errW_some] <;> rfl) | (simp [*, errW_none, errW_some] <;> rfl), by repeat (first | (with_reducible first | exact HB.1 | apply bA | apply pD | apply b1 | apply bS E0_.1 | apply bS E1_.1) | exact HB.1)⟩

/-! ### sat_Neg: function 67 -/
def sat_Neg.f (k : Nat) (a0 : Int) : Option (Int) := (sat_Clip.f k a0).bind fun t125 => (some (wrap64 (-t125)))
theorem sat_Neg.mono : ∀ a0 k, LeO (sat_Neg.f k a0) (sat_Neg.f (k + 1) a0) := by
  intro a0 k
  unfold sat_Neg.f
  repeat' first
      | (with_reducible exact sat_Clip.mono _ _)
      | (with_reducible exact LeO.refl _)
      | (with_reducible exact LeO.none _)
      | (with_reducible refine LeO.ite ?_ ?_)
      | (with_reducible refine LeO.bind ?_ (fun _ => ?_))
      | exact sat_Clip.mono _ _
      | exact LeO.none _
      | refine LeO.ite ?_ ?_
      | refine LeO.bind ?_ (fun _ => ?_)
set_option maxHeartbeats 8000000 in
set_option maxRecDepth 100000 in
theorem sat_Neg.calls (k : Nat) (a0 : Int) (r : Int) (w : World) (h : sat_Neg.f k a0 = some r) :
    Calls Try.prog 67 #[.int .i64 a0] w fun e w' => e = .returned (.int .i64 r) ∧ Drawn0 w w' := by
  have H : ((sat_Clip.f k a0).bind fun t125 => (some (wrap64 (-t125)))) = some r := h
  clear h
  replace H := Option.bind_eq_some_iff.mp H
  obtain ⟨t125, A20, H⟩ := H
  replace H : (some (wrap64 (-t125))) = some r := H
  have A2 := Aside0.mk A20
  clear A20
  obtain rfl := Option.some.inj H
  go_enter Try.func67, Try.ntmps67
  go_wp2_with (first | ((with_reducible refine gate_callee (f := 31) rfl ?_); refine goesL_ (some 4) rfl rfl Try.func31 (by kernel_rfl) rfl #[.int .i64 a0] rfl (by (try simp only [List.map_toArray, List.map_cons, List.map_nil]); first | done | rfl | (simp only [List.length_drop, List.length_take]; rfl)) ?_; (with_reducible refine (sat_Clip.calls k a0 t125 _ A2.out).mono ?_); rintro e w' ⟨rfl, ⟨nd, rfl⟩⟩; refine ⟨_, rfl, ?_⟩))
  go_ret
  exact ⟨by first | rfl | (simp; done) | (simp [*]; done) | (simp [Int.tdiv_eq_ediv_of_nonneg]; done) | (simp [Go.RowKit.wrap64]; done) | (simp [*, Go.RowKit.wrap64]; done), by repeat (first | exact Drawn0.refl _ | apply Drawn0.step)⟩

/-! ### sat_Abs: function 49 -/
def sat_Abs.f (k : Nat) (a0 : Int) : Option (Int) := if a0 < 0 then ((sat_Neg.f k a0).bind fun t126 => (some t126)) else ((sat_Clip.f k a0).bind fun t127 => (some t127))
theorem sat_Abs.mono : ∀ a0 k, LeO (sat_Abs.f k a0) (sat_Abs.f (k + 1) a0) := by
 intro a0 k
 unfold sat_Abs.f
 repeat' first
   | (with_reducible exact sat_Clip.mono _ _)
   | (with_reducible exact sat_Neg.mono _ _)
   | (with_reducible exact LeO.refl _)
   | (with_reducible exact LeO.none _)
   | (with_reducible refine LeO.ite ?_ ?_)
   | (with_reducible refine LeO.bind ?_ (fun _ => ?_))
   | exact sat_Clip.mono _ _
   | exact sat_Neg.mono _ _
   | exact LeO.none _
   | refine LeO.ite ?_ ?_
   | refine LeO.bind ?_ (fun _ => ?_)
set_option maxHeartbeats 8000000 in
set_option maxRecDepth 100000 in
theorem sat_Abs.calls (k : Nat) (a0 : Int) (r : Int) (w : World) (h : sat_Abs.f k a0 = some r) :
  Calls Try.prog 49 #[.int .i64 a0] w fun e w' => e = .returned (.int .i64 r) ∧ Drawn0 w w' := by
 have H : (if a0 < 0 then ((sat_Neg.f k a0).bind fun t126 => (some t126)) else ((sat_Clip.f k a0).bind fun t127 => (some t127))) = some r := h
 clear h
 by_cases c2 : a0 < 0
 ·rw [if_pos c2] at H
  have c2b0 : decide (a0 < 0) = true := decide_eq_true c2
  clear c2
  replace H := Option.bind_eq_some_iff.mp H
  obtain ⟨t126, A30, H⟩ := H
  replace H : (some t126) = some r := H
  have A3 := Aside0.mk A30
  clear A30
  obtain rfl := Option.some.inj H
  go_enter Try.func49, Try.ntmps49
  go_wp2_with (first | ((with_reducible refine gate_callee (f := 67) rfl ?_); refine goesL_ (some 6) rfl rfl Try.func67 (by kernel_rfl) rfl #[.int .i64 a0] rfl (by (try simp only [List.map_toArray, List.map_cons, List.map_nil]); first | done | rfl | (simp only [List.length_drop, List.length_take]; rfl)) ?_; (with_reducible refine (sat_Neg.calls k a0 t126 _ A3.out).mono ?_); rintro e w' ⟨rfl, ⟨nd, rfl⟩⟩; refine ⟨_, rfl, ?_⟩))
  go_ret
  exact ⟨by first | rfl | (simp; done) | (simp [*]; done) | (simp [Int.tdiv_eq_ediv_of_nonneg]; done) | (simp [Go.RowKit.wrap64]; done) | (simp [*, Go.RowKit.wrap64]; done), by repeat (first | exact Drawn0.refl _ | apply Drawn0.step)⟩
 ·rw [if_neg c2] at H
  have c2b0 : decide (a0 < 0) = false := decide_eq_false c2
  clear c2
  replace H := Option.bind_eq_some_iff.mp H
  obtain ⟨t127, A40, H⟩ := H
  replace H : (some t127) = some r := H
  have A4 := Aside0.mk A40
  clear A40
  obtain rfl := Option.some.inj H
  go_enter Try.func49, Try.ntmps49
  go_wp2_with (first | ((with_reducible refine gate_callee (f := 31) rfl ?_); refine goesL_ (some 8) rfl rfl Try.func31 (by kernel_rfl) rfl #[.int .i64 a0] rfl (by (try simp only [List.map_toArray, List.map_cons, List.map_nil]); first | done | rfl | (simp only [List.length_drop, List.length_take]; rfl)) ?_; (with_reducible refine (sat_Clip.calls k a0 t127 _ A4.out).mono ?_); rintro e w' ⟨rfl, ⟨nd, rfl⟩⟩; refine ⟨_, rfl, ?_⟩))
  go_ret
  exact ⟨by first | rfl | (simp; done) | (simp [*]; done) | (simp [Int.tdiv_eq_ediv_of_nonneg]; done) | (simp [Go.RowKit.wrap64]; done) | (simp [*, Go.RowKit.wrap64]; done), by repeat (first | exact Drawn0.refl _ | apply Drawn0.step)⟩

end Go.Proofs.Ytigkjbaclpklpaa.Q
