/- The calls of these Go functions answer what the Lean functions beside them answer; written by a program (wip/pr2.py, out of the print of the loaded program); under no condition but those that stand in the theorems. -/
import Derived.Test.YtigkjbaclpklpaaDoorQx0
import Derived.Test.YtigkjbaclpklpaaDoorQx4
import Derived.Test.YtigkjbaclpklpaaDoorQx5
import Derived.Test.YtigkjbaclpklpaaDoorQx6
import Derived.Test.YtigkjbaclpklpaaDoorQx9
import Derived.Test.YtigkjbaclpklpaaDoorQx10
import Derived.Test.YtigkjbaclpklpaaDoorQx12
import Derived.Test.YtigkjbaclpklpaaDoorQx13
import Derived.Test.YtigkjbaclpklpaaDoorQx14
import Derived.Test.YtigkjbaclpklpaaDoorQx15
import Derived.Test.YtigkjbaclpklpaaDoorQx16
namespace Go.Proofs.YtigkjbaclpklpaaDoor.Q
open Go.RowKit Go.Proofs.YtigkjbaclpklpaaDoorW.PrintWords Go.Proofs.YtigkjbaclpklpaaDoorW.PrintLast Go.Proofs.YtigkjbaclpklpaaDoorW.PrintMore
attribute [local go_sem] max2_int min2_int max_two min_two max_three min_three max_four min_four   -- for this text's walks alone
set_option linter.unusedVariables false
set_option linter.unusedSimpArgs false

/-! alive, by hand -/
attribute [local go_sem] hx.fl
theorem clepsydralaw21_alive.eof : health_Of.f 100 4 1 2 1000 1 100 10 50 20 5 5000 1000 0 0 0 false 0 0 false ([] : List S82) 0 0 0 = some 0 := by kernel_rfl
theorem clepsydralaw21_alive.eto : span_Mid.f 100 900 1100 = some 1000 := by kernel_rfl
theorem clepsydralaw21_alive.ead : sat_Add.f 100 [0, 1000] = some 1000 := by kernel_rfl
theorem clepsydralaw21_alive.esb : sat_Sub.f 100 1000 1000 = some 0 := by kernel_rfl
theorem clepsydralaw21_alive.eab : sat_Abs.f 100 0 = some 0 := by kernel_rfl
theorem clepsydralaw21_alive.ecl : slew_Clock_Step.f 100 0 false 4 1 2 1000 1 100 10 50 20 5 5000 1000 1000 1000 true = some (1000, true) := by kernel_rfl
theorem clepsydralaw21_alive.esa : health_Sane.f 100 4 1 2 1000 1 100 10 50 20 5 5000 1000 900 1100 0 false 0 0 true ([] : List S82) 0 0 0 = some (900, 1100, 0, false, 0, 0, true, ([] : List S82), 0, 0, 0) := by kernel_rfl
theorem clepsydralaw21_alive.elf : sat_Bound.f 100 0 0 2305843009213693952 = some 0 := by kernel_rfl
theorem clepsydralaw21_alive.ef2 : health_Far.f 100 4 1 2 1000 1 100 10 50 20 5 5000 1000 0 = some 540 := by kernel_rfl
theorem clepsydralaw21_alive.emo : sat_Add.f 100 [1100, 540] = some 1640 := by kernel_rfl
theorem clepsydralaw21_alive.eme : hlc_Clock_Mend.f 100 0 0 1000 1640 = some (0, 0, false) := by kernel_rfl
theorem clepsydralaw21_alive.etk : hlc_Clock_Tick.f 100 0 0 1000 = some (1000, 0) := by kernel_rfl
theorem clepsydralaw21_alive.eo2 : health_Of.f 100 4 1 2 1000 1 100 10 50 20 5 5000 1000 900 1100 1000 true 0 0 true ([] : List S82) 1000 0 0 = some 1 := by kernel_rfl
def clepsydralaw21_alive.f : Option Bool := some true
set_option maxHeartbeats 8000000 in
set_option maxRecDepth 100000 in
theorem clepsydralaw21_alive.calls (r : Bool) (w : World) (h : clepsydralaw21_alive.f = some r) : Calls Tryd.prog 4 #[] w fun e w' => e = .returned (.bool r) ∧ Below w.heap.size w w' := by
 obtain rfl := Option.some.inj h
 clear h
 have HB := Aside0.mk (Below.refl w.heap.size w)
 go_enter Tryd.func4, Tryd.ntmps4
 go_upto_region 2 with (first | (go_at_call 18; (with_reducible refine (clepsydralaw21_some.calls _ _ _ _ _ _ _ _ _ _ _ _ _ rfl).mono ?_); rintro e w1_ ⟨rfl, hb⟩; replace HB := Aside0.mk (below_step HB.1 hb); clear hb) | ((with_reducible refine gate_dst (N := 8) rfl ?_); refine bx 8 #[.int .i64 4, .int .i64 1, .int .i64 2, .int .i64 1000, .int .i64 1, .int .i64 100, .int .i64 10, .int .i64 50, .int .i64 20, .int .i64 5, .int .i64 5000, .int .i64 1000, .int .i64 0, .int .i64 0, .int .i64 0, .bool false, .int .i64 0, .int .i64 0, .bool false, .slice none 0 0, .int .i64 0, .int .i64 0, .int .i64 0] 35 ?_; intro g hg w2_ hbox hb; have E_g : Aside0 (w.heap.size ≤ g) := ⟨by rw [hg]; exact below_size HB.1⟩; replace HB := Aside0.mk (below_step HB.1 hb); have B_g := Aside0.mk hbox; clear hb hbox hg))
 go_upto_region 3 with ((go_at_call 7; (refine (health_Front_Now.boot 100 g 4 1 2 1000 1 100 10 50 20 5 5000 1000 0 0 0 false 0 0 false none 0 [] 0 0 0 _ (Kd.C_nil _ _) (Nat.le_refl _) B_g.1 clepsydralaw21_alive.eof).mono ?_); rintro e w3_ ⟨rfl, hb⟩; replace B_g := bb hb B_g.1; replace HB := Aside0.mk (below_step HB.1 hb); clear hb))
 go_upto_region 4 with ((go_at_call 17; (refine (health_Front_Step.calls 100 g 4 1 2 1000 1 100 10 50 20 5 5000 1000 0 0 0 false 0 0 false none 0 [] 0 0 0 1000 900 1100 0 false 0 0 true none 0 [] 0 0 0 1000 1000 0 0 0 true 1000 true 900 1100 0 false 0 0 true [] 0 0 0 0 540 1640 0 0 false 1000 0 0 _ (Kd.C_nil _ _) (Nat.le_refl _) (Kd.C_nil _ _) (Nat.le_refl _) B_g.1 clepsydralaw21_alive.eto clepsydralaw21_alive.ead clepsydralaw21_alive.esb clepsydralaw21_alive.eab clepsydralaw21_alive.eof (Or.inl ⟨rfl, rfl⟩) clepsydralaw21_alive.ecl clepsydralaw21_alive.esa clepsydralaw21_alive.elf clepsydralaw21_alive.ef2 clepsydralaw21_alive.emo clepsydralaw21_alive.eme clepsydralaw21_alive.etk (Or.inr ⟨rfl, by decide, rfl⟩)).mono ?_); rintro e w4_ ⟨mA, mc, rfl, hg, hn, ho⟩; have R_m := Aside0.mk (Kd.R_lower ho (below_size HB.1)); replace B_g := Aside0.mk (hn); replace HB := Aside0.mk (pw_below_grown HB.1 (some g) (below_size HB.1) hg (fun k_ e_ => by cases e_; exact E_g.1)); clear hg hn ho))
 go_upto_region 5 with ((go_at_call 7; (refine (health_Front_Now.ok 100 g 4 1 2 1000 1 100 10 50 20 5 5000 1000 900 1100 1000 true 0 0 true mA mc [] 1000 0 0 1 (by decide) _ (Kd.R_reads' R_m.1).2.2 (Nat.zero_le _) B_g.1 clepsydralaw21_alive.eo2).mono ?_); rintro e w5_ ⟨rfl, hb⟩; replace B_g := bb hb B_g.1; replace R_m := Aside0.mk (Kd.R_below R_m.1 hb); replace HB := Aside0.mk (below_step HB.1 hb); clear hb))
 go_wp2_with ((go_at_call 13; (refine (health_Front_Health.calls 100 g 4 1 2 1000 1 100 10 50 20 5 5000 1000 900 1100 1000 true 0 0 true mA mc [] 1000 0 0 1 _ (Kd.R_reads' R_m.1).2.2 (Nat.zero_le _) B_g.1 clepsydralaw21_alive.eo2).mono ?_); rintro e w6_ ⟨rfl, hb⟩; replace B_g := bb hb B_g.1; replace R_m := Aside0.mk (Kd.R_below R_m.1 hb); replace HB := Aside0.mk (below_step HB.1 hb); clear hb))
 go_ret
 exact ⟨rfl, HB.1⟩

/-! ### clepsydralaw21_long: function 5 -/
def clepsydralaw21_long.f (a0_0 : Int) (a0_1 : Int) (a0_2 : Int) (a0_3 : Bool) (a0_4 : Int) (a0_5 : Int) (a0_6 : Bool) (l0_7 : List (S82)) (a0_8 : Int) (a0_9 : Int) (a0_10 : Int) (a1_0 : Int) (a1_1 : Int) (a1_2 : Int) (a1_3 : Bool) (a1_4 : Int) (a1_5 : Int) (a1_6 : Bool) (l1_7 : List (S82)) (a1_8 : Int) (a1_9 : Int) (a1_10 : Int) : Option (Bool) := if (l0_7.length : Int) > 256 then (some true) else (some (decide ((l1_7.length : Int) > 256)))
set_option maxHeartbeats 8000000 in
set_option maxRecDepth 100000 in
theorem clepsydralaw21_long.calls (a0_0 : Int) (a0_1 : Int) (a0_2 : Int) (a0_3 : Bool) (a0_4 : Int) (a0_5 : Int) (a0_6 : Bool) (A0_7 : Option Addr) (c0_7 : Nat) (l0_7 : List (S82)) (a0_8 : Int) (a0_9 : Int) (a0_10 : Int) (a1_0 : Int) (a1_1 : Int) (a1_2 : Int) (a1_3 : Bool) (a1_4 : Int) (a1_5 : Int) (a1_6 : Bool) (A1_7 : Option Addr) (c1_7 : Nat) (l1_7 : List (S82)) (a1_8 : Int) (a1_9 : Int) (a1_10 : Int) (r : Bool) (w : World) (hr0_7 : Kd.C k82 w A0_7 l0_7.length l0_7) (hc0_7 : l0_7.length ≤ c0_7) (hr1_7 : Kd.C k82 w A1_7 l1_7.length l1_7) (hc1_7 : l1_7.length ≤ c1_7) (h : clepsydralaw21_long.f a0_0 a0_1 a0_2 a0_3 a0_4 a0_5 a0_6 l0_7 a0_8 a0_9 a0_10 a1_0 a1_1 a1_2 a1_3 a1_4 a1_5 a1_6 l1_7 a1_8 a1_9 a1_10 = some r) :
  Calls Tryd.prog 5 #[.agg #[.int .i64 a0_0, .int .i64 a0_1, .int .i64 a0_2, .bool a0_3, .int .i64 a0_4, .int .i64 a0_5, .bool a0_6, .slice A0_7 l0_7.length c0_7, .int .i64 a0_8, .int .i64 a0_9, .int .i64 a0_10], .agg #[.int .i64 a1_0, .int .i64 a1_1, .int .i64 a1_2, .bool a1_3, .int .i64 a1_4, .int .i64 a1_5, .bool a1_6, .slice A1_7 l1_7.length c1_7, .int .i64 a1_8, .int .i64 a1_9, .int .i64 a1_10]] w fun e w' => e = .returned (.bool r) ∧ Below w.heap.size w w' := by
 have hu30 := Tryd.underlying30
 have HR0_7 := mk hr0_7
 have HC0_7 := mk hc0_7
 clear hr0_7 hc0_7
 have HR1_7 := mk hr1_7
 have HC1_7 := mk hc1_7
 clear hr1_7 hc1_7
 have HB := mk (Below.refl w.heap.size w)
 have H : (if (l0_7.length : Int) > 256 then (some true) else (some (decide ((l1_7.length : Int) > 256)))) = some r := h
 clear h
 by_cases c3 : (l0_7.length : Int) > 256
 ·rw [if_pos c3] at H
  have c3b0 : decide (256 < (l0_7.length : Int)) = true := decide_eq_true c3
  have c3b1 : decide (256 < l0_7.length) = true := decide_eq_true (by omega)
  clear c3
  obtain rfl := Option.some.inj H
  go_enter Tryd.func5, Tryd.ntmps5
  go_wp2_with (first | ((with_reducible refine gate_dst (N := 2) rfl ?_); (try (refine gate_guard (by rfl) ?_; dsimp only)); refine bx 2 #[.int .i64 a0_0, .int .i64 a0_1, .int .i64 a0_2, .bool a0_3, .int .i64 a0_4, .int .i64 a0_5, .bool a0_6, .slice A0_7 l0_7.length c0_7, .int .i64 a0_8, .int .i64 a0_9, .int .i64 a0_10] 30 ?_; intro g0_ hg w4 hbox hb; have B0_ := mk (hbox); have W0_ := gl hg zq; have E0_ := gl hg zq; replace HB := mk (below_step zq hb); clear hb hbox hg) | ((with_reducible refine gate_dst (N := 3) rfl ?_); (try (refine gate_guard (by rfl) ?_; dsimp only)); refine bx 3 #[.int .i64 a1_0, .int .i64 a1_1, .int .i64 a1_2, .bool a1_3, .int .i64 a1_4, .int .i64 a1_5, .bool a1_6, .slice A1_7 l1_7.length c1_7, .int .i64 a1_8, .int .i64 a1_9, .int .i64 a1_10] 30 ?_; intro g1_ hg w5 hbox hb; have B1_ := mk (hbox); have W1_ := gl hg zq; have E1_ := gl hg zq; replace HB := mk (below_step zq hb); have N01_ := nl hg B0_.1; have N10_ := ng hg B0_.1; replace B0_ := bb hb B0_.1; clear hb hbox hg; have hnb6 := N01_.1; have hnc6 := N10_.1; have hcz7_7 : w5.cell? ⟨g0_, 7, none⟩ = some (.slice A0_7 l0_7.length c0_7) := bQ B0_.1 7; have hfz7_7 := blk_frozen B0_.1 7))
  go_ret
  exact ⟨by first | rfl | (simp [errW_none, errW_some] <;> rfl) | (simp [*, errW_none, errW_some] <;> rfl), by repeat (first | (with_reducible first | exact HB.1 | apply bA | apply pD | apply b1 | apply bS E0_.1 | apply bS E1_.1) | exact HB.1)⟩
 rw [if_neg c3] at H
 have c3b0 : decide (256 < (l0_7.length : Int)) = false := decide_eq_false c3
 have c3b1 : decide (256 < l0_7.length) = false := decide_eq_false (by omega)
 clear c3
 obtain rfl := Option.some.inj H
 go_enter Tryd.func5, Tryd.ntmps5
 go_wp2_with (first | ((with_reducible refine gate_dst (N := 2) rfl ?_); (try (refine gate_guard (by rfl) ?_; dsimp only)); refine bx 2 #[.int .i64 a0_0, .int .i64 a0_1, .int .i64 a0_2, .bool a0_3, .int .i64 a0_4, .int .i64 a0_5, .bool a0_6, .slice A0_7 l0_7.length c0_7, .int .i64 a0_8, .int .i64 a0_9, .int .i64 a0_10] 30 ?_; intro g0_ hg w8 hbox hb; have B0_ := mk (hbox); have W0_ := gl hg zq; have E0_ := gl hg zq; replace HB := mk (below_step zq hb); clear hb hbox hg) | ((with_reducible refine gate_dst (N := 3) rfl ?_); (try (refine gate_guard (by rfl) ?_; dsimp only)); refine bx 3 #[.int .i64 a1_0, .int .i64 a1_1, .int .i64 a1_2, .bool a1_3, .int .i64 a1_4, .int .i64 a1_5, .bool a1_6, .slice A1_7 l1_7.length c1_7, .int .i64 a1_8, .int .i64 a1_9, .int .i64 a1_10] 30 ?_; intro g1_ hg w9 hbox hb; have B1_ := mk (hbox); have W1_ := gl hg zq; have E1_ := gl hg zq; replace HB := mk (below_step zq hb); have N01_ := nl hg B0_.1; have N10_ := ng hg B0_.1; replace B0_ := bb hb B0_.1; clear hb hbox hg; have hnb10 := N01_.1; have hnc10 := N10_.1; have hcz11_7 : w9.cell? ⟨g0_, 7, none⟩ = some (.slice A0_7 l0_7.length c0_7) := bQ B0_.1 7; have hfz11_7 := blk_frozen B0_.1 7; have hcz12_7 : w9.cell? ⟨g1_, 7, none⟩ = some (.slice A1_7 l1_7.length c1_7) := bQ B1_.1 7; have hfz12_7 := blk_frozen B1_.1 7))
 go_ret
 exact ⟨by first | rfl | (simp [errW_none, errW_some] <;> rfl) | (simp [*, errW_none, errW_some] <;> rfl), by repeat (first | (with_reducible first | exact HB.1 | apply bA | apply pD | apply b1 | apply bS E0_.1 | apply bS E1_.1) | exact HB.1)⟩

/-! ### clepsydraref21_Of: function 6 -/
def clepsydraref21_Of.j0 : Nat → Bool → Int → Int → Int → Int → Int → Int → Int → Int → Int → Int → Int → Int → Int → Int → Int → Bool → Int → Int → Bool → List (S82) → Int → Int → Int → Option (Int)
 | 0, _, _, _, _, _, _, _, _, _, _, _, _, _, _, _, _, _, _, _, _, _, _, _, _ => none
 | k + 1, x19, x242000, x242001, x242002, x242003, x242004, x242005, x242006, x242007, x242008, x242009, x242010, x242011, x243000, x243001, x243002, x243003, x243004, x243005, x243006, x243007, x243008, x243009, x243010 => if x19 = true then (some 0) else (if x243004 > x242009 then (some 2) else (some 1))
def clepsydraref21_Of.f (k : Nat) (a0_0 : Int) (a0_1 : Int) (a0_2 : Int) (a0_3 : Int) (a0_4 : Int) (a0_5 : Int) (a0_6 : Int) (a0_7 : Int) (a0_8 : Int) (a0_9 : Int) (a0_10 : Int) (a0_11 : Int) (a1_0 : Int) (a1_1 : Int) (a1_2 : Int) (a1_3 : Bool) (a1_4 : Int) (a1_5 : Int) (a1_6 : Bool) (l1_7 : List (S82)) (a1_8 : Int) (a1_9 : Int) (a1_10 : Int) : Option (Int) := if a1_6 = true then (if a1_3 = true then (clepsydraref21_Of.j0 k (decide (a1_5 > a0_2)) a0_0 a0_1 a0_2 a0_3 a0_4 a0_5 a0_6 a0_7 a0_8 a0_9 a0_10 a0_11 a1_0 a1_1 a1_2 a1_3 a1_4 a1_5 a1_6 l1_7 a1_8 a1_9 a1_10) else (clepsydraref21_Of.j0 k true a0_0 a0_1 a0_2 a0_3 a0_4 a0_5 a0_6 a0_7 a0_8 a0_9 a0_10 a0_11 a1_0 a1_1 a1_2 a1_3 a1_4 a1_5 a1_6 l1_7 a1_8 a1_9 a1_10)) else (clepsydraref21_Of.j0 k true a0_0 a0_1 a0_2 a0_3 a0_4 a0_5 a0_6 a0_7 a0_8 a0_9 a0_10 a0_11 a1_0 a1_1 a1_2 a1_3 a1_4 a1_5 a1_6 l1_7 a1_8 a1_9 a1_10)
theorem clepsydraref21_Of.mono_l : ∀ k, (∀ y0 y1 y2 y3 y4 y5 y6 y7 y8 y9 y10 y11 y12 y13 y14 y15 y16 y17 y18 y19 y20 y21 y22 y23, LeO (clepsydraref21_Of.j0 k y0 y1 y2 y3 y4 y5 y6 y7 y8 y9 y10 y11 y12 y13 y14 y15 y16 y17 y18 y19 y20 y21 y22 y23) (clepsydraref21_Of.j0 (k + 1) y0 y1 y2 y3 y4 y5 y6 y7 y8 y9 y10 y11 y12 y13 y14 y15 y16 y17 y18 y19 y20 y21 y22 y23))
 | 0 => fun _ _ _ _ _ _ _ _ _ _ _ _ _ _ _ _ _ _ _ _ _ _ _ _ r h => by simp [clepsydraref21_Of.j0] at h
 | k + 1 => by
  have ih0 := clepsydraref21_Of.mono_l k
  intro y0 y1 y2 y3 y4 y5 y6 y7 y8 y9 y10 y11 y12 y13 y14 y15 y16 y17 y18 y19 y20 y21 y22 y23
  unfold clepsydraref21_Of.j0
  repeat' first
  | (with_reducible exact ih0 _ _ _ _ _ _ _ _ _ _ _ _ _ _ _ _ _ _ _ _ _ _ _ _)
  | (with_reducible exact LeO.refl _)
  | (with_reducible exact LeO.none _)
  | (with_reducible refine LeO.ite ?_ ?_)
  | (with_reducible refine LeO.bind ?_ (fun _ => ?_))
  | exact ih0 _ _ _ _ _ _ _ _ _ _ _ _ _ _ _ _ _ _ _ _ _ _ _ _
  | exact LeO.none _
  | refine LeO.ite ?_ ?_
  | refine LeO.bind ?_ (fun _ => ?_)
theorem clepsydraref21_Of.mono : ∀ a0 a1 a2 a3 a4 a5 a6 a7 a8 a9 a10 a11 a12 a13 a14 a15 a16 a17 a18 a19 a20 a21 a22 k, LeO (clepsydraref21_Of.f k a0 a1 a2 a3 a4 a5 a6 a7 a8 a9 a10 a11 a12 a13 a14 a15 a16 a17 a18 a19 a20 a21 a22) (clepsydraref21_Of.f (k + 1) a0 a1 a2 a3 a4 a5 a6 a7 a8 a9 a10 a11 a12 a13 a14 a15 a16 a17 a18 a19 a20 a21 a22) := by
 intro a0 a1 a2 a3 a4 a5 a6 a7 a8 a9 a10 a11 a12 a13 a14 a15 a16 a17 a18 a19 a20 a21 a22 k
 have ih0 := clepsydraref21_Of.mono_l k
 unfold clepsydraref21_Of.f
 repeat' first
   | (with_reducible exact ih0 _ _ _ _ _ _ _ _ _ _ _ _ _ _ _ _ _ _ _ _ _ _ _ _)
   | (with_reducible exact LeO.refl _)
   | (with_reducible exact LeO.none _)
   | (with_reducible refine LeO.ite ?_ ?_)
   | (with_reducible refine LeO.bind ?_ (fun _ => ?_))
   | exact ih0 _ _ _ _ _ _ _ _ _ _ _ _ _ _ _ _ _ _ _ _ _ _ _ _
   | exact LeO.none _
   | refine LeO.ite ?_ ?_
   | refine LeO.bind ?_ (fun _ => ?_)
set_option maxHeartbeats 8000000 in
set_option maxRecDepth 100000 in
theorem clepsydraref21_Of.calls (k : Nat) (a0_0 : Int) (a0_1 : Int) (a0_2 : Int) (a0_3 : Int) (a0_4 : Int) (a0_5 : Int) (a0_6 : Int) (a0_7 : Int) (a0_8 : Int) (a0_9 : Int) (a0_10 : Int) (a0_11 : Int) (a1_0 : Int) (a1_1 : Int) (a1_2 : Int) (a1_3 : Bool) (a1_4 : Int) (a1_5 : Int) (a1_6 : Bool) (A1_7 : Option Addr) (c1_7 : Nat) (l1_7 : List (S82)) (a1_8 : Int) (a1_9 : Int) (a1_10 : Int) (r : Int) (w : World) (hr1_7 : Kd.C k82 w A1_7 l1_7.length l1_7) (hc1_7 : l1_7.length ≤ c1_7) (h : clepsydraref21_Of.f k a0_0 a0_1 a0_2 a0_3 a0_4 a0_5 a0_6 a0_7 a0_8 a0_9 a0_10 a0_11 a1_0 a1_1 a1_2 a1_3 a1_4 a1_5 a1_6 l1_7 a1_8 a1_9 a1_10 = some r) :
  Calls Tryd.prog 6 #[.agg #[.int .i64 a0_0, .int .i64 a0_1, .int .i64 a0_2, .int .i64 a0_3, .int .i64 a0_4, .int .i64 a0_5, .int .i64 a0_6, .int .i64 a0_7, .int .i64 a0_8, .int .i64 a0_9, .int .i64 a0_10, .int .i64 a0_11], .agg #[.int .i64 a1_0, .int .i64 a1_1, .int .i64 a1_2, .bool a1_3, .int .i64 a1_4, .int .i64 a1_5, .bool a1_6, .slice A1_7 l1_7.length c1_7, .int .i64 a1_8, .int .i64 a1_9, .int .i64 a1_10]] w fun e w' => e = .returned (.int .i64 r) ∧ Below w.heap.size w w' := by
 have hu23 := Tryd.underlying23
 have hu30 := Tryd.underlying30
 have HR1_7 := mk hr1_7
 have HC1_7 := mk hc1_7
 clear hr1_7 hc1_7
 have HB := mk (Below.refl w.heap.size w)
 have H : (if a1_6 = true then (if a1_3 = true then (clepsydraref21_Of.j0 k (decide (a1_5 > a0_2)) a0_0 a0_1 a0_2 a0_3 a0_4 a0_5 a0_6 a0_7 a0_8 a0_9 a0_10 a0_11 a1_0 a1_1 a1_2 a1_3 a1_4 a1_5 a1_6 l1_7 a1_8 a1_9 a1_10) else (clepsydraref21_Of.j0 k true a0_0 a0_1 a0_2 a0_3 a0_4 a0_5 a0_6 a0_7 a0_8 a0_9 a0_10 a0_11 a1_0 a1_1 a1_2 a1_3 a1_4 a1_5 a1_6 l1_7 a1_8 a1_9 a1_10)) else (clepsydraref21_Of.j0 k true a0_0 a0_1 a0_2 a0_3 a0_4 a0_5 a0_6 a0_7 a0_8 a0_9 a0_10 a0_11 a1_0 a1_1 a1_2 a1_3 a1_4 a1_5 a1_6 l1_7 a1_8 a1_9 a1_10)) = some r := h
 clear h
 have HC3 := mk H
 clear H
 go_enter Tryd.func6, Tryd.ntmps6
 go_upto_region 1 with (first | ((with_reducible refine gate_dst (N := 2) rfl ?_); refine bx 2 #[.int .i64 a0_0, .int .i64 a0_1, .int .i64 a0_2, .int .i64 a0_3, .int .i64 a0_4, .int .i64 a0_5, .int .i64 a0_6, .int .i64 a0_7, .int .i64 a0_8, .int .i64 a0_9, .int .i64 a0_10, .int .i64 a0_11] 23 ?_; intro g0_ hg w4 hbox hb; have B0_ := mk (hbox); have W0_ := gl hg zq; have E0_ := gl hg zq; replace HB := mk (below_step zq hb); clear hb hbox hg) | ((with_reducible refine gate_dst (N := 3) rfl ?_); refine bx 3 #[.int .i64 a1_0, .int .i64 a1_1, .int .i64 a1_2, .bool a1_3, .int .i64 a1_4, .int .i64 a1_5, .bool a1_6, .slice A1_7 l1_7.length c1_7, .int .i64 a1_8, .int .i64 a1_9, .int .i64 a1_10] 30 ?_; intro g1_ hg w5 hbox hb; have B1_ := mk (hbox); have W1_ := gl hg zq; have E1_ := gl hg zq; replace HB := mk (below_step zq hb); have N01_ := nl hg B0_.1; have N10_ := ng hg B0_.1; replace B0_ := bb hb B0_.1; clear hb hbox hg))
 (try simp only [Act.put, zA, zB, zC])
 go_cut [19] (fun v19 wc => ∃ (kq : Nat) (x19_2 : Bool), v19 = .bool x19_2 ∧ Aside0 (clepsydraref21_Of.j0 kq x19_2 a0_0 a0_1 a0_2 a0_3 a0_4 a0_5 a0_6 a0_7 a0_8 a0_9 a0_10 a0_11 a1_0 a1_1 a1_2 a1_3 a1_4 a1_5 a1_6 l1_7 a1_8 a1_9 a1_10 = some r) ∧ Aside0 (kq ≤ k) ∧ Aside0 (wc.heap[g0_]? = some (.cells #[.int .i64 a0_0, .int .i64 a0_1, .int .i64 a0_2, .int .i64 a0_3, .int .i64 a0_4, .int .i64 a0_5, .int .i64 a0_6, .int .i64 a0_7, .int .i64 a0_8, .int .i64 a0_9, .int .i64 a0_10, .int .i64 a0_11] 23 (0, 0))) ∧ Aside0 (wc.heap[g1_]? = some (.cells #[.int .i64 a1_0, .int .i64 a1_1, .int .i64 a1_2, .bool a1_3, .int .i64 a1_4, .int .i64 a1_5, .bool a1_6, (.slice A1_7 l1_7.length c1_7), .int .i64 a1_8, .int .i64 a1_9, .int .i64 a1_10] 30 (0, 0))) ∧ Aside0 (Below w.heap.size w wc))
 case first =>
  have H := HC3.1
  clear HC3
  by_cases c6 : a1_6 = true
  ·subst c6
   have H1 : (if a1_3 = true then (clepsydraref21_Of.j0 k (decide (a1_5 > a0_2)) a0_0 a0_1 a0_2 a0_3 a0_4 a0_5 a0_6 a0_7 a0_8 a0_9 a0_10 a0_11 a1_0 a1_1 a1_2 a1_3 a1_4 a1_5 true l1_7 a1_8 a1_9 a1_10) else (clepsydraref21_Of.j0 k true a0_0 a0_1 a0_2 a0_3 a0_4 a0_5 a0_6 a0_7 a0_8 a0_9 a0_10 a0_11 a1_0 a1_1 a1_2 a1_3 a1_4 a1_5 true l1_7 a1_8 a1_9 a1_10)) = some r := by rw [if_pos rfl] at H; exact H
   clear H
   have H := H1
   clear H1
   by_cases c7 : a1_3 = true
   ·subst c7
    have H1 : (clepsydraref21_Of.j0 k (decide (a1_5 > a0_2)) a0_0 a0_1 a0_2 a0_3 a0_4 a0_5 a0_6 a0_7 a0_8 a0_9 a0_10 a0_11 a1_0 a1_1 a1_2 true a1_4 a1_5 true l1_7 a1_8 a1_9 a1_10) = some r := by rw [if_pos rfl] at H; exact H
    clear H
    have H := H1
    clear H1
    have H' := mk H
    clear H
    have hnb8 := N10_.1
    have hnc8 := N01_.1
    have hcz9_3 : w5.cell? ⟨g1_, 3, none⟩ = some (.bool true) := bQ B1_.1 3
    have hcz9_5 : w5.cell? ⟨g1_, 5, none⟩ = some (.int .i64 a1_5) := bQ B1_.1 5
    have hcz9_6 : w5.cell? ⟨g1_, 6, none⟩ = some (.bool true) := bQ B1_.1 6
    have hfz9_3 := blk_frozen B1_.1 3
    have hfz9_5 := blk_frozen B1_.1 5
    have hfz9_6 := blk_frozen B1_.1 6
    have hcz10_2 : w5.cell? ⟨g0_, 2, none⟩ = some (.int .i64 a0_2) := bQ B0_.1 2
    have hfz10_2 := blk_frozen B0_.1 2
    go_wp2
    go_meet
    case rel => exact ⟨_, (decide (a1_5 > a0_2)), zs, H', ⟨by first | omega | exact Nat.le_refl _⟩, ⟨by exact B0_.1⟩, ⟨by exact B1_.1⟩, ⟨by repeat (first | (with_reducible first | exact HB.1 | apply bA | apply pD | apply b1 | apply bS E0_.1 | apply bS E1_.1) | exact HB.1)⟩⟩
   replace c7 := Bool.eq_false_iff.mpr c7
   subst c7
   have H1 : (clepsydraref21_Of.j0 k true a0_0 a0_1 a0_2 a0_3 a0_4 a0_5 a0_6 a0_7 a0_8 a0_9 a0_10 a0_11 a1_0 a1_1 a1_2 false a1_4 a1_5 true l1_7 a1_8 a1_9 a1_10) = some r := by rw [if_neg (show ¬ (false = true) by decide)] at H; exact H
   clear H
   have H := H1
   clear H1
   have H' := mk H
   clear H
   have hnb11 := N10_.1
   have hnc11 := N01_.1
   have hcz12_3 : w5.cell? ⟨g1_, 3, none⟩ = some (.bool false) := bQ B1_.1 3
   have hcz12_6 : w5.cell? ⟨g1_, 6, none⟩ = some (.bool true) := bQ B1_.1 6
   have hfz12_3 := blk_frozen B1_.1 3
   have hfz12_6 := blk_frozen B1_.1 6
   go_wp2
   go_meet
   case rel => exact ⟨_, (true), zs, H', ⟨by first | omega | exact Nat.le_refl _⟩, ⟨by exact B0_.1⟩, ⟨by exact B1_.1⟩, ⟨by repeat (first | (with_reducible first | exact HB.1 | apply bA | apply pD | apply b1 | apply bS E0_.1 | apply bS E1_.1) | exact HB.1)⟩⟩
  replace c6 := Bool.eq_false_iff.mpr c6
  subst c6
  have H1 : (clepsydraref21_Of.j0 k true a0_0 a0_1 a0_2 a0_3 a0_4 a0_5 a0_6 a0_7 a0_8 a0_9 a0_10 a0_11 a1_0 a1_1 a1_2 a1_3 a1_4 a1_5 false l1_7 a1_8 a1_9 a1_10) = some r := by rw [if_neg (show ¬ (false = true) by decide)] at H; exact H
  clear H
  have H := H1
  clear H1
  have H' := mk H
  clear H
  have hnb13 := N10_.1
  have hnc13 := N01_.1
  have hcz14_6 : w5.cell? ⟨g1_, 6, none⟩ = some (.bool false) := bQ B1_.1 6
  have hfz14_6 := blk_frozen B1_.1 6
  go_wp2
  go_meet
  case rel => exact ⟨_, (true), zs, H', ⟨by first | omega | exact Nat.le_refl _⟩, ⟨by exact B0_.1⟩, ⟨by exact B1_.1⟩, ⟨by repeat (first | (with_reducible first | exact HB.1 | apply bA | apply pD | apply b1 | apply bS E0_.1 | apply bS E1_.1) | exact HB.1)⟩⟩
 case rest =>
  clear HC3
  try clear c1
  try clear p2
  try clear c6
  try clear c7
  try clear c8
  try clear c11
  try clear c13
  try clear hcz10_2
  try clear hcz12_3
  try clear hcz12_6
  try clear hcz14_6
  try clear hcz9_3
  try clear hcz9_5
  try clear hcz9_6
  try clear hfz10_2
  try clear hfz12_3
  try clear hfz12_6
  try clear hfz14_6
  try clear hfz9_3
  try clear hfz9_5
  try clear hfz9_6
  obtain ⟨kq, x19_2, rfl, HA, HJ2, B0_, B1_, HB⟩ := hcut
  cases kq with
  | zero => exact absurd HA.1 (by simp [clepsydraref21_Of.j0])
  | succ kj2 =>
   have H := HA.1
   clear HA
   simp only [clepsydraref21_Of.j0] at H
   by_cases c15 : x19_2 = true
   ·subst c15
    have H1 : (some 0) = some r := by rw [if_pos rfl] at H; exact H
    clear H
    have H := H1
    clear H1
    obtain rfl := Option.some.inj H
    go_wp2
    go_ret
    exact ⟨by first | rfl | (simp [errW_none, errW_some] <;> rfl) | (simp [*, errW_none, errW_some] <;> rfl), by repeat (first | (with_reducible first | exact HB.1 | apply bA | apply pD | apply b1 | apply bS E0_.1 | apply bS E1_.1) | exact HB.1)⟩
   replace c15 := Bool.eq_false_iff.mpr c15
   subst c15
   have H1 : (if a1_4 > a0_9 then (some 2) else (some 1)) = some r := by rw [if_neg (show ¬ (false = true) by decide)] at H; exact H
   clear H
   have H := H1
   clear H1
   by_cases c16 : a1_4 > a0_9
   ·rw [if_pos c16] at H
    have c16b0 : decide (a0_9 < a1_4) = true := decide_eq_true c16
    clear c16
    obtain rfl := Option.some.inj H
    have hnb17 := N10_.1
    have hnc17 := N01_.1
    have hcz18_4 : wc.cell? ⟨g1_, 4, none⟩ = some (.int .i64 a1_4) := bQ B1_.1 4
    have hfz18_4 := blk_frozen B1_.1 4
    have hcz19_9 : wc.cell? ⟨g0_, 9, none⟩ = some (.int .i64 a0_9) := bQ B0_.1 9
    have hfz19_9 := blk_frozen B0_.1 9
    go_wp2
    go_ret
    exact ⟨by first | rfl | (simp [errW_none, errW_some] <;> rfl) | (simp [*, errW_none, errW_some] <;> rfl), by repeat (first | (with_reducible first | exact HB.1 | apply bA | apply pD | apply b1 | apply bS E0_.1 | apply bS E1_.1) | exact HB.1)⟩
   rw [if_neg c16] at H
   have c16b0 : decide (a0_9 < a1_4) = false := decide_eq_false c16
   clear c16
   obtain rfl := Option.some.inj H
   have hnb20 := N10_.1
   have hnc20 := N01_.1
   have hcz21_4 : wc.cell? ⟨g1_, 4, none⟩ = some (.int .i64 a1_4) := bQ B1_.1 4
   have hfz21_4 := blk_frozen B1_.1 4
   have hcz22_9 : wc.cell? ⟨g0_, 9, none⟩ = some (.int .i64 a0_9) := bQ B0_.1 9
   have hfz22_9 := blk_frozen B0_.1 9
   go_wp2
   go_ret
   exact ⟨by first | rfl | (simp [errW_none, errW_some] <;> rfl) | (simp [*, errW_none, errW_some] <;> rfl), by repeat (first | (with_reducible first | exact HB.1 | apply bA | apply pD | apply b1 | apply bS E0_.1 | apply bS E1_.1) | exact HB.1)⟩

-- NOT PRINTED: function 8 (health_Front_Interval)

/-! ### wide_Div: function 20 -/
def wide_Div.f (k : Nat) (a0 : Int) (a1 : Int) : Option (Int × Int) := (sat_Clip.f k a0).bind fun t244 => ((sat_Clip.f k a1).bind fun t245 => (if (mx t245 1) = 0 then (none) else (if (Int.tmod t244 (mx t245 1)) < 0 then (some (wrap64 ((wrap64 (Int.tdiv t244 (mx t245 1))) - 1), wrap64 ((Int.tmod t244 (mx t245 1)) + (mx t245 1)))) else (some (wrap64 (Int.tdiv t244 (mx t245 1)), Int.tmod t244 (mx t245 1))))))
theorem wide_Div.mono : ∀ a0 a1 k, LeO (wide_Div.f k a0 a1) (wide_Div.f (k + 1) a0 a1) := by
 intro a0 a1 k
 unfold wide_Div.f
 repeat' first
   | (with_reducible exact sat_Clip.mono _ _)
   | (with_reducible exact LeO.refl _)
   | (with_reducible exact LeO.none _)
   | (with_reducible refine LeO.ite ?_ ?_)
   | (with_reducible refine LeO.bind ?_ (fun _ => ?_))
   | exact sat_Clip.mono _ _
   | exact LeO.none _
   | refine LeO.ite ?_ ?_
   | refine LeO.bind ?_ (fun _ => ?_)
set_option maxHeartbeats 8000000 in
set_option maxRecDepth 100000 in
theorem wide_Div.calls (k : Nat) (a0 : Int) (a1 : Int) (r1 : Int) (r2 : Int) (w : World) (h : wide_Div.f k a0 a1 = some (r1, r2)) :
  Calls Tryd.prog 20 #[.int .i64 a0, .int .i64 a1] w fun e w' => e = .returned (.tuple #[.int .i64 r1, .int .i64 r2]) ∧ Below w.heap.size w w' := by
 have HB := mk (Below.refl w.heap.size w)
 have H : ((sat_Clip.f k a0).bind fun t244 => ((sat_Clip.f k a1).bind fun t245 => (if (mx t245 1) = 0 then (none) else (if (Int.tmod t244 (mx t245 1)) < 0 then (some (wrap64 ((wrap64 (Int.tdiv t244 (mx t245 1))) - 1), wrap64 ((Int.tmod t244 (mx t245 1)) + (mx t245 1)))) else (some (wrap64 (Int.tdiv t244 (mx t245 1)), Int.tmod t244 (mx t245 1))))))) = some (r1, r2) := h
 clear h
 replace H := Option.bind_eq_some_iff.mp H
 obtain ⟨t244, A30, H⟩ := H
 replace H : ((sat_Clip.f k a1).bind fun t245 => (if (mx t245 1) = 0 then (none) else (if (Int.tmod t244 (mx t245 1)) < 0 then (some (wrap64 ((wrap64 (Int.tdiv t244 (mx t245 1))) - 1), wrap64 ((Int.tmod t244 (mx t245 1)) + (mx t245 1)))) else (some (wrap64 (Int.tdiv t244 (mx t245 1)), Int.tmod t244 (mx t245 1)))))) = some (r1, r2) := H
 have A3 := mk A30
 clear A30
 replace H := Option.bind_eq_some_iff.mp H
 obtain ⟨t245, A40, H⟩ := H
 replace H : (if (mx t245 1) = 0 then (none) else (if (Int.tmod t244 (mx t245 1)) < 0 then (some (wrap64 ((wrap64 (Int.tdiv t244 (mx t245 1))) - 1), wrap64 ((Int.tmod t244 (mx t245 1)) + (mx t245 1)))) else (some (wrap64 (Int.tdiv t244 (mx t245 1)), Int.tmod t244 (mx t245 1))))) = some (r1, r2) := H
 have A4 := mk A40
 clear A40
 obtain ⟨ji5, hji5⟩ : ∃ j_ : Int, (mx t245 1) = j_ := ⟨_, rfl⟩
 replace H : (if (ji5) = 0 then (none) else (if (Int.tmod t244 (ji5)) < 0 then (some (wrap64 ((wrap64 (Int.tdiv t244 (ji5))) - 1), wrap64 ((Int.tmod t244 (ji5)) + (ji5)))) else (some (wrap64 (Int.tdiv t244 (ji5)), Int.tmod t244 (ji5))))) = some (r1, r2) := by first | (rw [hji5] at H; exact H) | (simp only [hji5] at H ⊢; exact H)
 (try rw [hji5] at A3)
 (try rw [hji5] at A4)
 (try (have hji5l : 1 ≤ ji5 := by (rw [← hji5]; unfold mx; (repeat' split) <;> omega)))
 (try (have hji5m : 0 ≤ ji5 := by omega))
 have hji5_ : (if t245 < 1 then 1 else t245) = ji5 := hji5
 by_cases c6 : (ji5) = 0
 ·rw [if_pos c6] at H
  exact absurd H (by simp)
 rw [if_neg c6] at H
 have c6b0 : ((ji5) == 0) = false := beq_eq_false_iff_ne.mpr c6
 have c6b1 : ((ji5) != 0) = true := bne_iff_ne.mpr c6
 by_cases c7 : (Int.tmod t244 (ji5)) < 0
 ·rw [if_pos c7] at H
  have c7b0 : decide ((Int.tmod t244 (ji5)) < 0) = true := decide_eq_true c7
  clear c7
  simp only [Option.some.injEq, Prod.mk.injEq] at H
  obtain ⟨rfl, rfl⟩ := H
  go_enter Tryd.func20, Tryd.ntmps20
  go_wp2_with (first | (go_at_call 40; (with_reducible refine (sat_Clip.calls k a0 t244 _ A3.1).mono ?_); rintro e w' ⟨rfl, ⟨nd, rfl⟩⟩; (try first | exact ⟨rfl, _, World.drewN_drewN _ _ _⟩ | exact ⟨rfl, _, Eq.trans (World.drewN_drewN _ _ _) (congrArg (World.drewN _) (Nat.add_assoc _ _ _))⟩)) | (go_at_call 40; (with_reducible refine (sat_Clip.calls k a1 t245 _ A4.1).mono ?_); rintro e w' ⟨rfl, ⟨nd, rfl⟩⟩; (try first | exact ⟨rfl, _, World.drewN_drewN _ _ _⟩ | exact ⟨rfl, _, Eq.trans (World.drewN_drewN _ _ _) (congrArg (World.drewN _) (Nat.add_assoc _ _ _))⟩)))
  repeat (go_quiet (first | (go_at_call 40; (with_reducible refine (sat_Clip.calls k a0 t244 _ A3.1).mono ?_); rintro e w' ⟨rfl, ⟨nd, rfl⟩⟩; (try first | exact ⟨rfl, _, World.drewN_drewN _ _ _⟩ | exact ⟨rfl, _, Eq.trans (World.drewN_drewN _ _ _) (congrArg (World.drewN _) (Nat.add_assoc _ _ _))⟩)) | (go_at_call 40; (with_reducible refine (sat_Clip.calls k a1 t245 _ A4.1).mono ?_); rintro e w' ⟨rfl, ⟨nd, rfl⟩⟩; (try first | exact ⟨rfl, _, World.drewN_drewN _ _ _⟩ | exact ⟨rfl, _, Eq.trans (World.drewN_drewN _ _ _) (congrArg (World.drewN _) (Nat.add_assoc _ _ _))⟩))); try go_wp2_with (first | (go_at_call 40; (with_reducible refine (sat_Clip.calls k a0 t244 _ A3.1).mono ?_); rintro e w' ⟨rfl, ⟨nd, rfl⟩⟩; (try first | exact ⟨rfl, _, World.drewN_drewN _ _ _⟩ | exact ⟨rfl, _, Eq.trans (World.drewN_drewN _ _ _) (congrArg (World.drewN _) (Nat.add_assoc _ _ _))⟩)) | (go_at_call 40; (with_reducible refine (sat_Clip.calls k a1 t245 _ A4.1).mono ?_); rintro e w' ⟨rfl, ⟨nd, rfl⟩⟩; (try first | exact ⟨rfl, _, World.drewN_drewN _ _ _⟩ | exact ⟨rfl, _, Eq.trans (World.drewN_drewN _ _ _) (congrArg (World.drewN _) (Nat.add_assoc _ _ _))⟩))))
  go_ret2
  exact ⟨by first | rfl | (simp [errW_none, errW_some] <;> rfl) | (simp only [← hji5]; first | rfl | (simp [errW_none, errW_some] <;> rfl)) | (simp [*, errW_none, errW_some] <;> rfl), by repeat (first | (with_reducible first | exact HB.1 | apply bA | apply pD | apply b1) | exact HB.1)⟩
 rw [if_neg c7] at H
 have c7b0 : decide ((Int.tmod t244 (ji5)) < 0) = false := decide_eq_false c7
 clear c7
 simp only [Option.some.injEq, Prod.mk.injEq] at H
 obtain ⟨rfl, rfl⟩ := H
 go_enter Tryd.func20, Tryd.ntmps20
 go_wp2_with (first | (go_at_call 40; (with_reducible refine (sat_Clip.calls k a0 t244 _ A3.1).mono ?_); rintro e w' ⟨rfl, ⟨nd, rfl⟩⟩; (try first | exact ⟨rfl, _, World.drewN_drewN _ _ _⟩ | exact ⟨rfl, _, Eq.trans (World.drewN_drewN _ _ _) (congrArg (World.drewN _) (Nat.add_assoc _ _ _))⟩)) | (go_at_call 40; (with_reducible refine (sat_Clip.calls k a1 t245 _ A4.1).mono ?_); rintro e w' ⟨rfl, ⟨nd, rfl⟩⟩; (try first | exact ⟨rfl, _, World.drewN_drewN _ _ _⟩ | exact ⟨rfl, _, Eq.trans (World.drewN_drewN _ _ _) (congrArg (World.drewN _) (Nat.add_assoc _ _ _))⟩)))
 repeat (go_quiet (first | (go_at_call 40; (with_reducible refine (sat_Clip.calls k a0 t244 _ A3.1).mono ?_); rintro e w' ⟨rfl, ⟨nd, rfl⟩⟩; (try first | exact ⟨rfl, _, World.drewN_drewN _ _ _⟩ | exact ⟨rfl, _, Eq.trans (World.drewN_drewN _ _ _) (congrArg (World.drewN _) (Nat.add_assoc _ _ _))⟩)) | (go_at_call 40; (with_reducible refine (sat_Clip.calls k a1 t245 _ A4.1).mono ?_); rintro e w' ⟨rfl, ⟨nd, rfl⟩⟩; (try first | exact ⟨rfl, _, World.drewN_drewN _ _ _⟩ | exact ⟨rfl, _, Eq.trans (World.drewN_drewN _ _ _) (congrArg (World.drewN _) (Nat.add_assoc _ _ _))⟩))); try go_wp2_with (first | (go_at_call 40; (with_reducible refine (sat_Clip.calls k a0 t244 _ A3.1).mono ?_); rintro e w' ⟨rfl, ⟨nd, rfl⟩⟩; (try first | exact ⟨rfl, _, World.drewN_drewN _ _ _⟩ | exact ⟨rfl, _, Eq.trans (World.drewN_drewN _ _ _) (congrArg (World.drewN _) (Nat.add_assoc _ _ _))⟩)) | (go_at_call 40; (with_reducible refine (sat_Clip.calls k a1 t245 _ A4.1).mono ?_); rintro e w' ⟨rfl, ⟨nd, rfl⟩⟩; (try first | exact ⟨rfl, _, World.drewN_drewN _ _ _⟩ | exact ⟨rfl, _, Eq.trans (World.drewN_drewN _ _ _) (congrArg (World.drewN _) (Nat.add_assoc _ _ _))⟩))))
 go_ret2
 exact ⟨by first | rfl | (simp [errW_none, errW_some] <;> rfl) | (simp only [← hji5]; first | rfl | (simp [errW_none, errW_some] <;> rfl)) | (simp [*, errW_none, errW_some] <;> rfl), by repeat (first | (with_reducible first | exact HB.1 | apply bA | apply pD | apply b1) | exact HB.1)⟩

end Go.Proofs.YtigkjbaclpklpaaDoor.Q
