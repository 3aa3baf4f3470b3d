/- The calls of these Go functions answer what the Lean functions beside them answer; written by a program (wip/pr2.py, out of the print of the loaded program); under no condition but those that stand in the theorems. -/
import Derived.Test.YtigkjbaclpklpaaQx0
import Derived.Test.YtigkjbaclpklpaaQx1
import Derived.Test.YtigkjbaclpklpaaQx2
import Derived.Test.YtigkjbaclpklpaaQx3
import Derived.Test.YtigkjbaclpklpaaQx4
import Derived.Test.YtigkjbaclpklpaaQx7
import Derived.Test.YtigkjbaclpklpaaQx8
import Derived.Test.YtigkjbaclpklpaaQx9
import Derived.Test.YtigkjbaclpklpaaQx13
import Derived.Test.YtigkjbaclpklpaaQx14
import Derived.Test.YtigkjbaclpklpaaQx15
import Derived.Test.YtigkjbaclpklpaaQx16
import Derived.Test.YtigkjbaclpklpaaQx17
namespace Go.Proofs.Ytigkjbaclpklpaa.Q
open Go.RowKit Go.Proofs.YtigkjbaclpklpaaW.PrintWords Go.Proofs.YtigkjbaclpklpaaW.PrintLast Go.Proofs.YtigkjbaclpklpaaW.PrintMore
attribute [local go_sem] max2_int min2_int max_two min_two max_three min_three max_four min_four   -- for this text's walks alone
set_option linter.unusedVariables false
set_option linter.unusedSimpArgs false

attribute [local go_sem high] eqA25 eqA28 eqA42
/-! alive, by hand -/
attribute [local go_sem] hx.fl
theorem clepsydralaw21_alive.eof : health_Of.f 100 4 1 2 1000 1 100 10 50 20 5 5000 1000 0 0 0 false 0 0 false ([] : List S42) 0 0 0 = some 0 := by kernel_rfl
theorem clepsydralaw21_alive.eto : span_Mid.f 100 900 1100 = some 1000 := by kernel_rfl
theorem clepsydralaw21_alive.ead : sat_Add.f 100 [0, 1000] = some 1000 := by kernel_rfl
theorem clepsydralaw21_alive.esb : sat_Sub.f 100 1000 1000 = some 0 := by kernel_rfl
theorem clepsydralaw21_alive.eab : sat_Abs.f 100 0 = some 0 := by kernel_rfl
theorem clepsydralaw21_alive.ecl : slew_Clock_Step.f 100 0 false 4 1 2 1000 1 100 10 50 20 5 5000 1000 1000 1000 true = some (1000, true) := by kernel_rfl
theorem clepsydralaw21_alive.esa : health_Sane.f 100 4 1 2 1000 1 100 10 50 20 5 5000 1000 900 1100 0 false 0 0 true ([] : List S42) 0 0 0 = some (900, 1100, 0, false, 0, 0, true, ([] : List S42), 0, 0, 0) := by kernel_rfl
theorem clepsydralaw21_alive.elf : sat_Bound.f 100 0 0 2305843009213693952 = some 0 := by kernel_rfl
theorem clepsydralaw21_alive.ef2 : health_Far.f 100 4 1 2 1000 1 100 10 50 20 5 5000 1000 0 = some 540 := by kernel_rfl
theorem clepsydralaw21_alive.emo : sat_Add.f 100 [1100, 540] = some 1640 := by kernel_rfl
theorem clepsydralaw21_alive.eme : hlc_Clock_Mend.f 100 0 0 1000 1640 = some (0, 0, false) := by kernel_rfl
theorem clepsydralaw21_alive.etk : hlc_Clock_Tick.f 100 0 0 1000 = some (1000, 0) := by kernel_rfl
theorem clepsydralaw21_alive.eo2 : health_Of.f 100 4 1 2 1000 1 100 10 50 20 5 5000 1000 900 1100 1000 true 0 0 true ([] : List S42) 1000 0 0 = some 1 := by kernel_rfl
def clepsydralaw21_alive.f : Option Bool := some true
set_option maxHeartbeats 8000000 in
set_option maxRecDepth 100000 in
theorem clepsydralaw21_alive.calls (r : Bool) (w : World) (h : clepsydralaw21_alive.f = some r) : Calls Try.prog 8 #[] w fun e w' => e = .returned (.bool r) ∧ Below w.heap.size w w' := by
 obtain rfl := Option.some.inj h
 clear h
 have HB := Aside0.mk (Below.refl w.heap.size w)
 go_enter Try.func8, Try.ntmps8
 go_upto_region 2 with (first | (go_at_call 27; (with_reducible refine (clepsydralaw21_some.calls _ _ _ _ _ _ _ _ _ _ _ _ _ rfl).mono ?_); rintro e w1_ ⟨rfl, hb⟩; have n0_ := Aside0.mk (below_step HB.out hb); clear HB; have HB := n0_; clear n0_; clear hb) | ((with_reducible refine gate_dst (N := 8) rfl ?_); refine box_event ?hg (N := 8) ?hd (cs := #[.int .i64 4, .int .i64 1, .int .i64 2, .int .i64 1000, .int .i64 1, .int .i64 100, .int .i64 10, .int .i64 50, .int .i64 20, .int .i64 5, .int .i64 5000, .int .i64 1000, .int .i64 0, .int .i64 0, .int .i64 0, .bool false, .int .i64 0, .int .i64 0, .bool false, .slice none 0 0, .int .i64 0, .int .i64 0, .int .i64 0]) (t := 39) ?hr ?_; (case hd => rfl); (case hg => rfl); (case hr => first | (go_simp; done) | (go_simp; rfl)); intro g hg w2_ hbox hb; have E_g : Aside0 (w.heap.size ≤ g) := ⟨by rw [hg]; exact below_size HB.out⟩; have n0_ := Aside0.mk (below_step HB.out hb); clear HB; have HB := n0_; clear n0_; have B_g := Aside0.mk hbox; clear hb hbox hg))
 go_upto_region 3 with ((go_at_call 20; (refine (health_Front_Now.boot 100 g 4 1 2 1000 1 100 10 50 20 5 5000 1000 0 0 0 false 0 0 false none 0 [] 0 0 0 _ (Kd.C_nil _ _) (Nat.le_refl _) B_g.out clepsydralaw21_alive.eof).mono ?_); rintro e w3_ ⟨rfl, hb⟩; have n0_ := Aside0.mk (blk_below B_g.out hb); have n1_ := Aside0.mk (below_step HB.out hb); clear B_g HB; have B_g := n0_; have HB := n1_; clear n0_ n1_; clear hb))
 go_upto_region 4 with ((go_at_call 17; (refine (health_Front_Step.calls 100 g 4 1 2 1000 1 100 10 50 20 5 5000 1000 0 0 0 false 0 0 false none 0 [] 0 0 0 1000 900 1100 0 false 0 0 true none 0 [] 0 0 0 1000 1000 0 0 0 true 1000 true 900 1100 0 false 0 0 true [] 0 0 0 0 540 1640 0 0 false 1000 0 0 _ (Kd.C_nil _ _) (Nat.le_refl _) (Kd.C_nil _ _) (Nat.le_refl _) B_g.out clepsydralaw21_alive.eto clepsydralaw21_alive.ead clepsydralaw21_alive.esb clepsydralaw21_alive.eab clepsydralaw21_alive.eof (Or.inl ⟨rfl, rfl⟩) clepsydralaw21_alive.ecl clepsydralaw21_alive.esa clepsydralaw21_alive.elf clepsydralaw21_alive.ef2 clepsydralaw21_alive.emo clepsydralaw21_alive.eme clepsydralaw21_alive.etk (Or.inr ⟨rfl, by decide, rfl⟩)).mono ?_); rintro e w4_ ⟨mA, mc, rfl, hg, hn, ho⟩; have R_m := Aside0.mk (Kd.R_lower ho (below_size HB.out)); have n0_ := Aside0.mk (hn); have n1_ := Aside0.mk (pw_below_grown HB.out (some g) (below_size HB.out) hg (fun k_ e_ => by cases e_; exact E_g.out)); clear B_g HB; have B_g := n0_; have HB := n1_; clear n0_ n1_; clear hg hn ho))
 go_upto_region 5 with ((go_at_call 20; (refine (health_Front_Now.ok 100 g 4 1 2 1000 1 100 10 50 20 5 5000 1000 900 1100 1000 true 0 0 true mA mc [] 1000 0 0 1 (by decide) _ (Kd.R_reads' R_m.out).2.2 (Nat.zero_le _) B_g.out clepsydralaw21_alive.eo2).mono ?_); rintro e w5_ ⟨rfl, hb⟩; have n0_ := Aside0.mk (blk_below B_g.out hb); have n1_ := Aside0.mk (Kd.R_below R_m.out hb); have n2_ := Aside0.mk (below_step HB.out hb); clear B_g R_m HB; have B_g := n0_; have R_m := n1_; have HB := n2_; clear n0_ n1_ n2_; clear hb))
 go_wp2_with ((go_at_call 22; (refine (health_Front_Health.calls 100 g 4 1 2 1000 1 100 10 50 20 5 5000 1000 900 1100 1000 true 0 0 true mA mc [] 1000 0 0 1 _ (Kd.R_reads' R_m.out).2.2 (Nat.zero_le _) B_g.out clepsydralaw21_alive.eo2).mono ?_); rintro e w6_ ⟨rfl, hb⟩; have n0_ := Aside0.mk (blk_below B_g.out hb); have n1_ := Aside0.mk (Kd.R_below R_m.out hb); have n2_ := Aside0.mk (below_step HB.out hb); clear B_g R_m HB; have B_g := n0_; have R_m := n1_; have HB := n2_; clear n0_ n1_ n2_; clear hb))
 go_ret
 exact ⟨rfl, HB.out⟩

/-! ### clepsydralaw21_long: function 9 -/
def clepsydralaw21_long.f (a0_0 : Int) (a0_1 : Int) (a0_2 : Int) (a0_3 : Bool) (a0_4 : Int) (a0_5 : Int) (a0_6 : Bool) (l0_7 : List (S42)) (a0_8 : Int) (a0_9 : Int) (a0_10 : Int) (a1_0 : Int) (a1_1 : Int) (a1_2 : Int) (a1_3 : Bool) (a1_4 : Int) (a1_5 : Int) (a1_6 : Bool) (l1_7 : List (S42)) (a1_8 : Int) (a1_9 : Int) (a1_10 : Int) : Option (Bool) := if (l0_7.length : Int) > 256 then (some true) else (some (decide ((l1_7.length : Int) > 256)))
set_option maxHeartbeats 8000000 in
set_option maxRecDepth 100000 in
theorem clepsydralaw21_long.calls (a0_0 : Int) (a0_1 : Int) (a0_2 : Int) (a0_3 : Bool) (a0_4 : Int) (a0_5 : Int) (a0_6 : Bool) (A0_7 : Option Addr) (c0_7 : Nat) (l0_7 : List (S42)) (a0_8 : Int) (a0_9 : Int) (a0_10 : Int) (a1_0 : Int) (a1_1 : Int) (a1_2 : Int) (a1_3 : Bool) (a1_4 : Int) (a1_5 : Int) (a1_6 : Bool) (A1_7 : Option Addr) (c1_7 : Nat) (l1_7 : List (S42)) (a1_8 : Int) (a1_9 : Int) (a1_10 : Int) (r : Bool) (w : World) (hr0_7 : Kd.C k42 w A0_7 l0_7.length l0_7) (hc0_7 : l0_7.length ≤ c0_7) (hr1_7 : Kd.C k42 w A1_7 l1_7.length l1_7) (hc1_7 : l1_7.length ≤ c1_7) (h : clepsydralaw21_long.f a0_0 a0_1 a0_2 a0_3 a0_4 a0_5 a0_6 l0_7 a0_8 a0_9 a0_10 a1_0 a1_1 a1_2 a1_3 a1_4 a1_5 a1_6 l1_7 a1_8 a1_9 a1_10 = some r) :
  Calls Try.prog 9 #[.agg #[.int .i64 a0_0, .int .i64 a0_1, .int .i64 a0_2, .bool a0_3, .int .i64 a0_4, .int .i64 a0_5, .bool a0_6, .slice A0_7 l0_7.length c0_7, .int .i64 a0_8, .int .i64 a0_9, .int .i64 a0_10], .agg #[.int .i64 a1_0, .int .i64 a1_1, .int .i64 a1_2, .bool a1_3, .int .i64 a1_4, .int .i64 a1_5, .bool a1_6, .slice A1_7 l1_7.length c1_7, .int .i64 a1_8, .int .i64 a1_9, .int .i64 a1_10]] w fun e w' => e = .returned (.bool r) ∧ Below w.heap.size w w' := by
 have hu30 := Try.underlying30
 have HR0_7 := mk hr0_7
 have HC0_7 := mk hc0_7
 clear hr0_7 hc0_7
 have HR1_7 := mk hr1_7
 have HC1_7 := mk hc1_7
 clear hr1_7 hc1_7
 have HB := mk (Below.refl w.heap.size w)
 have H : (if (l0_7.length : Int) > 256 then (some true) else (some (decide ((l1_7.length : Int) > 256)))) = some r := h
 clear h
 by_cases c3 : (l0_7.length : Int) > 256
 ·rw [if_pos c3] at H
  have c3b0 : decide (256 < (l0_7.length : Int)) = true := decide_eq_true c3
  have c3b1 : decide (256 < l0_7.length) = true := decide_eq_true (by omega)
  clear c3
  obtain rfl := Option.some.inj H
  go_enter Try.func9, Try.ntmps9
  go_wp2_with (first | ((with_reducible refine gate_dst (N := 2) rfl ?_); (try (refine gate_guard (by rfl) ?_; dsimp only)); refine box_event ?hg (N := 2) ?hd (cs := #[.int .i64 a0_0, .int .i64 a0_1, .int .i64 a0_2, .bool a0_3, .int .i64 a0_4, .int .i64 a0_5, .bool a0_6, .slice A0_7 l0_7.length c0_7, .int .i64 a0_8, .int .i64 a0_9, .int .i64 a0_10]) (t := 30) ?hr ?_; (case hd => rfl); (case hg => rfl); (case hr => first | (go_simp; done) | (go_simp; rfl)); intro g0_ hg w4 hbox hb; have n0_ := mk (below_step (by repeat first | exact HB.1 | apply pD | apply b1 | refine bT (by assumption) ?_ | apply bA) hb); have n1_ := mk (hbox); have n2_ := gl hg (by repeat first | exact HB.1 | apply pD | apply b1 | refine bT (by assumption) ?_ | apply bA); have n3_ := gl hg (by repeat first | exact HB.1 | apply pD | apply b1 | refine bT (by assumption) ?_ | apply bA); clear HB; have HB := n0_; have B0_ := n1_; have W0_ := n2_; have E0_ := n3_; clear n0_ n1_ n2_ n3_; clear hb hbox hg) | ((with_reducible refine gate_dst (N := 3) rfl ?_); (try (refine gate_guard (by rfl) ?_; dsimp only)); refine box_event ?hg (N := 3) ?hd (cs := #[.int .i64 a1_0, .int .i64 a1_1, .int .i64 a1_2, .bool a1_3, .int .i64 a1_4, .int .i64 a1_5, .bool a1_6, .slice A1_7 l1_7.length c1_7, .int .i64 a1_8, .int .i64 a1_9, .int .i64 a1_10]) (t := 30) ?hr ?_; (case hd => rfl); (case hg => rfl); (case hr => first | (go_simp; done) | (go_simp; rfl)); intro g1_ hg w5 hbox hb; have n0_ := bb hb B0_.1; have n1_ := mk (below_step (by repeat first | exact HB.1 | apply pD | apply b1 | refine bT (by assumption) ?_ | apply bA) hb); have n2_ := mk (hbox); have n3_ := gl hg (by repeat first | exact HB.1 | apply pD | apply b1 | refine bT (by assumption) ?_ | apply bA); have n4_ := gl hg (by repeat first | exact HB.1 | apply pD | apply b1 | refine bT (by assumption) ?_ | apply bA); have n5_ := nl hg B0_.1; have n6_ := ng hg B0_.1; clear B0_; clear HB; have B0_ := n0_; have HB := n1_; have B1_ := n2_; have W1_ := n3_; have E1_ := n4_; have N01_ := n5_; have N10_ := n6_; clear n0_ n1_ n2_ n3_ n4_ n5_ n6_; clear hb hbox hg; have hnb6 := N01_.1; have hnc6 := N10_.1; have hcz7_7 : w5.cell? ⟨g0_, 7, none⟩ = some (.slice A0_7 l0_7.length c0_7) := bQ B0_.1 7; have hfz7_7 := blk_frozen B0_.1 7))
  go_ret
  exact ⟨by first | rfl | (simp [errW_none, errW_some] <;> rfl) | (simp [*, errW_none, errW_some] <;> rfl), by repeat (first | (with_reducible first | exact HB.1 | apply bA | apply pD | apply b1 | apply bS E0_.1 | apply bS E1_.1) | exact HB.1)⟩
 rw [if_neg c3] at H
 have c3b0 : decide (256 < (l0_7.length : Int)) = false := decide_eq_false c3
 have c3b1 : decide (256 < l0_7.length) = false := decide_eq_false (by omega)
 clear c3
 obtain rfl := Option.some.inj H
 go_enter Try.func9, Try.ntmps9
 go_wp2_with (first | ((with_reducible refine gate_dst (N := 2) rfl ?_); (try (refine gate_guard (by rfl) ?_; dsimp only)); refine box_event ?hg (N := 2) ?hd (cs := #[.int .i64 a0_0, .int .i64 a0_1, .int .i64 a0_2, .bool a0_3, .int .i64 a0_4, .int .i64 a0_5, .bool a0_6, .slice A0_7 l0_7.length c0_7, .int .i64 a0_8, .int .i64 a0_9, .int .i64 a0_10]) (t := 30) ?hr ?_; (case hd => rfl); (case hg => rfl); (case hr => first | (go_simp; done) | (go_simp; rfl)); intro g0_ hg w8 hbox hb; have n0_ := mk (below_step (by repeat first | exact HB.1 | apply pD | apply b1 | refine bT (by assumption) ?_ | apply bA) hb); have n1_ := mk (hbox); have n2_ := gl hg (by repeat first | exact HB.1 | apply pD | apply b1 | refine bT (by assumption) ?_ | apply bA); have n3_ := gl hg (by repeat first | exact HB.1 | apply pD | apply b1 | refine bT (by assumption) ?_ | apply bA); clear HB; have HB := n0_; have B0_ := n1_; have W0_ := n2_; have E0_ := n3_; clear n0_ n1_ n2_ n3_; clear hb hbox hg) | ((with_reducible refine gate_dst (N := 3) rfl ?_); (try (refine gate_guard (by rfl) ?_; dsimp only)); refine box_event ?hg (N := 3) ?hd (cs := #[.int .i64 a1_0, .int .i64 a1_1, .int .i64 a1_2, .bool a1_3, .int .i64 a1_4, .int .i64 a1_5, .bool a1_6, .slice A1_7 l1_7.length c1_7, .int .i64 a1_8, .int .i64 a1_9, .int .i64 a1_10]) (t := 30) ?hr ?_; (case hd => rfl); (case hg => rfl); (case hr => first | (go_simp; done) | (go_simp; rfl)); intro g1_ hg w9 hbox hb; have n0_ := bb hb B0_.1; have n1_ := mk (below_step (by repeat first | exact HB.1 | apply pD | apply b1 | refine bT (by assumption) ?_ | apply bA) hb); have n2_ := mk (hbox); have n3_ := gl hg (by repeat first | exact HB.1 | apply pD | apply b1 | refine bT (by assumption) ?_ | apply bA); have n4_ := gl hg (by repeat first | exact HB.1 | apply pD | apply b1 | refine bT (by assumption) ?_ | apply bA); have n5_ := nl hg B0_.1; have n6_ := ng hg B0_.1; clear B0_; clear HB; have B0_ := n0_; have HB := n1_; have B1_ := n2_; have W1_ := n3_; have E1_ := n4_; have N01_ := n5_; have N10_ := n6_; clear n0_ n1_ n2_ n3_ n4_ n5_ n6_; clear hb hbox hg; have hnb10 := N01_.1; have hnc10 := N10_.1; have hcz11_7 : w9.cell? ⟨g0_, 7, none⟩ = some (.slice A0_7 l0_7.length c0_7) := bQ B0_.1 7; have hfz11_7 := blk_frozen B0_.1 7; have hcz12_7 : w9.cell? ⟨g1_, 7, none⟩ = some (.slice A1_7 l1_7.length c1_7) := bQ B1_.1 7; have hfz12_7 := blk_frozen B1_.1 7))
 go_ret
 exact ⟨by first | rfl | (simp [errW_none, errW_some] <;> rfl) | (simp [*, errW_none, errW_some] <;> rfl), by repeat (first | (with_reducible first | exact HB.1 | apply bA | apply pD | apply b1 | apply bS E0_.1 | apply bS E1_.1) | exact HB.1)⟩

/-! ### clepsydraref06_Tables: function 18 -/
def clepsydraref06_Tables.l0 : Nat → List (S42) → List (S42) → Int → Int → Option (Bool)
 | 0, _, _, _, _ => none
 | k + 1, x0, x1, x12, x13 => if x13 < x12 then (if 0 ≤ x13 then (if x13 < (x0.length : Int) then (if x13 < (x1.length : Int) then (if (!(((rd_T42 x0 x13).f0) == ((rd_T42 x1 x13).f0)) || (!(((rd_T42 x0 x13).f1) == ((rd_T42 x1 x13).f1)))) = true then (some false) else (clepsydraref06_Tables.l0 k x0 x1 x12 (wrap64 (x13 + 1)))) else (none)) else (none)) else (none)) else (some true)
def clepsydraref06_Tables.f (k : Nat) (l0 : List (S42)) (l1 : List (S42)) : Option (Bool) := if (l0.length : Int) = (l1.length : Int) then (clepsydraref06_Tables.l0 k l0 l1 (l0.length : Int) 0) else (some false)
theorem clepsydraref06_Tables.mono_l : ∀ k, (∀ y0 y1 y2 y3, LeO (clepsydraref06_Tables.l0 k y0 y1 y2 y3) (clepsydraref06_Tables.l0 (k + 1) y0 y1 y2 y3))
 | 0 => fun _ _ _ _ r h => by simp [clepsydraref06_Tables.l0] at h
 | k + 1 => by
  have ih0 := clepsydraref06_Tables.mono_l k
  intro y0 y1 y2 y3
  unfold clepsydraref06_Tables.l0
  repeat' first
  | (with_reducible exact ih0 _ _ _ _)
  | (with_reducible exact LeO.refl _)
  | (with_reducible exact LeO.none _)
  | (with_reducible refine LeO.ite ?_ ?_)
  | (with_reducible refine LeO.bind ?_ (fun _ => ?_))
  | exact ih0 _ _ _ _
  | exact LeO.none _
  | refine LeO.ite ?_ ?_
  | refine LeO.bind ?_ (fun _ => ?_)
theorem clepsydraref06_Tables.mono : ∀ a0 a1 k, LeO (clepsydraref06_Tables.f k a0 a1) (clepsydraref06_Tables.f (k + 1) a0 a1) := by
 intro a0 a1 k
 have ih0 := clepsydraref06_Tables.mono_l k
 unfold clepsydraref06_Tables.f
 repeat' first
   | (with_reducible exact ih0 _ _ _ _)
   | (with_reducible exact LeO.refl _)
   | (with_reducible exact LeO.none _)
   | (with_reducible refine LeO.ite ?_ ?_)
   | (with_reducible refine LeO.bind ?_ (fun _ => ?_))
   | exact ih0 _ _ _ _
   | exact LeO.none _
   | refine LeO.ite ?_ ?_
   | refine LeO.bind ?_ (fun _ => ?_)
set_option maxHeartbeats 8000000 in
set_option maxRecDepth 100000 in
theorem clepsydraref06_Tables.calls (k : Nat) (A0 : Option Addr) (c0 : Nat) (l0 : List (S42)) (A1 : Option Addr) (c1 : Nat) (l1 : List (S42)) (r : Bool) (w : World) (hr0 : Kd.C k42 w A0 l0.length l0) (hc0 : l0.length ≤ c0) (hr1 : Kd.C k42 w A1 l1.length l1) (hc1 : l1.length ≤ c1) (h : clepsydraref06_Tables.f k l0 l1 = some r) :
  Calls Try.prog 18 #[.slice A0 l0.length c0, .slice A1 l1.length c1] w fun e w' => e = .returned (.bool r) ∧ Drawn0 w w' := by
 have hu42 := Try.underlying42
 have HR0 := mk hr0
 have HC0 := mk hc0
 clear hr0 hc0
 have HR1 := mk hr1
 have HC1 := mk hc1
 clear hr1 hc1
 have H : (if (l0.length : Int) = (l1.length : Int) then (clepsydraref06_Tables.l0 k l0 l1 (l0.length : Int) 0) else (some false)) = some r := h
 clear h
 by_cases c3 : (l0.length : Int) = (l1.length : Int)
 ·rw [if_pos c3] at H
  have c3b0 : ((l0.length : Int) == (l1.length : Int)) = true := beq_iff_eq.mpr c3
  have c3b1 : ((l0.length : Int) != (l1.length : Int)) = false := bne_eq_false_iff_eq.mpr c3
  have c3b2 : (l0.length == l1.length) = true := by first | simpa using c3 | (simp at c3 ⊢; omega)
  clear c3
  have H' := mk H
  clear H
  go_enter Try.func18, Try.ntmps18
  go_wp2
  repeat (go_quiet (fail); try go_wp2)
  go_loopg [13] k (fun kq v13 w' => ∃ (x13_1 : Int), v13 = .int .i64 x13_1 ∧ Aside0 (clepsydraref06_Tables.l0 kq l0 l1 (l0.length : Int) x13_1 = some r) ∧ Aside0 (kq ≤ k) ∧ Drawn0 w w')
  case atStart => exact ⟨(0), (by first | rfl | (simp; done) | (simp [*]; done) | (simp [Int.tdiv_eq_ediv_of_nonneg]; done) | (simp [Go.RowKit.wrap64]; done) | (simp [*, Go.RowKit.wrap64]; done)), H', ⟨Nat.le_refl _⟩, by repeat (first | exact Drawn0.refl _ | apply Drawn0.step)⟩
  case round =>
   clear H'
   try clear c1
   try clear p2
   try clear c3
   try clear c3b0
   try clear c3b1
   try clear c3b2
   obtain ⟨x13_1, rfl, HA, HK1, ⟨m1, rfl⟩⟩ := hrel
   cases gk with
   | zero => exact absurd HA.out (by simp [clepsydraref06_Tables.l0])
   | succ k1 =>
    have H := HA.out
    clear HA
    simp only [clepsydraref06_Tables.l0] at H
    by_cases c4 : x13_1 < (l0.length : Int)
    ·rw [if_pos c4] at H
     have c4b0 : decide (x13_1 < (l0.length : Int)) = true := decide_eq_true c4
     clear c4
     by_cases c5 : 0 ≤ x13_1
     ·rw [if_pos c5] at H
      have c5b0 : decide (0 ≤ x13_1) = true := decide_eq_true c5
      clear c5
      by_cases c6 : x13_1 < (l0.length : Int)
      ·rw [if_pos c6] at H
       have c6b0 : decide (x13_1 < (l0.length : Int)) = true := decide_eq_true c6
       clear c6
       by_cases c7 : x13_1 < (l1.length : Int)
       ·rw [if_pos c7] at H
        have c7b0 : decide (x13_1 < (l1.length : Int)) = true := decide_eq_true c7
        clear c7
        by_cases c8 : (!(((rd_T42 l0 x13_1).f0) == ((rd_T42 l1 x13_1).f0)) || (!(((rd_T42 l0 x13_1).f1) == ((rd_T42 l1 x13_1).f1)))) = true
        ·rw [if_pos c8] at H
         have c8b0 : (!(((rd_T42 l0 x13_1).f0) == ((rd_T42 l1 x13_1).f0)) || (!(((rd_T42 l0 x13_1).f1) == ((rd_T42 l1 x13_1).f1)))) = true := c8
         clear c8
         obtain rfl := Option.some.inj H
         have p241 : 0 ≤ (x13_1 : Int) := of_decide_eq_true (by first | (with_reducible assumption) | assumption)
         have q241 : x13_1 < (l0.length : Int) := of_decide_eq_true (by first | (with_reducible assumption) | assumption)
         obtain ⟨ad241, e241, hx241_0, hx241_1⟩ := at_T42 HR0.out x13_1 p241 q241
         cases e241
         replace p241 := eq_true p241
         replace q241 := eq_true q241
         have p242 : 0 ≤ (x13_1 : Int) := of_decide_eq_true (by first | (with_reducible assumption) | assumption)
         have q242 : x13_1 < (l1.length : Int) := of_decide_eq_true (by first | (with_reducible assumption) | assumption)
         obtain ⟨ad242, e242, hx242_0, hx242_1⟩ := at_T42 HR1.out x13_1 p242 q242
         cases e242
         replace p242 := eq_true p242
         replace q242 := eq_true q242
         go_wp2
         repeat (go_quiet (fail); try go_wp2)
         go_ret
         exact ⟨by first | rfl | (simp; done) | (simp [*]; done) | (simp [Int.tdiv_eq_ediv_of_nonneg]; done) | (simp [Go.RowKit.wrap64]; done) | (simp [*, Go.RowKit.wrap64]; done), by repeat (first | exact Drawn0.refl _ | apply Drawn0.step)⟩
        rw [if_neg c8] at H
        have c8b0 : (!(((rd_T42 l0 x13_1).f0) == ((rd_T42 l1 x13_1).f0)) || (!(((rd_T42 l0 x13_1).f1) == ((rd_T42 l1 x13_1).f1)))) = false := by simpa using c8
        clear c8
        have H' := mk H
        clear H
        have p241 : 0 ≤ (x13_1 : Int) := of_decide_eq_true (by first | (with_reducible assumption) | assumption)
        have q241 : x13_1 < (l0.length : Int) := of_decide_eq_true (by first | (with_reducible assumption) | assumption)
        obtain ⟨ad241, e241, hx241_0, hx241_1⟩ := at_T42 HR0.out x13_1 p241 q241
        cases e241
        replace p241 := eq_true p241
        replace q241 := eq_true q241
        have p242 : 0 ≤ (x13_1 : Int) := of_decide_eq_true (by first | (with_reducible assumption) | assumption)
        have q242 : x13_1 < (l1.length : Int) := of_decide_eq_true (by first | (with_reducible assumption) | assumption)
        obtain ⟨ad242, e242, hx242_0, hx242_1⟩ := at_T42 HR1.out x13_1 p242 q242
        cases e242
        replace p242 := eq_true p242
        replace q242 := eq_true q242
        go_wp2
        repeat (go_quiet (fail); try go_wp2)
        go_roundg k1
        case measure => have := HK1.out; omega
        case rel => exact ⟨(wrap64 (x13_1 + 1)), (by first | rfl | (simp; done) | (simp [*]; done) | (simp [Int.tdiv_eq_ediv_of_nonneg]; done) | (simp [Go.RowKit.wrap64]; done) | (simp [*, Go.RowKit.wrap64]; done)), H', ⟨by have := HK1.out; omega⟩, by repeat (first | exact Drawn0.refl _ | apply Drawn0.step)⟩
       rw [if_neg c7] at H
       exact absurd H (by simp)
      rw [if_neg c6] at H
      exact absurd H (by simp)
     rw [if_neg c5] at H
     exact absurd H (by simp)
    rw [if_neg c4] at H
    have c4b0 : decide (x13_1 < (l0.length : Int)) = false := decide_eq_false c4
    clear c4
    obtain rfl := Option.some.inj H
    go_wp2
    repeat (go_quiet (fail); try go_wp2)
    go_ret
    exact ⟨by first | rfl | (simp; done) | (simp [*]; done) | (simp [Int.tdiv_eq_ediv_of_nonneg]; done) | (simp [Go.RowKit.wrap64]; done) | (simp [*, Go.RowKit.wrap64]; done), by repeat (first | exact Drawn0.refl _ | apply Drawn0.step)⟩
 rw [if_neg c3] at H
 have c3b0 : ((l0.length : Int) == (l1.length : Int)) = false := beq_eq_false_iff_ne.mpr c3
 have c3b1 : ((l0.length : Int) != (l1.length : Int)) = true := bne_iff_ne.mpr c3
 have c3b2 : (l0.length == l1.length) = false := by first | simpa using c3 | (simp at c3 ⊢; omega)
 obtain rfl := Option.some.inj H
 go_enter Try.func18, Try.ntmps18
 go_wp2
 repeat (go_quiet (fail); try go_wp2)
 go_ret
 exact ⟨by first | rfl | (simp; done) | (simp [*]; done) | (simp [Int.tdiv_eq_ediv_of_nonneg]; done) | (simp [Go.RowKit.wrap64]; done) | (simp [*, Go.RowKit.wrap64]; done), by repeat (first | exact Drawn0.refl _ | apply Drawn0.step)⟩

/-! ### clepsydraref21_Same: function 11 -/
def clepsydraref21_Same.f (k : Nat) (a0_0 : Int) (a0_1 : Int) (a0_2 : Int) (a0_3 : Bool) (a0_4 : Int) (a0_5 : Int) (a0_6 : Bool) (l0_7 : List (S42)) (a0_8 : Int) (a0_9 : Int) (a0_10 : Int) (a1_0 : Int) (a1_1 : Int) (a1_2 : Int) (a1_3 : Bool) (a1_4 : Int) (a1_5 : Int) (a1_6 : Bool) (l1_7 : List (S42)) (a1_8 : Int) (a1_9 : Int) (a1_10 : Int) : Option (Bool) := if (a0_0 == a1_0 && (a0_1 == a1_1)) = true then (if a0_2 = a1_2 then (if (a0_3 == a1_3) = true then (if a0_4 = a1_4 then (if a0_5 = a1_5 then (if (a0_6 == a1_6) = true then (if (a0_8 == a1_8 && (a0_9 == a1_9)) = true then (if a0_10 = a1_10 then ((clepsydraref06_Tables.f k l0_7 l1_7).bind fun t245 => (some t245)) else (some false)) else (some false)) else (some false)) else (some false)) else (some false)) else (some false)) else (some false)) else (some false)
theorem clepsydraref21_Same.mono : ∀ a0 a1 a2 a3 a4 a5 a6 a7 a8 a9 a10 a11 a12 a13 a14 a15 a16 a17 a18 a19 a20 a21 k, LeO (clepsydraref21_Same.f k a0 a1 a2 a3 a4 a5 a6 a7 a8 a9 a10 a11 a12 a13 a14 a15 a16 a17 a18 a19 a20 a21) (clepsydraref21_Same.f (k + 1) a0 a1 a2 a3 a4 a5 a6 a7 a8 a9 a10 a11 a12 a13 a14 a15 a16 a17 a18 a19 a20 a21) := by
 intro a0 a1 a2 a3 a4 a5 a6 a7 a8 a9 a10 a11 a12 a13 a14 a15 a16 a17 a18 a19 a20 a21 k
 unfold clepsydraref21_Same.f
 repeat' first
   | (with_reducible exact clepsydraref06_Tables.mono _ _ _)
   | (with_reducible exact LeO.refl _)
   | (with_reducible exact LeO.none _)
   | (with_reducible refine LeO.ite ?_ ?_)
   | (with_reducible refine LeO.bind ?_ (fun _ => ?_))
   | exact clepsydraref06_Tables.mono _ _ _
   | exact LeO.none _
   | refine LeO.ite ?_ ?_
   | refine LeO.bind ?_ (fun _ => ?_)
set_option maxHeartbeats 8000000 in
set_option maxRecDepth 100000 in
theorem clepsydraref21_Same.calls (k : Nat) (a0_0 : Int) (a0_1 : Int) (a0_2 : Int) (a0_3 : Bool) (a0_4 : Int) (a0_5 : Int) (a0_6 : Bool) (A0_7 : Option Addr) (c0_7 : Nat) (l0_7 : List (S42)) (a0_8 : Int) (a0_9 : Int) (a0_10 : Int) (a1_0 : Int) (a1_1 : Int) (a1_2 : Int) (a1_3 : Bool) (a1_4 : Int) (a1_5 : Int) (a1_6 : Bool) (A1_7 : Option Addr) (c1_7 : Nat) (l1_7 : List (S42)) (a1_8 : Int) (a1_9 : Int) (a1_10 : Int) (r : Bool) (w : World) (hr0_7 : Kd.C k42 w A0_7 l0_7.length l0_7) (hc0_7 : l0_7.length ≤ c0_7) (hr1_7 : Kd.C k42 w A1_7 l1_7.length l1_7) (hc1_7 : l1_7.length ≤ c1_7) (h : clepsydraref21_Same.f k a0_0 a0_1 a0_2 a0_3 a0_4 a0_5 a0_6 l0_7 a0_8 a0_9 a0_10 a1_0 a1_1 a1_2 a1_3 a1_4 a1_5 a1_6 l1_7 a1_8 a1_9 a1_10 = some r) :
  Calls Try.prog 11 #[.agg #[.int .i64 a0_0, .int .i64 a0_1, .int .i64 a0_2, .bool a0_3, .int .i64 a0_4, .int .i64 a0_5, .bool a0_6, .slice A0_7 l0_7.length c0_7, .int .i64 a0_8, .int .i64 a0_9, .int .i64 a0_10], .agg #[.int .i64 a1_0, .int .i64 a1_1, .int .i64 a1_2, .bool a1_3, .int .i64 a1_4, .int .i64 a1_5, .bool a1_6, .slice A1_7 l1_7.length c1_7, .int .i64 a1_8, .int .i64 a1_9, .int .i64 a1_10]] w fun e w' => e = .returned (.bool r) ∧ Below w.heap.size w w' := by
 have hu30 := Try.underlying30
 have hu25 := Try.underlying25
 have hu28 := Try.underlying28
 have HR0_7 := mk hr0_7
 have HC0_7 := mk hc0_7
 clear hr0_7 hc0_7
 have HR1_7 := mk hr1_7
 have HC1_7 := mk hc1_7
 clear hr1_7 hc1_7
 have HB := mk (Below.refl w.heap.size w)
 have H : (if (a0_0 == a1_0 && (a0_1 == a1_1)) = true then (if a0_2 = a1_2 then (if (a0_3 == a1_3) = true then (if a0_4 = a1_4 then (if a0_5 = a1_5 then (if (a0_6 == a1_6) = true then (if (a0_8 == a1_8 && (a0_9 == a1_9)) = true then (if a0_10 = a1_10 then ((clepsydraref06_Tables.f k l0_7 l1_7).bind fun t245 => (some t245)) else (some false)) else (some false)) else (some false)) else (some false)) else (some false)) else (some false)) else (some false)) else (some false)) = some r := h
 clear h
 by_cases c3 : (a0_0 == a1_0 && (a0_1 == a1_1)) = true
 ·rw [if_pos c3] at H
  have c3b0 : (a0_0 == a1_0 && (a0_1 == a1_1)) = true := c3
  (try (have c3b1 : decide (a0_0 = a1_0 && (a0_1 == a1_1)) = true := by simpa using c3))
  (try (have c3b2 : (a0_0 == a1_0 && (a0_1 == a1_1)) = true := by simpa using c3))
  clear c3
  by_cases c4 : a0_2 = a1_2
  ·rw [if_pos c4] at H
   have c4b0 : (a0_2 == a1_2) = true := beq_iff_eq.mpr c4
   have c4b1 : (a0_2 != a1_2) = false := bne_eq_false_iff_eq.mpr c4
   clear c4
   by_cases c5 : (a0_3 == a1_3) = true
   ·rw [if_pos c5] at H
    have c5b0 : (a0_3 == a1_3) = true := c5
    (try (have c5b1 : decide (a0_3 = a1_3) = true := by simpa using c5))
    (try (have c5b2 : (a0_3 == a1_3) = true := by simpa using c5))
    clear c5
    by_cases c6 : a0_4 = a1_4
    ·rw [if_pos c6] at H
     have c6b0 : (a0_4 == a1_4) = true := beq_iff_eq.mpr c6
     have c6b1 : (a0_4 != a1_4) = false := bne_eq_false_iff_eq.mpr c6
     clear c6
     by_cases c7 : a0_5 = a1_5
     ·rw [if_pos c7] at H
      have c7b0 : (a0_5 == a1_5) = true := beq_iff_eq.mpr c7
      have c7b1 : (a0_5 != a1_5) = false := bne_eq_false_iff_eq.mpr c7
      clear c7
      by_cases c8 : (a0_6 == a1_6) = true
      ·rw [if_pos c8] at H
       have c8b0 : (a0_6 == a1_6) = true := c8
       (try (have c8b1 : decide (a0_6 = a1_6) = true := by simpa using c8))
       (try (have c8b2 : (a0_6 == a1_6) = true := by simpa using c8))
       clear c8
       by_cases c9 : (a0_8 == a1_8 && (a0_9 == a1_9)) = true
       ·rw [if_pos c9] at H
        have c9b0 : (a0_8 == a1_8 && (a0_9 == a1_9)) = true := c9
        (try (have c9b1 : decide (a0_8 = a1_8 && (a0_9 == a1_9)) = true := by simpa using c9))
        (try (have c9b2 : (a0_8 == a1_8 && (a0_9 == a1_9)) = true := by simpa using c9))
        clear c9
        by_cases c10 : a0_10 = a1_10
        ·rw [if_pos c10] at H
         have c10b0 : (a0_10 == a1_10) = true := beq_iff_eq.mpr c10
         have c10b1 : (a0_10 != a1_10) = false := bne_eq_false_iff_eq.mpr c10
         clear c10
         replace H := Option.bind_eq_some_iff.mp H
         obtain ⟨t245, A110, H⟩ := H
         replace H : (some t245) = some r := H
         have A11 := mk A110
         clear A110
         obtain rfl := Option.some.inj H
         go_enter Try.func11, Try.ntmps11
         go_wp2_with (first | ((with_reducible refine gate_dst (N := 2) rfl ?_); refine box_event ?hg (N := 2) ?hd (cs := #[.int .i64 a0_0, .int .i64 a0_1, .int .i64 a0_2, .bool a0_3, .int .i64 a0_4, .int .i64 a0_5, .bool a0_6, .slice A0_7 l0_7.length c0_7, .int .i64 a0_8, .int .i64 a0_9, .int .i64 a0_10]) (t := 30) ?hr ?_; (case hd => rfl); (case hg => rfl); (case hr => first | (go_simp; done) | (go_simp; rfl)); intro g0_ hg w12 hbox hb; have n0_ := mk (below_step (by repeat first | exact HB.1 | apply pD | apply b1 | refine bT (by assumption) ?_ | apply bA) hb); have n1_ := mk (hbox); have n2_ := gl hg (by repeat first | exact HB.1 | apply pD | apply b1 | refine bT (by assumption) ?_ | apply bA); have n3_ := gl hg (by repeat first | exact HB.1 | apply pD | apply b1 | refine bT (by assumption) ?_ | apply bA); clear HB; have HB := n0_; have B0_ := n1_; have W0_ := n2_; have E0_ := n3_; clear n0_ n1_ n2_ n3_; clear hb hbox hg) | ((with_reducible refine gate_dst (N := 3) rfl ?_); refine box_event ?hg (N := 3) ?hd (cs := #[.int .i64 a1_0, .int .i64 a1_1, .int .i64 a1_2, .bool a1_3, .int .i64 a1_4, .int .i64 a1_5, .bool a1_6, .slice A1_7 l1_7.length c1_7, .int .i64 a1_8, .int .i64 a1_9, .int .i64 a1_10]) (t := 30) ?hr ?_; (case hd => rfl); (case hg => rfl); (case hr => first | (go_simp; done) | (go_simp; rfl)); intro g1_ hg w13 hbox hb; have n0_ := bb hb B0_.1; have n1_ := mk (below_step (by repeat first | exact HB.1 | apply pD | apply b1 | refine bT (by assumption) ?_ | apply bA) hb); have n2_ := mk (hbox); have n3_ := gl hg (by repeat first | exact HB.1 | apply pD | apply b1 | refine bT (by assumption) ?_ | apply bA); have n4_ := gl hg (by repeat first | exact HB.1 | apply pD | apply b1 | refine bT (by assumption) ?_ | apply bA); have n5_ := nl hg B0_.1; have n6_ := ng hg B0_.1; clear B0_; clear HB; have B0_ := n0_; have HB := n1_; have B1_ := n2_; have W1_ := n3_; have E1_ := n4_; have N01_ := n5_; have N10_ := n6_; clear n0_ n1_ n2_ n3_ n4_ n5_ n6_; clear hb hbox hg; have hnb14 := N01_.1; have hnc14 := N10_.1; have hcz15_0 : w13.cell? ⟨g0_, 0, none⟩ = some (.int .i64 a0_0) := bQ B0_.1 0; have hcz15_1 : w13.cell? ⟨g0_, 1, none⟩ = some (.int .i64 a0_1) := bQ B0_.1 1; have hcz15_2 : w13.cell? ⟨g0_, 2, none⟩ = some (.int .i64 a0_2) := bQ B0_.1 2; have hcz15_3 : w13.cell? ⟨g0_, 3, none⟩ = some (.bool a0_3) := bQ B0_.1 3; have hcz15_4 : w13.cell? ⟨g0_, 4, none⟩ = some (.int .i64 a0_4) := bQ B0_.1 4; have hcz15_5 : w13.cell? ⟨g0_, 5, none⟩ = some (.int .i64 a0_5) := bQ B0_.1 5; have hcz15_6 : w13.cell? ⟨g0_, 6, none⟩ = some (.bool a0_6) := bQ B0_.1 6; have hcz15_7 : w13.cell? ⟨g0_, 7, none⟩ = some (.slice A0_7 l0_7.length c0_7) := bQ B0_.1 7; have hcz15_8 : w13.cell? ⟨g0_, 8, none⟩ = some (.int .i64 a0_8) := bQ B0_.1 8; have hcz15_9 : w13.cell? ⟨g0_, 9, none⟩ = some (.int .i64 a0_9) := bQ B0_.1 9; have hcz15_10 : w13.cell? ⟨g0_, 10, none⟩ = some (.int .i64 a0_10) := bQ B0_.1 10; have hfz15_0 := blk_frozen B0_.1 0; have hfz15_1 := blk_frozen B0_.1 1; have hfz15_2 := blk_frozen B0_.1 2; have hfz15_3 := blk_frozen B0_.1 3; have hfz15_4 := blk_frozen B0_.1 4; have hfz15_5 := blk_frozen B0_.1 5; have hfz15_6 := blk_frozen B0_.1 6; have hfz15_7 := blk_frozen B0_.1 7; have hfz15_8 := blk_frozen B0_.1 8; have hfz15_9 := blk_frozen B0_.1 9; have hfz15_10 := blk_frozen B0_.1 10; have hcz16_0 : w13.cell? ⟨g1_, 0, none⟩ = some (.int .i64 a1_0) := bQ B1_.1 0; have hcz16_1 : w13.cell? ⟨g1_, 1, none⟩ = some (.int .i64 a1_1) := bQ B1_.1 1; have hcz16_2 : w13.cell? ⟨g1_, 2, none⟩ = some (.int .i64 a1_2) := bQ B1_.1 2; have hcz16_3 : w13.cell? ⟨g1_, 3, none⟩ = some (.bool a1_3) := bQ B1_.1 3; have hcz16_4 : w13.cell? ⟨g1_, 4, none⟩ = some (.int .i64 a1_4) := bQ B1_.1 4; have hcz16_5 : w13.cell? ⟨g1_, 5, none⟩ = some (.int .i64 a1_5) := bQ B1_.1 5; have hcz16_6 : w13.cell? ⟨g1_, 6, none⟩ = some (.bool a1_6) := bQ B1_.1 6; have hcz16_7 : w13.cell? ⟨g1_, 7, none⟩ = some (.slice A1_7 l1_7.length c1_7) := bQ B1_.1 7; have hcz16_8 : w13.cell? ⟨g1_, 8, none⟩ = some (.int .i64 a1_8) := bQ B1_.1 8; have hcz16_9 : w13.cell? ⟨g1_, 9, none⟩ = some (.int .i64 a1_9) := bQ B1_.1 9; have hcz16_10 : w13.cell? ⟨g1_, 10, none⟩ = some (.int .i64 a1_10) := bQ B1_.1 10; have hfz16_0 := blk_frozen B1_.1 0; have hfz16_1 := blk_frozen B1_.1 1; have hfz16_2 := blk_frozen B1_.1 2; have hfz16_3 := blk_frozen B1_.1 3; have hfz16_4 := blk_frozen B1_.1 4; have hfz16_5 := blk_frozen B1_.1 5; have hfz16_6 := blk_frozen B1_.1 6; have hfz16_7 := blk_frozen B1_.1 7; have hfz16_8 := blk_frozen B1_.1 8; have hfz16_9 := blk_frozen B1_.1 9; have hfz16_10 := blk_frozen B1_.1 10) | (go_at_call 18; (with_reducible refine (clepsydraref06_Tables.calls k _ _ l0_7 _ _ l1_7 t245 _ ?side1 ?side2 ?side3 ?side4 A11.1).mono ?_); (case side1 => repeat (first | exact (Kd.C_below HR0_7.out HB.1) | (with_reducible refine Kd.C_alloc ?_ _) | (with_reducible refine Kd.C_drewN ?_ _) | (with_reducible refine Kd.C_drew ?_))); (case side2 => exact HC0_7.out); (case side3 => repeat (first | exact (Kd.C_below HR1_7.out HB.1) | (with_reducible refine Kd.C_alloc ?_ _) | (with_reducible refine Kd.C_drewN ?_ _) | (with_reducible refine Kd.C_drew ?_))); (case side4 => exact HC1_7.out); rintro e w' ⟨rfl, ⟨nd, rfl⟩⟩))
         go_ret
         exact ⟨by first | rfl | (simp [errW_none, errW_some] <;> rfl) | (simp [*, errW_none, errW_some] <;> rfl), by repeat (first | (with_reducible first | exact HB.1 | apply bA | apply pD | apply b1 | apply bS E0_.1 | apply bS E1_.1) | exact HB.1)⟩
        rw [if_neg c10] at H
        have c10b0 : (a0_10 == a1_10) = false := beq_eq_false_iff_ne.mpr c10
        have c10b1 : (a0_10 != a1_10) = true := bne_iff_ne.mpr c10
        obtain rfl := Option.some.inj H
        go_enter Try.func11, Try.ntmps11
        go_wp2_with (first | ((with_reducible refine gate_dst (N := 2) rfl ?_); refine box_event ?hg (N := 2) ?hd (cs := #[.int .i64 a0_0, .int .i64 a0_1, .int .i64 a0_2, .bool a0_3, .int .i64 a0_4, .int .i64 a0_5, .bool a0_6, .slice A0_7 l0_7.length c0_7, .int .i64 a0_8, .int .i64 a0_9, .int .i64 a0_10]) (t := 30) ?hr ?_; (case hd => rfl); (case hg => rfl); (case hr => first | (go_simp; done) | (go_simp; rfl)); intro g0_ hg w17 hbox hb; have n0_ := mk (below_step (by repeat first | exact HB.1 | apply pD | apply b1 | refine bT (by assumption) ?_ | apply bA) hb); have n1_ := mk (hbox); have n2_ := gl hg (by repeat first | exact HB.1 | apply pD | apply b1 | refine bT (by assumption) ?_ | apply bA); have n3_ := gl hg (by repeat first | exact HB.1 | apply pD | apply b1 | refine bT (by assumption) ?_ | apply bA); clear HB; have HB := n0_; have B0_ := n1_; have W0_ := n2_; have E0_ := n3_; clear n0_ n1_ n2_ n3_; clear hb hbox hg) | ((with_reducible refine gate_dst (N := 3) rfl ?_); refine box_event ?hg (N := 3) ?hd (cs := #[.int .i64 a1_0, .int .i64 a1_1, .int .i64 a1_2, .bool a1_3, .int .i64 a1_4, .int .i64 a1_5, .bool a1_6, .slice A1_7 l1_7.length c1_7, .int .i64 a1_8, .int .i64 a1_9, .int .i64 a1_10]) (t := 30) ?hr ?_; (case hd => rfl); (case hg => rfl); (case hr => first | (go_simp; done) | (go_simp; rfl)); intro g1_ hg w18 hbox hb; have n0_ := bb hb B0_.1; have n1_ := mk (below_step (by repeat first | exact HB.1 | apply pD | apply b1 | refine bT (by assumption) ?_ | apply bA) hb); have n2_ := mk (hbox); have n3_ := gl hg (by repeat first | exact HB.1 | apply pD | apply b1 | refine bT (by assumption) ?_ | apply bA); have n4_ := gl hg (by repeat first | exact HB.1 | apply pD | apply b1 | refine bT (by assumption) ?_ | apply bA); have n5_ := nl hg B0_.1; have n6_ := ng hg B0_.1; clear B0_; clear HB; have B0_ := n0_; have HB := n1_; have B1_ := n2_; have W1_ := n3_; have E1_ := n4_; have N01_ := n5_; have N10_ := n6_; clear n0_ n1_ n2_ n3_ n4_ n5_ n6_; clear hb hbox hg; have hnb19 := N01_.1; have hnc19 := N10_.1; have hcz20_0 : w18.cell? ⟨g0_, 0, none⟩ = some (.int .i64 a0_0) := bQ B0_.1 0; have hcz20_1 : w18.cell? ⟨g0_, 1, none⟩ = some (.int .i64 a0_1) := bQ B0_.1 1; have hcz20_2 : w18.cell? ⟨g0_, 2, none⟩ = some (.int .i64 a0_2) := bQ B0_.1 2; have hcz20_3 : w18.cell? ⟨g0_, 3, none⟩ = some (.bool a0_3) := bQ B0_.1 3; have hcz20_4 : w18.cell? ⟨g0_, 4, none⟩ = some (.int .i64 a0_4) := bQ B0_.1 4; have hcz20_5 : w18.cell? ⟨g0_, 5, none⟩ = some (.int .i64 a0_5) := bQ B0_.1 5; have hcz20_6 : w18.cell? ⟨g0_, 6, none⟩ = some (.bool a0_6) := bQ B0_.1 6; have hcz20_8 : w18.cell? ⟨g0_, 8, none⟩ = some (.int .i64 a0_8) := bQ B0_.1 8; have hcz20_9 : w18.cell? ⟨g0_, 9, none⟩ = some (.int .i64 a0_9) := bQ B0_.1 9; have hcz20_10 : w18.cell? ⟨g0_, 10, none⟩ = some (.int .i64 a0_10) := bQ B0_.1 10; have hfz20_0 := blk_frozen B0_.1 0; have hfz20_1 := blk_frozen B0_.1 1; have hfz20_2 := blk_frozen B0_.1 2; have hfz20_3 := blk_frozen B0_.1 3; have hfz20_4 := blk_frozen B0_.1 4; have hfz20_5 := blk_frozen B0_.1 5; have hfz20_6 := blk_frozen B0_.1 6; have hfz20_8 := blk_frozen B0_.1 8; have hfz20_9 := blk_frozen B0_.1 9; have hfz20_10 := blk_frozen B0_.1 10; have hcz21_0 : w18.cell? ⟨g1_, 0, none⟩ = some (.int .i64 a1_0) := bQ B1_.1 0; have hcz21_1 : w18.cell? ⟨g1_, 1, none⟩ = some (.int .i64 a1_1) := bQ B1_.1 1; have hcz21_2 : w18.cell? ⟨g1_, 2, none⟩ = some (.int .i64 a1_2) := bQ B1_.1 2; have hcz21_3 : w18.cell? ⟨g1_, 3, none⟩ = some (.bool a1_3) := bQ B1_.1 3; have hcz21_4 : w18.cell? ⟨g1_, 4, none⟩ = some (.int .i64 a1_4) := bQ B1_.1 4; have hcz21_5 : w18.cell? ⟨g1_, 5, none⟩ = some (.int .i64 a1_5) := bQ B1_.1 5; have hcz21_6 : w18.cell? ⟨g1_, 6, none⟩ = some (.bool a1_6) := bQ B1_.1 6; have hcz21_8 : w18.cell? ⟨g1_, 8, none⟩ = some (.int .i64 a1_8) := bQ B1_.1 8; have hcz21_9 : w18.cell? ⟨g1_, 9, none⟩ = some (.int .i64 a1_9) := bQ B1_.1 9; have hcz21_10 : w18.cell? ⟨g1_, 10, none⟩ = some (.int .i64 a1_10) := bQ B1_.1 10; have hfz21_0 := blk_frozen B1_.1 0; have hfz21_1 := blk_frozen B1_.1 1; have hfz21_2 := blk_frozen B1_.1 2; have hfz21_3 := blk_frozen B1_.1 3; have hfz21_4 := blk_frozen B1_.1 4; have hfz21_5 := blk_frozen B1_.1 5; have hfz21_6 := blk_frozen B1_.1 6; have hfz21_8 := blk_frozen B1_.1 8; have hfz21_9 := blk_frozen B1_.1 9; have hfz21_10 := blk_frozen B1_.1 10))
        go_ret
        exact ⟨by first | rfl | (simp [errW_none, errW_some] <;> rfl) | (simp [*, errW_none, errW_some] <;> rfl), by repeat (first | (with_reducible first | exact HB.1 | apply bA | apply pD | apply b1 | apply bS E0_.1 | apply bS E1_.1) | exact HB.1)⟩
       rw [if_neg c9] at H
       have c9b0 : (a0_8 == a1_8 && (a0_9 == a1_9)) = false := by simpa using c9
       (try (have c9b1 : decide (a0_8 = a1_8 && (a0_9 == a1_9)) = false := by simpa using c9))
       (try (have c9b2 : (a0_8 == a1_8 && (a0_9 == a1_9)) = false := by simpa using c9))
       (try (have c9b3 : ¬ (a0_8 = a1_8 && (a0_9 == a1_9)) := by simpa using c9))
       clear c9
       obtain rfl := Option.some.inj H
       go_enter Try.func11, Try.ntmps11
       go_wp2_with (first | ((with_reducible refine gate_dst (N := 2) rfl ?_); refine box_event ?hg (N := 2) ?hd (cs := #[.int .i64 a0_0, .int .i64 a0_1, .int .i64 a0_2, .bool a0_3, .int .i64 a0_4, .int .i64 a0_5, .bool a0_6, .slice A0_7 l0_7.length c0_7, .int .i64 a0_8, .int .i64 a0_9, .int .i64 a0_10]) (t := 30) ?hr ?_; (case hd => rfl); (case hg => rfl); (case hr => first | (go_simp; done) | (go_simp; rfl)); intro g0_ hg w22 hbox hb; have n0_ := mk (below_step (by repeat first | exact HB.1 | apply pD | apply b1 | refine bT (by assumption) ?_ | apply bA) hb); have n1_ := mk (hbox); have n2_ := gl hg (by repeat first | exact HB.1 | apply pD | apply b1 | refine bT (by assumption) ?_ | apply bA); have n3_ := gl hg (by repeat first | exact HB.1 | apply pD | apply b1 | refine bT (by assumption) ?_ | apply bA); clear HB; have HB := n0_; have B0_ := n1_; have W0_ := n2_; have E0_ := n3_; clear n0_ n1_ n2_ n3_; clear hb hbox hg) | ((with_reducible refine gate_dst (N := 3) rfl ?_); refine box_event ?hg (N := 3) ?hd (cs := #[.int .i64 a1_0, .int .i64 a1_1, .int .i64 a1_2, .bool a1_3, .int .i64 a1_4, .int .i64 a1_5, .bool a1_6, .slice A1_7 l1_7.length c1_7, .int .i64 a1_8, .int .i64 a1_9, .int .i64 a1_10]) (t := 30) ?hr ?_; (case hd => rfl); (case hg => rfl); (case hr => first | (go_simp; done) | (go_simp; rfl)); intro g1_ hg w23 hbox hb; have n0_ := bb hb B0_.1; have n1_ := mk (below_step (by repeat first | exact HB.1 | apply pD | apply b1 | refine bT (by assumption) ?_ | apply bA) hb); have n2_ := mk (hbox); have n3_ := gl hg (by repeat first | exact HB.1 | apply pD | apply b1 | refine bT (by assumption) ?_ | apply bA); have n4_ := gl hg (by repeat first | exact HB.1 | apply pD | apply b1 | refine bT (by assumption) ?_ | apply bA); have n5_ := nl hg B0_.1; have n6_ := ng hg B0_.1; clear B0_; clear HB; have B0_ := n0_; have HB := n1_; have B1_ := n2_; have W1_ := n3_; have E1_ := n4_; have N01_ := n5_; have N10_ := n6_; clear n0_ n1_ n2_ n3_ n4_ n5_ n6_; clear hb hbox hg; have hnb24 := N01_.1; have hnc24 := N10_.1; have hcz25_0 : w23.cell? ⟨g0_, 0, none⟩ = some (.int .i64 a0_0) := bQ B0_.1 0; have hcz25_1 : w23.cell? ⟨g0_, 1, none⟩ = some (.int .i64 a0_1) := bQ B0_.1 1; have hcz25_2 : w23.cell? ⟨g0_, 2, none⟩ = some (.int .i64 a0_2) := bQ B0_.1 2; have hcz25_3 : w23.cell? ⟨g0_, 3, none⟩ = some (.bool a0_3) := bQ B0_.1 3; have hcz25_4 : w23.cell? ⟨g0_, 4, none⟩ = some (.int .i64 a0_4) := bQ B0_.1 4; have hcz25_5 : w23.cell? ⟨g0_, 5, none⟩ = some (.int .i64 a0_5) := bQ B0_.1 5; have hcz25_6 : w23.cell? ⟨g0_, 6, none⟩ = some (.bool a0_6) := bQ B0_.1 6; have hcz25_8 : w23.cell? ⟨g0_, 8, none⟩ = some (.int .i64 a0_8) := bQ B0_.1 8; have hcz25_9 : w23.cell? ⟨g0_, 9, none⟩ = some (.int .i64 a0_9) := bQ B0_.1 9; have hfz25_0 := blk_frozen B0_.1 0; have hfz25_1 := blk_frozen B0_.1 1; have hfz25_2 := blk_frozen B0_.1 2; have hfz25_3 := blk_frozen B0_.1 3; have hfz25_4 := blk_frozen B0_.1 4; have hfz25_5 := blk_frozen B0_.1 5; have hfz25_6 := blk_frozen B0_.1 6; have hfz25_8 := blk_frozen B0_.1 8; have hfz25_9 := blk_frozen B0_.1 9; have hcz26_0 : w23.cell? ⟨g1_, 0, none⟩ = some (.int .i64 a1_0) := bQ B1_.1 0; have hcz26_1 : w23.cell? ⟨g1_, 1, none⟩ = some (.int .i64 a1_1) := bQ B1_.1 1; have hcz26_2 : w23.cell? ⟨g1_, 2, none⟩ = some (.int .i64 a1_2) := bQ B1_.1 2; have hcz26_3 : w23.cell? ⟨g1_, 3, none⟩ = some (.bool a1_3) := bQ B1_.1 3; have hcz26_4 : w23.cell? ⟨g1_, 4, none⟩ = some (.int .i64 a1_4) := bQ B1_.1 4; have hcz26_5 : w23.cell? ⟨g1_, 5, none⟩ = some (.int .i64 a1_5) := bQ B1_.1 5; have hcz26_6 : w23.cell? ⟨g1_, 6, none⟩ = some (.bool a1_6) := bQ B1_.1 6; have hcz26_8 : w23.cell? ⟨g1_, 8, none⟩ = some (.int .i64 a1_8) := bQ B1_.1 8; have hcz26_9 : w23.cell? ⟨g1_, 9, none⟩ = some (.int .i64 a1_9) := bQ B1_.1 9; have hfz26_0 := blk_frozen B1_.1 0; have hfz26_1 := blk_frozen B1_.1 1; have hfz26_2 := blk_frozen B1_.1 2; have hfz26_3 := blk_frozen B1_.1 3; have hfz26_4 := blk_frozen B1_.1 4; have hfz26_5 := blk_frozen B1_.1 5; have hfz26_6 := blk_frozen B1_.1 6; have hfz26_8 := blk_frozen B1_.1 8; have hfz26_9 := blk_frozen B1_.1 9))
       go_ret
       exact ⟨by first | rfl | (simp [errW_none, errW_some] <;> rfl) | (simp [*, errW_none, errW_some] <;> rfl), by repeat (first | (with_reducible first | exact HB.1 | apply bA | apply pD | apply b1 | apply bS E0_.1 | apply bS E1_.1) | exact HB.1)⟩
      rw [if_neg c8] at H
      have c8b0 : (a0_6 == a1_6) = false := by simpa using c8
      (try (have c8b1 : decide (a0_6 = a1_6) = false := by simpa using c8))
      (try (have c8b2 : (a0_6 == a1_6) = false := by simpa using c8))
      (try (have c8b3 : ¬ (a0_6 = a1_6) := by simpa using c8))
      clear c8
      obtain rfl := Option.some.inj H
      go_enter Try.func11, Try.ntmps11
      go_wp2_with (first | ((with_reducible refine gate_dst (N := 2) rfl ?_); refine box_event ?hg (N := 2) ?hd (cs := #[.int .i64 a0_0, .int .i64 a0_1, .int .i64 a0_2, .bool a0_3, .int .i64 a0_4, .int .i64 a0_5, .bool a0_6, .slice A0_7 l0_7.length c0_7, .int .i64 a0_8, .int .i64 a0_9, .int .i64 a0_10]) (t := 30) ?hr ?_; (case hd => rfl); (case hg => rfl); (case hr => first | (go_simp; done) | (go_simp; rfl)); intro g0_ hg w27 hbox hb; have n0_ := mk (below_step (by repeat first | exact HB.1 | apply pD | apply b1 | refine bT (by assumption) ?_ | apply bA) hb); have n1_ := mk (hbox); have n2_ := gl hg (by repeat first | exact HB.1 | apply pD | apply b1 | refine bT (by assumption) ?_ | apply bA); have n3_ := gl hg (by repeat first | exact HB.1 | apply pD | apply b1 | refine bT (by assumption) ?_ | apply bA); clear HB; have HB := n0_; have B0_ := n1_; have W0_ := n2_; have E0_ := n3_; clear n0_ n1_ n2_ n3_; clear hb hbox hg) | ((with_reducible refine gate_dst (N := 3) rfl ?_); refine box_event ?hg (N := 3) ?hd (cs := #[.int .i64 a1_0, .int .i64 a1_1, .int .i64 a1_2, .bool a1_3, .int .i64 a1_4, .int .i64 a1_5, .bool a1_6, .slice A1_7 l1_7.length c1_7, .int .i64 a1_8, .int .i64 a1_9, .int .i64 a1_10]) (t := 30) ?hr ?_; (case hd => rfl); (case hg => rfl); (case hr => first | (go_simp; done) | (go_simp; rfl)); intro g1_ hg w28 hbox hb; have n0_ := bb hb B0_.1; have n1_ := mk (below_step (by repeat first | exact HB.1 | apply pD | apply b1 | refine bT (by assumption) ?_ | apply bA) hb); have n2_ := mk (hbox); have n3_ := gl hg (by repeat first | exact HB.1 | apply pD | apply b1 | refine bT (by assumption) ?_ | apply bA); have n4_ := gl hg (by repeat first | exact HB.1 | apply pD | apply b1 | refine bT (by assumption) ?_ | apply bA); have n5_ := nl hg B0_.1; have n6_ := ng hg B0_.1; clear B0_; clear HB; have B0_ := n0_; have HB := n1_; have B1_ := n2_; have W1_ := n3_; have E1_ := n4_; have N01_ := n5_; have N10_ := n6_; clear n0_ n1_ n2_ n3_ n4_ n5_ n6_; clear hb hbox hg; have hnb29 := N01_.1; have hnc29 := N10_.1; have hcz30_0 : w28.cell? ⟨g0_, 0, none⟩ = some (.int .i64 a0_0) := bQ B0_.1 0; have hcz30_1 : w28.cell? ⟨g0_, 1, none⟩ = some (.int .i64 a0_1) := bQ B0_.1 1; have hcz30_2 : w28.cell? ⟨g0_, 2, none⟩ = some (.int .i64 a0_2) := bQ B0_.1 2; have hcz30_3 : w28.cell? ⟨g0_, 3, none⟩ = some (.bool a0_3) := bQ B0_.1 3; have hcz30_4 : w28.cell? ⟨g0_, 4, none⟩ = some (.int .i64 a0_4) := bQ B0_.1 4; have hcz30_5 : w28.cell? ⟨g0_, 5, none⟩ = some (.int .i64 a0_5) := bQ B0_.1 5; have hcz30_6 : w28.cell? ⟨g0_, 6, none⟩ = some (.bool a0_6) := bQ B0_.1 6; have hfz30_0 := blk_frozen B0_.1 0; have hfz30_1 := blk_frozen B0_.1 1; have hfz30_2 := blk_frozen B0_.1 2; have hfz30_3 := blk_frozen B0_.1 3; have hfz30_4 := blk_frozen B0_.1 4; have hfz30_5 := blk_frozen B0_.1 5; have hfz30_6 := blk_frozen B0_.1 6; have hcz31_0 : w28.cell? ⟨g1_, 0, none⟩ = some (.int .i64 a1_0) := bQ B1_.1 0; have hcz31_1 : w28.cell? ⟨g1_, 1, none⟩ = some (.int .i64 a1_1) := bQ B1_.1 1; have hcz31_2 : w28.cell? ⟨g1_, 2, none⟩ = some (.int .i64 a1_2) := bQ B1_.1 2; have hcz31_3 : w28.cell? ⟨g1_, 3, none⟩ = some (.bool a1_3) := bQ B1_.1 3; have hcz31_4 : w28.cell? ⟨g1_, 4, none⟩ = some (.int .i64 a1_4) := bQ B1_.1 4; have hcz31_5 : w28.cell? ⟨g1_, 5, none⟩ = some (.int .i64 a1_5) := bQ B1_.1 5; have hcz31_6 : w28.cell? ⟨g1_, 6, none⟩ = some (.bool a1_6) := bQ B1_.1 6; have hfz31_0 := blk_frozen B1_.1 0; have hfz31_1 := blk_frozen B1_.1 1; have hfz31_2 := blk_frozen B1_.1 2; have hfz31_3 := blk_frozen B1_.1 3; have hfz31_4 := blk_frozen B1_.1 4; have hfz31_5 := blk_frozen B1_.1 5; have hfz31_6 := blk_frozen B1_.1 6))
      go_ret
      exact ⟨by first | rfl | (simp [errW_none, errW_some] <;> rfl) | (simp [*, errW_none, errW_some] <;> rfl), by repeat (first | (with_reducible first | exact HB.1 | apply bA | apply pD | apply b1 | apply bS E0_.1 | apply bS E1_.1) | exact HB.1)⟩
     rw [if_neg c7] at H
     have c7b0 : (a0_5 == a1_5) = false := beq_eq_false_iff_ne.mpr c7
     have c7b1 : (a0_5 != a1_5) = true := bne_iff_ne.mpr c7
     obtain rfl := Option.some.inj H
     go_enter Try.func11, Try.ntmps11
     go_wp2_with (first | ((with_reducible refine gate_dst (N := 2) rfl ?_); refine box_event ?hg (N := 2) ?hd (cs := #[.int .i64 a0_0, .int .i64 a0_1, .int .i64 a0_2, .bool a0_3, .int .i64 a0_4, .int .i64 a0_5, .bool a0_6, .slice A0_7 l0_7.length c0_7, .int .i64 a0_8, .int .i64 a0_9, .int .i64 a0_10]) (t := 30) ?hr ?_; (case hd => rfl); (case hg => rfl); (case hr => first | (go_simp; done) | (go_simp; rfl)); intro g0_ hg w32 hbox hb; have n0_ := mk (below_step (by repeat first | exact HB.1 | apply pD | apply b1 | refine bT (by assumption) ?_ | apply bA) hb); have n1_ := mk (hbox); have n2_ := gl hg (by repeat first | exact HB.1 | apply pD | apply b1 | refine bT (by assumption) ?_ | apply bA); have n3_ := gl hg (by repeat first | exact HB.1 | apply pD | apply b1 | refine bT (by assumption) ?_ | apply bA); clear HB; have HB := n0_; have B0_ := n1_; have W0_ := n2_; have E0_ := n3_; clear n0_ n1_ n2_ n3_; clear hb hbox hg) | ((with_reducible refine gate_dst (N := 3) rfl ?_); refine box_event ?hg (N := 3) ?hd (cs := #[.int .i64 a1_0, .int .i64 a1_1, .int .i64 a1_2, .bool a1_3, .int .i64 a1_4, .int .i64 a1_5, .bool a1_6, .slice A1_7 l1_7.length c1_7, .int .i64 a1_8, .int .i64 a1_9, .int .i64 a1_10]) (t := 30) ?hr ?_; (case hd => rfl); (case hg => rfl); (case hr => first | (go_simp; done) | (go_simp; rfl)); intro g1_ hg w33 hbox hb; have n0_ := bb hb B0_.1; have n1_ := mk (below_step (by repeat first | exact HB.1 | apply pD | apply b1 | refine bT (by assumption) ?_ | apply bA) hb); have n2_ := mk (hbox); have n3_ := gl hg (by repeat first | exact HB.1 | apply pD | apply b1 | refine bT (by assumption) ?_ | apply bA); have n4_ := gl hg (by repeat first | exact HB.1 | apply pD | apply b1 | refine bT (by assumption) ?_ | apply bA); have n5_ := nl hg B0_.1; have n6_ := ng hg B0_.1; clear B0_; clear HB; have B0_ := n0_; have HB := n1_; have B1_ := n2_; have W1_ := n3_; have E1_ := n4_; have N01_ := n5_; have N10_ := n6_; clear n0_ n1_ n2_ n3_ n4_ n5_ n6_; clear hb hbox hg; have hnb34 := N01_.1; have hnc34 := N10_.1; have hcz35_0 : w33.cell? ⟨g0_, 0, none⟩ = some (.int .i64 a0_0) := bQ B0_.1 0; have hcz35_1 : w33.cell? ⟨g0_, 1, none⟩ = some (.int .i64 a0_1) := bQ B0_.1 1; have hcz35_2 : w33.cell? ⟨g0_, 2, none⟩ = some (.int .i64 a0_2) := bQ B0_.1 2; have hcz35_3 : w33.cell? ⟨g0_, 3, none⟩ = some (.bool a0_3) := bQ B0_.1 3; have hcz35_4 : w33.cell? ⟨g0_, 4, none⟩ = some (.int .i64 a0_4) := bQ B0_.1 4; have hcz35_5 : w33.cell? ⟨g0_, 5, none⟩ = some (.int .i64 a0_5) := bQ B0_.1 5; have hfz35_0 := blk_frozen B0_.1 0; have hfz35_1 := blk_frozen B0_.1 1; have hfz35_2 := blk_frozen B0_.1 2; have hfz35_3 := blk_frozen B0_.1 3; have hfz35_4 := blk_frozen B0_.1 4; have hfz35_5 := blk_frozen B0_.1 5; have hcz36_0 : w33.cell? ⟨g1_, 0, none⟩ = some (.int .i64 a1_0) := bQ B1_.1 0; have hcz36_1 : w33.cell? ⟨g1_, 1, none⟩ = some (.int .i64 a1_1) := bQ B1_.1 1; have hcz36_2 : w33.cell? ⟨g1_, 2, none⟩ = some (.int .i64 a1_2) := bQ B1_.1 2; have hcz36_3 : w33.cell? ⟨g1_, 3, none⟩ = some (.bool a1_3) := bQ B1_.1 3; have hcz36_4 : w33.cell? ⟨g1_, 4, none⟩ = some (.int .i64 a1_4) := bQ B1_.1 4; have hcz36_5 : w33.cell? ⟨g1_, 5, none⟩ = some (.int .i64 a1_5) := bQ B1_.1 5; have hfz36_0 := blk_frozen B1_.1 0; have hfz36_1 := blk_frozen B1_.1 1; have hfz36_2 := blk_frozen B1_.1 2; have hfz36_3 := blk_frozen B1_.1 3; have hfz36_4 := blk_frozen B1_.1 4; have hfz36_5 := blk_frozen B1_.1 5))
     go_ret
     exact ⟨by first | rfl | (simp [errW_none, errW_some] <;> rfl) | (simp [*, errW_none, errW_some] <;> rfl), by repeat (first | (with_reducible first | exact HB.1 | apply bA | apply pD | apply b1 | apply bS E0_.1 | apply bS E1_.1) | exact HB.1)⟩
    rw [if_neg c6] at H
    have c6b0 : (a0_4 == a1_4) = false := beq_eq_false_iff_ne.mpr c6
    have c6b1 : (a0_4 != a1_4) = true := bne_iff_ne.mpr c6
    obtain rfl := Option.some.inj H
    go_enter Try.func11, Try.ntmps11
    go_wp2_with (first | ((with_reducible refine gate_dst (N := 2) rfl ?_); refine box_event ?hg (N := 2) ?hd (cs := #[.int .i64 a0_0, .int .i64 a0_1, .int .i64 a0_2, .bool a0_3, .int .i64 a0_4, .int .i64 a0_5, .bool a0_6, .slice A0_7 l0_7.length c0_7, .int .i64 a0_8, .int .i64 a0_9, .int .i64 a0_10]) (t := 30) ?hr ?_; (case hd => rfl); (case hg => rfl); (case hr => first | (go_simp; done) | (go_simp; rfl)); intro g0_ hg w37 hbox hb; have n0_ := mk (below_step (by repeat first | exact HB.1 | apply pD | apply b1 | refine bT (by assumption) ?_ | apply bA) hb); have n1_ := mk (hbox); have n2_ := gl hg (by repeat first | exact HB.1 | apply pD | apply b1 | refine bT (by assumption) ?_ | apply bA); have n3_ := gl hg (by repeat first | exact HB.1 | apply pD | apply b1 | refine bT (by assumption) ?_ | apply bA); clear HB; have HB := n0_; have B0_ := n1_; have W0_ := n2_; have E0_ := n3_; clear n0_ n1_ n2_ n3_; clear hb hbox hg) | ((with_reducible refine gate_dst (N := 3) rfl ?_); refine box_event ?hg (N := 3) ?hd (cs := #[.int .i64 a1_0, .int .i64 a1_1, .int .i64 a1_2, .bool a1_3, .int .i64 a1_4, .int .i64 a1_5, .bool a1_6, .slice A1_7 l1_7.length c1_7, .int .i64 a1_8, .int .i64 a1_9, .int .i64 a1_10]) (t := 30) ?hr ?_; (case hd => rfl); (case hg => rfl); (case hr => first | (go_simp; done) | (go_simp; rfl)); intro g1_ hg w38 hbox hb; have n0_ := bb hb B0_.1; have n1_ := mk (below_step (by repeat first | exact HB.1 | apply pD | apply b1 | refine bT (by assumption) ?_ | apply bA) hb); have n2_ := mk (hbox); have n3_ := gl hg (by repeat first | exact HB.1 | apply pD | apply b1 | refine bT (by assumption) ?_ | apply bA); have n4_ := gl hg (by repeat first | exact HB.1 | apply pD | apply b1 | refine bT (by assumption) ?_ | apply bA); have n5_ := nl hg B0_.1; have n6_ := ng hg B0_.1; clear B0_; clear HB; have B0_ := n0_; have HB := n1_; have B1_ := n2_; have W1_ := n3_; have E1_ := n4_; have N01_ := n5_; have N10_ := n6_; clear n0_ n1_ n2_ n3_ n4_ n5_ n6_; clear hb hbox hg; have hnb39 := N01_.1; have hnc39 := N10_.1; have hcz40_0 : w38.cell? ⟨g0_, 0, none⟩ = some (.int .i64 a0_0) := bQ B0_.1 0; have hcz40_1 : w38.cell? ⟨g0_, 1, none⟩ = some (.int .i64 a0_1) := bQ B0_.1 1; have hcz40_2 : w38.cell? ⟨g0_, 2, none⟩ = some (.int .i64 a0_2) := bQ B0_.1 2; have hcz40_3 : w38.cell? ⟨g0_, 3, none⟩ = some (.bool a0_3) := bQ B0_.1 3; have hcz40_4 : w38.cell? ⟨g0_, 4, none⟩ = some (.int .i64 a0_4) := bQ B0_.1 4; have hfz40_0 := blk_frozen B0_.1 0; have hfz40_1 := blk_frozen B0_.1 1; have hfz40_2 := blk_frozen B0_.1 2; have hfz40_3 := blk_frozen B0_.1 3; have hfz40_4 := blk_frozen B0_.1 4; have hcz41_0 : w38.cell? ⟨g1_, 0, none⟩ = some (.int .i64 a1_0) := bQ B1_.1 0; have hcz41_1 : w38.cell? ⟨g1_, 1, none⟩ = some (.int .i64 a1_1) := bQ B1_.1 1; have hcz41_2 : w38.cell? ⟨g1_, 2, none⟩ = some (.int .i64 a1_2) := bQ B1_.1 2; have hcz41_3 : w38.cell? ⟨g1_, 3, none⟩ = some (.bool a1_3) := bQ B1_.1 3; have hcz41_4 : w38.cell? ⟨g1_, 4, none⟩ = some (.int .i64 a1_4) := bQ B1_.1 4; have hfz41_0 := blk_frozen B1_.1 0; have hfz41_1 := blk_frozen B1_.1 1; have hfz41_2 := blk_frozen B1_.1 2; have hfz41_3 := blk_frozen B1_.1 3; have hfz41_4 := blk_frozen B1_.1 4))
    go_ret
    exact ⟨by first | rfl | (simp [errW_none, errW_some] <;> rfl) | (simp [*, errW_none, errW_some] <;> rfl), by repeat (first | (with_reducible first | exact HB.1 | apply bA | apply pD | apply b1 | apply bS E0_.1 | apply bS E1_.1) | exact HB.1)⟩
   rw [if_neg c5] at H
   have c5b0 : (a0_3 == a1_3) = false := by simpa using c5
   (try (have c5b1 : decide (a0_3 = a1_3) = false := by simpa using c5))
   (try (have c5b2 : (a0_3 == a1_3) = false := by simpa using c5))
   (try (have c5b3 : ¬ (a0_3 = a1_3) := by simpa using c5))
   clear c5
   obtain rfl := Option.some.inj H
   go_enter Try.func11, Try.ntmps11
   go_wp2_with (first | ((with_reducible refine gate_dst (N := 2) rfl ?_); refine box_event ?hg (N := 2) ?hd (cs := #[.int .i64 a0_0, .int .i64 a0_1, .int .i64 a0_2, .bool a0_3, .int .i64 a0_4, .int .i64 a0_5, .bool a0_6, .slice A0_7 l0_7.length c0_7, .int .i64 a0_8, .int .i64 a0_9, .int .i64 a0_10]) (t := 30) ?hr ?_; (case hd => rfl); (case hg => rfl); (case hr => first | (go_simp; done) | (go_simp; rfl)); intro g0_ hg w42 hbox hb; have n0_ := mk (below_step (by repeat first | exact HB.1 | apply pD | apply b1 | refine bT (by assumption) ?_ | apply bA) hb); have n1_ := mk (hbox); have n2_ := gl hg (by repeat first | exact HB.1 | apply pD | apply b1 | refine bT (by assumption) ?_ | apply bA); have n3_ := gl hg (by repeat first | exact HB.1 | apply pD | apply b1 | refine bT (by assumption) ?_ | apply bA); clear HB; have HB := n0_; have B0_ := n1_; have W0_ := n2_; have E0_ := n3_; clear n0_ n1_ n2_ n3_; clear hb hbox hg) | ((with_reducible refine gate_dst (N := 3) rfl ?_); refine box_event ?hg (N := 3) ?hd (cs := #[.int .i64 a1_0, .int .i64 a1_1, .int .i64 a1_2, .bool a1_3, .int .i64 a1_4, .int .i64 a1_5, .bool a1_6, .slice A1_7 l1_7.length c1_7, .int .i64 a1_8, .int .i64 a1_9, .int .i64 a1_10]) (t := 30) ?hr ?_; (case hd => rfl); (case hg => rfl); (case hr => first | (go_simp; done) | (go_simp; rfl)); intro g1_ hg w43 hbox hb; have n0_ := bb hb B0_.1; have n1_ := mk (below_step (by repeat first | exact HB.1 | apply pD | apply b1 | refine bT (by assumption) ?_ | apply bA) hb); have n2_ := mk (hbox); have n3_ := gl hg (by repeat first | exact HB.1 | apply pD | apply b1 | refine bT (by assumption) ?_ | apply bA); have n4_ := gl hg (by repeat first | exact HB.1 | apply pD | apply b1 | refine bT (by assumption) ?_ | apply bA); have n5_ := nl hg B0_.1; have n6_ := ng hg B0_.1; clear B0_; clear HB; have B0_ := n0_; have HB := n1_; have B1_ := n2_; have W1_ := n3_; have E1_ := n4_; have N01_ := n5_; have N10_ := n6_; clear n0_ n1_ n2_ n3_ n4_ n5_ n6_; clear hb hbox hg; have hnb44 := N01_.1; have hnc44 := N10_.1; have hcz45_0 : w43.cell? ⟨g0_, 0, none⟩ = some (.int .i64 a0_0) := bQ B0_.1 0; have hcz45_1 : w43.cell? ⟨g0_, 1, none⟩ = some (.int .i64 a0_1) := bQ B0_.1 1; have hcz45_2 : w43.cell? ⟨g0_, 2, none⟩ = some (.int .i64 a0_2) := bQ B0_.1 2; have hcz45_3 : w43.cell? ⟨g0_, 3, none⟩ = some (.bool a0_3) := bQ B0_.1 3; have hfz45_0 := blk_frozen B0_.1 0; have hfz45_1 := blk_frozen B0_.1 1; have hfz45_2 := blk_frozen B0_.1 2; have hfz45_3 := blk_frozen B0_.1 3; have hcz46_0 : w43.cell? ⟨g1_, 0, none⟩ = some (.int .i64 a1_0) := bQ B1_.1 0; have hcz46_1 : w43.cell? ⟨g1_, 1, none⟩ = some (.int .i64 a1_1) := bQ B1_.1 1; have hcz46_2 : w43.cell? ⟨g1_, 2, none⟩ = some (.int .i64 a1_2) := bQ B1_.1 2; have hcz46_3 : w43.cell? ⟨g1_, 3, none⟩ = some (.bool a1_3) := bQ B1_.1 3; have hfz46_0 := blk_frozen B1_.1 0; have hfz46_1 := blk_frozen B1_.1 1; have hfz46_2 := blk_frozen B1_.1 2; have hfz46_3 := blk_frozen B1_.1 3))
   go_ret
   exact ⟨by first | rfl | (simp [errW_none, errW_some] <;> rfl) | (simp [*, errW_none, errW_some] <;> rfl), by repeat (first | (with_reducible first | exact HB.1 | apply bA | apply pD | apply b1 | apply bS E0_.1 | apply bS E1_.1) | exact HB.1)⟩
  rw [if_neg c4] at H
  have c4b0 : (a0_2 == a1_2) = false := beq_eq_false_iff_ne.mpr c4
  have c4b1 : (a0_2 != a1_2) = true := bne_iff_ne.mpr c4
  obtain rfl := Option.some.inj H
  go_enter Try.func11, Try.ntmps11
  go_wp2_with (first | ((with_reducible refine gate_dst (N := 2) rfl ?_); refine box_event ?hg (N := 2) ?hd (cs := #[.int .i64 a0_0, .int .i64 a0_1, .int .i64 a0_2, .bool a0_3, .int .i64 a0_4, .int .i64 a0_5, .bool a0_6, .slice A0_7 l0_7.length c0_7, .int .i64 a0_8, .int .i64 a0_9, .int .i64 a0_10]) (t := 30) ?hr ?_; (case hd => rfl); (case hg => rfl); (case hr => first | (go_simp; done) | (go_simp; rfl)); intro g0_ hg w47 hbox hb; have n0_ := mk (below_step (by repeat first | exact HB.1 | apply pD | apply b1 | refine bT (by assumption) ?_ | apply bA) hb); have n1_ := mk (hbox); have n2_ := gl hg (by repeat first | exact HB.1 | apply pD | apply b1 | refine bT (by assumption) ?_ | apply bA); have n3_ := gl hg (by repeat first | exact HB.1 | apply pD | apply b1 | refine bT (by assumption) ?_ | apply bA); clear HB; have HB := n0_; have B0_ := n1_; have W0_ := n2_; have E0_ := n3_; clear n0_ n1_ n2_ n3_; clear hb hbox hg) | ((with_reducible refine gate_dst (N := 3) rfl ?_); refine box_event ?hg (N := 3) ?hd (cs := #[.int .i64 a1_0, .int .i64 a1_1, .int .i64 a1_2, .bool a1_3, .int .i64 a1_4, .int .i64 a1_5, .bool a1_6, .slice A1_7 l1_7.length c1_7, .int .i64 a1_8, .int .i64 a1_9, .int .i64 a1_10]) (t := 30) ?hr ?_; (case hd => rfl); (case hg => rfl); (case hr => first | (go_simp; done) | (go_simp; rfl)); intro g1_ hg w48 hbox hb; have n0_ := bb hb B0_.1; have n1_ := mk (below_step (by repeat first | exact HB.1 | apply pD | apply b1 | refine bT (by assumption) ?_ | apply bA) hb); have n2_ := mk (hbox); have n3_ := gl hg (by repeat first | exact HB.1 | apply pD | apply b1 | refine bT (by assumption) ?_ | apply bA); have n4_ := gl hg (by repeat first | exact HB.1 | apply pD | apply b1 | refine bT (by assumption) ?_ | apply bA); have n5_ := nl hg B0_.1; have n6_ := ng hg B0_.1; clear B0_; clear HB; have B0_ := n0_; have HB := n1_; have B1_ := n2_; have W1_ := n3_; have E1_ := n4_; have N01_ := n5_; have N10_ := n6_; clear n0_ n1_ n2_ n3_ n4_ n5_ n6_; clear hb hbox hg; have hnb49 := N01_.1; have hnc49 := N10_.1; have hcz50_0 : w48.cell? ⟨g0_, 0, none⟩ = some (.int .i64 a0_0) := bQ B0_.1 0; have hcz50_1 : w48.cell? ⟨g0_, 1, none⟩ = some (.int .i64 a0_1) := bQ B0_.1 1; have hcz50_2 : w48.cell? ⟨g0_, 2, none⟩ = some (.int .i64 a0_2) := bQ B0_.1 2; have hfz50_0 := blk_frozen B0_.1 0; have hfz50_1 := blk_frozen B0_.1 1; have hfz50_2 := blk_frozen B0_.1 2; have hcz51_0 : w48.cell? ⟨g1_, 0, none⟩ = some (.int .i64 a1_0) := bQ B1_.1 0; have hcz51_1 : w48.cell? ⟨g1_, 1, none⟩ = some (.int .i64 a1_1) := bQ B1_.1 1; have hcz51_2 : w48.cell? ⟨g1_, 2, none⟩ = some (.int .i64 a1_2) := bQ B1_.1 2; have hfz51_0 := blk_frozen B1_.1 0; have hfz51_1 := blk_frozen B1_.1 1; have hfz51_2 := blk_frozen B1_.1 2))
  go_ret
  exact ⟨by first | rfl | (simp [errW_none, errW_some] <;> rfl) | (simp [*, errW_none, errW_some] <;> rfl), by repeat (first | (with_reducible first | exact HB.1 | apply bA | apply pD | apply b1 | apply bS E0_.1 | apply bS E1_.1) | exact HB.1)⟩
 rw [if_neg c3] at H
 have c3b0 : (a0_0 == a1_0 && (a0_1 == a1_1)) = false := by simpa using c3
 (try (have c3b1 : decide (a0_0 = a1_0 && (a0_1 == a1_1)) = false := by simpa using c3))
 (try (have c3b2 : (a0_0 == a1_0 && (a0_1 == a1_1)) = false := by simpa using c3))
 (try (have c3b3 : ¬ (a0_0 = a1_0 && (a0_1 == a1_1)) := by simpa using c3))
 clear c3
 obtain rfl := Option.some.inj H
 go_enter Try.func11, Try.ntmps11
 go_wp2_with (first | ((with_reducible refine gate_dst (N := 2) rfl ?_); refine box_event ?hg (N := 2) ?hd (cs := #[.int .i64 a0_0, .int .i64 a0_1, .int .i64 a0_2, .bool a0_3, .int .i64 a0_4, .int .i64 a0_5, .bool a0_6, .slice A0_7 l0_7.length c0_7, .int .i64 a0_8, .int .i64 a0_9, .int .i64 a0_10]) (t := 30) ?hr ?_; (case hd => rfl); (case hg => rfl); (case hr => first | (go_simp; done) | (go_simp; rfl)); intro g0_ hg w52 hbox hb; have n0_ := mk (below_step (by repeat first | exact HB.1 | apply pD | apply b1 | refine bT (by assumption) ?_ | apply bA) hb); have n1_ := mk (hbox); have n2_ := gl hg (by repeat first | exact HB.1 | apply pD | apply b1 | refine bT (by assumption) ?_ | apply bA); have n3_ := gl hg (by repeat first | exact HB.1 | apply pD | apply b1 | refine bT (by assumption) ?_ | apply bA); clear HB; have HB := n0_; have B0_ := n1_; have W0_ := n2_; have E0_ := n3_; clear n0_ n1_ n2_ n3_; clear hb hbox hg) | ((with_reducible refine gate_dst (N := 3) rfl ?_); refine box_event ?hg (N := 3) ?hd (cs := #[.int .i64 a1_0, .int .i64 a1_1, .int .i64 a1_2, .bool a1_3, .int .i64 a1_4, .int .i64 a1_5, .bool a1_6, .slice A1_7 l1_7.length c1_7, .int .i64 a1_8, .int .i64 a1_9, .int .i64 a1_10]) (t := 30) ?hr ?_; (case hd => rfl); (case hg => rfl); (case hr => first | (go_simp; done) | (go_simp; rfl)); intro g1_ hg w53 hbox hb; have n0_ := bb hb B0_.1; have n1_ := mk (below_step (by repeat first | exact HB.1 | apply pD | apply b1 | refine bT (by assumption) ?_ | apply bA) hb); have n2_ := mk (hbox); have n3_ := gl hg (by repeat first | exact HB.1 | apply pD | apply b1 | refine bT (by assumption) ?_ | apply bA); have n4_ := gl hg (by repeat first | exact HB.1 | apply pD | apply b1 | refine bT (by assumption) ?_ | apply bA); have n5_ := nl hg B0_.1; have n6_ := ng hg B0_.1; clear B0_; clear HB; have B0_ := n0_; have HB := n1_; have B1_ := n2_; have W1_ := n3_; have E1_ := n4_; have N01_ := n5_; have N10_ := n6_; clear n0_ n1_ n2_ n3_ n4_ n5_ n6_; clear hb hbox hg; have hnb54 := N01_.1; have hnc54 := N10_.1; have hcz55_0 : w53.cell? ⟨g0_, 0, none⟩ = some (.int .i64 a0_0) := bQ B0_.1 0; have hcz55_1 : w53.cell? ⟨g0_, 1, none⟩ = some (.int .i64 a0_1) := bQ B0_.1 1; have hfz55_0 := blk_frozen B0_.1 0; have hfz55_1 := blk_frozen B0_.1 1; have hcz56_0 : w53.cell? ⟨g1_, 0, none⟩ = some (.int .i64 a1_0) := bQ B1_.1 0; have hcz56_1 : w53.cell? ⟨g1_, 1, none⟩ = some (.int .i64 a1_1) := bQ B1_.1 1; have hfz56_0 := blk_frozen B1_.1 0; have hfz56_1 := blk_frozen B1_.1 1))
 go_ret
 exact ⟨by first | rfl | (simp [errW_none, errW_some] <;> rfl) | (simp [*, errW_none, errW_some] <;> rfl), by repeat (first | (with_reducible first | exact HB.1 | apply bA | apply pD | apply b1 | apply bS E0_.1 | apply bS E1_.1) | exact HB.1)⟩

end Go.Proofs.Ytigkjbaclpklpaa.Q
