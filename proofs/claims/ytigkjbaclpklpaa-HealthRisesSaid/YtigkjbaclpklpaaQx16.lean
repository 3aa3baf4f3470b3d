/- The calls of these Go functions answer what the Lean functions beside them answer; written by a program (wip/pr2.py, out of the print of the loaded program); under no condition but those that stand in the theorems. -/
import Derived.Test.YtigkjbaclpklpaaQx0
import Derived.Test.YtigkjbaclpklpaaQx2
import Derived.Test.YtigkjbaclpklpaaQx5
import Derived.Test.YtigkjbaclpklpaaQx6
import Derived.Test.YtigkjbaclpklpaaQx7
import Derived.Test.YtigkjbaclpklpaaQx11
import Derived.Test.YtigkjbaclpklpaaQx12
import Derived.Test.YtigkjbaclpklpaaQx13
import Derived.Test.YtigkjbaclpklpaaQx14
import Derived.Test.YtigkjbaclpklpaaQx15
namespace Go.Proofs.Ytigkjbaclpklpaa.Q
open Go.RowKit Go.Proofs.YtigkjbaclpklpaaW.PrintWords Go.Proofs.YtigkjbaclpklpaaW.PrintLast Go.Proofs.YtigkjbaclpklpaaW.PrintMore
attribute [local go_sem] max2_int min2_int max_two min_two max_three min_three max_four min_four   -- for this text's walks alone
set_option linter.unusedVariables false
set_option linter.unusedSimpArgs false

/-! alive, by hand -/
attribute [local go_sem] hx.fl
theorem clepsydralaw21_alive.eof : health_Of.f 100 4 1 2 1000 1 100 10 50 20 5 5000 1000 0 0 0 false 0 0 false ([] : List S42) 0 0 0 = some 0 := by kernel_rfl
theorem clepsydralaw21_alive.eto : span_Mid.f 100 900 1100 = some 1000 := by kernel_rfl
theorem clepsydralaw21_alive.ead : sat_Add.f 100 [0, 1000] = some 1000 := by kernel_rfl
theorem clepsydralaw21_alive.esb : sat_Sub.f 100 1000 1000 = some 0 := by kernel_rfl
theorem clepsydralaw21_alive.eab : sat_Abs.f 100 0 = some 0 := by kernel_rfl
theorem clepsydralaw21_alive.ecl : slew_Clock_Step.f 100 0 false 4 1 2 1000 1 100 10 50 20 5 5000 1000 1000 1000 true = some (1000, true) := by kernel_rfl
theorem clepsydralaw21_alive.esa : health_Sane.f 100 4 1 2 1000 1 100 10 50 20 5 5000 1000 900 1100 0 false 0 0 true ([] : List S42) 0 0 0 = some (900, 1100, 0, false, 0, 0, true, ([] : List S42), 0, 0, 0) := by kernel_rfl
theorem clepsydralaw21_alive.elf : sat_Bound.f 100 0 0 2305843009213693952 = some 0 := by kernel_rfl
theorem clepsydralaw21_alive.ef2 : health_Far.f 100 4 1 2 1000 1 100 10 50 20 5 5000 1000 0 = some 540 := by kernel_rfl
theorem clepsydralaw21_alive.emo : sat_Add.f 100 [1100, 540] = some 1640 := by kernel_rfl
theorem clepsydralaw21_alive.eme : hlc_Clock_Mend.f 100 0 0 1000 1640 = some (0, 0, false) := by kernel_rfl
theorem clepsydralaw21_alive.etk : hlc_Clock_Tick.f 100 0 0 1000 = some (1000, 0) := by kernel_rfl
theorem clepsydralaw21_alive.eo2 : health_Of.f 100 4 1 2 1000 1 100 10 50 20 5 5000 1000 900 1100 1000 true 0 0 true ([] : List S42) 1000 0 0 = some 1 := by kernel_rfl
def clepsydralaw21_alive.f : Option Bool := some true
set_option maxHeartbeats 8000000 in
set_option maxRecDepth 100000 in
theorem clepsydralaw21_alive.calls (r : Bool) (w : World) (h : clepsydralaw21_alive.f = some r) : Calls Try.prog 8 #[] w fun e w' => e = .returned (.bool r) ∧ Below w.heap.size w w' := by
 obtain rfl := Option.some.inj h
 clear h
 have HB := Aside0.mk (Below.refl w.heap.size w)
 go_enter Try.func8, Try.ntmps8
 go_upto_region 2 with (first | (go_at_call 27; (with_reducible refine (clepsydralaw21_some.calls _ _ _ _ _ _ _ _ _ _ _ _ _ rfl).mono ?_); rintro e w1_ ⟨rfl, hb⟩; have n0_ := Aside0.mk (below_step HB.out hb); clear HB; have HB := n0_; clear n0_; clear hb) | ((with_reducible refine gate_dst (N := 8) rfl ?_); refine box_event ?hg (N := 8) ?hd (cs := #[.int .i64 4, .int .i64 1, .int .i64 2, .int .i64 1000, .int .i64 1, .int .i64 100, .int .i64 10, .int .i64 50, .int .i64 20, .int .i64 5, .int .i64 5000, .int .i64 1000, .int .i64 0, .int .i64 0, .int .i64 0, .bool false, .int .i64 0, .int .i64 0, .bool false, .slice none 0 0, .int .i64 0, .int .i64 0, .int .i64 0]) (t := 39) ?hr ?_; (case hd => rfl); (case hg => rfl); (case hr => first | (go_simp; done) | (go_simp; rfl)); intro g hg w2_ hbox hb; have E_g : Aside0 (w.heap.size ≤ g) := ⟨by rw [hg]; exact below_size HB.out⟩; have n0_ := Aside0.mk (below_step HB.out hb); clear HB; have HB := n0_; clear n0_; have B_g := Aside0.mk hbox; clear hb hbox hg))
 go_upto_region 3 with ((go_at_call 20; (refine (health_Front_Now.boot 100 g 4 1 2 1000 1 100 10 50 20 5 5000 1000 0 0 0 false 0 0 false none 0 [] 0 0 0 _ (Kd.C_nil _ _) (Nat.le_refl _) B_g.out clepsydralaw21_alive.eof).mono ?_); rintro e w3_ ⟨rfl, hb⟩; have n0_ := Aside0.mk (blk_below B_g.out hb); have n1_ := Aside0.mk (below_step HB.out hb); clear B_g HB; have B_g := n0_; have HB := n1_; clear n0_ n1_; clear hb))
 go_upto_region 4 with ((go_at_call 17; (refine (health_Front_Step.calls 100 g 4 1 2 1000 1 100 10 50 20 5 5000 1000 0 0 0 false 0 0 false none 0 [] 0 0 0 1000 900 1100 0 false 0 0 true none 0 [] 0 0 0 1000 1000 0 0 0 true 1000 true 900 1100 0 false 0 0 true [] 0 0 0 0 540 1640 0 0 false 1000 0 0 _ (Kd.C_nil _ _) (Nat.le_refl _) (Kd.C_nil _ _) (Nat.le_refl _) B_g.out clepsydralaw21_alive.eto clepsydralaw21_alive.ead clepsydralaw21_alive.esb clepsydralaw21_alive.eab clepsydralaw21_alive.eof (Or.inl ⟨rfl, rfl⟩) clepsydralaw21_alive.ecl clepsydralaw21_alive.esa clepsydralaw21_alive.elf clepsydralaw21_alive.ef2 clepsydralaw21_alive.emo clepsydralaw21_alive.eme clepsydralaw21_alive.etk (Or.inr ⟨rfl, by decide, rfl⟩)).mono ?_); rintro e w4_ ⟨mA, mc, rfl, hg, hn, ho⟩; have R_m := Aside0.mk (Kd.R_lower ho (below_size HB.out)); have n0_ := Aside0.mk (hn); have n1_ := Aside0.mk (pw_below_grown HB.out (some g) (below_size HB.out) hg (fun k_ e_ => by cases e_; exact E_g.out)); clear B_g HB; have B_g := n0_; have HB := n1_; clear n0_ n1_; clear hg hn ho))
 go_upto_region 5 with ((go_at_call 20; (refine (health_Front_Now.ok 100 g 4 1 2 1000 1 100 10 50 20 5 5000 1000 900 1100 1000 true 0 0 true mA mc [] 1000 0 0 1 (by decide) _ (Kd.R_reads' R_m.out).2.2 (Nat.zero_le _) B_g.out clepsydralaw21_alive.eo2).mono ?_); rintro e w5_ ⟨rfl, hb⟩; have n0_ := Aside0.mk (blk_below B_g.out hb); have n1_ := Aside0.mk (Kd.R_below R_m.out hb); have n2_ := Aside0.mk (below_step HB.out hb); clear B_g R_m HB; have B_g := n0_; have R_m := n1_; have HB := n2_; clear n0_ n1_ n2_; clear hb))
 go_wp2_with ((go_at_call 22; (refine (health_Front_Health.calls 100 g 4 1 2 1000 1 100 10 50 20 5 5000 1000 900 1100 1000 true 0 0 true mA mc [] 1000 0 0 1 _ (Kd.R_reads' R_m.out).2.2 (Nat.zero_le _) B_g.out clepsydralaw21_alive.eo2).mono ?_); rintro e w6_ ⟨rfl, hb⟩; have n0_ := Aside0.mk (blk_below B_g.out hb); have n1_ := Aside0.mk (Kd.R_below R_m.out hb); have n2_ := Aside0.mk (below_step HB.out hb); clear B_g R_m HB; have B_g := n0_; have R_m := n1_; have HB := n2_; clear n0_ n1_ n2_; clear hb))
 go_ret
 exact ⟨rfl, HB.out⟩

/-! ### clepsydralaw21_long: function 9 -/
def clepsydralaw21_long.f (a0_0 : Int) (a0_1 : Int) (a0_2 : Int) (a0_3 : Bool) (a0_4 : Int) (a0_5 : Int) (a0_6 : Bool) (l0_7 : List (S42)) (a0_8 : Int) (a0_9 : Int) (a0_10 : Int) (a1_0 : Int) (a1_1 : Int) (a1_2 : Int) (a1_3 : Bool) (a1_4 : Int) (a1_5 : Int) (a1_6 : Bool) (l1_7 : List (S42)) (a1_8 : Int) (a1_9 : Int) (a1_10 : Int) : Option (Bool) := if (l0_7.length : Int) > 256 then (some true) else (some (decide ((l1_7.length : Int) > 256)))
set_option maxHeartbeats 8000000 in
set_option maxRecDepth 100000 in
theorem clepsydralaw21_long.calls (a0_0 : Int) (a0_1 : Int) (a0_2 : Int) (a0_3 : Bool) (a0_4 : Int) (a0_5 : Int) (a0_6 : Bool) (A0_7 : Option Addr) (c0_7 : Nat) (l0_7 : List (S42)) (a0_8 : Int) (a0_9 : Int) (a0_10 : Int) (a1_0 : Int) (a1_1 : Int) (a1_2 : Int) (a1_3 : Bool) (a1_4 : Int) (a1_5 : Int) (a1_6 : Bool) (A1_7 : Option Addr) (c1_7 : Nat) (l1_7 : List (S42)) (a1_8 : Int) (a1_9 : Int) (a1_10 : Int) (r : Bool) (w : World) (hr0_7 : Kd.C k42 w A0_7 l0_7.length l0_7) (hc0_7 : l0_7.length ≤ c0_7) (hr1_7 : Kd.C k42 w A1_7 l1_7.length l1_7) (hc1_7 : l1_7.length ≤ c1_7) (h : clepsydralaw21_long.f a0_0 a0_1 a0_2 a0_3 a0_4 a0_5 a0_6 l0_7 a0_8 a0_9 a0_10 a1_0 a1_1 a1_2 a1_3 a1_4 a1_5 a1_6 l1_7 a1_8 a1_9 a1_10 = some r) :
  Calls Try.prog 9 #[.agg #[.int .i64 a0_0, .int .i64 a0_1, .int .i64 a0_2, .bool a0_3, .int .i64 a0_4, .int .i64 a0_5, .bool a0_6, .slice A0_7 l0_7.length c0_7, .int .i64 a0_8, .int .i64 a0_9, .int .i64 a0_10], .agg #[.int .i64 a1_0, .int .i64 a1_1, .int .i64 a1_2, .bool a1_3, .int .i64 a1_4, .int .i64 a1_5, .bool a1_6, .slice A1_7 l1_7.length c1_7, .int .i64 a1_8, .int .i64 a1_9, .int .i64 a1_10]] w fun e w' => e = .returned (.bool r) ∧ Below w.heap.size w w' := by
 have hu30 := Try.underlying30
 have HR0_7 := mk hr0_7
 have HC0_7 := mk hc0_7
 clear hr0_7 hc0_7
 have HR1_7 := mk hr1_7
 have HC1_7 := mk hc1_7
 clear hr1_7 hc1_7
 have HB := mk (Below.refl w.heap.size w)
 have H : (if (l0_7.length : Int) > 256 then (some true) else (some (decide ((l1_7.length : Int) > 256)))) = some r := h
 clear h
 by_cases c3 : (l0_7.length : Int) > 256
 ·rw [if_pos c3] at H
  have c3b0 : decide (256 < (l0_7.length : Int)) = true := decide_eq_true c3
  have c3b1 : decide (256 < l0_7.length) = true := decide_eq_true (by omega)
  clear c3
  obtain rfl := Option.some.inj H
  go_enter Try.func9, Try.ntmps9
  go_wp2_with (first | ((with_reducible refine gate_dst (N := 2) rfl ?_); (try (refine gate_guard (by rfl) ?_; dsimp only)); refine box_event ?hg (N := 2) ?hd (cs := #[.int .i64 a0_0, .int .i64 a0_1, .int .i64 a0_2, .bool a0_3, .int .i64 a0_4, .int .i64 a0_5, .bool a0_6, .slice A0_7 l0_7.length c0_7, .int .i64 a0_8, .int .i64 a0_9, .int .i64 a0_10]) (t := 30) ?hr ?_; (case hd => rfl); (case hg => rfl); (case hr => first | (go_simp; done) | (go_simp; rfl)); intro g0_ hg w4 hbox hb; have n0_ := mk (below_step (by repeat first | exact HB.1 | apply pD | apply b1 | refine bT (by assumption) ?_ | apply bA) hb); have n1_ := mk (hbox); have n2_ := gl hg (by repeat first | exact HB.1 | apply pD | apply b1 | refine bT (by assumption) ?_ | apply bA); have n3_ := gl hg (by repeat first | exact HB.1 | apply pD | apply b1 | refine bT (by assumption) ?_ | apply bA); clear HB; have HB := n0_; have B0_ := n1_; have W0_ := n2_; have E0_ := n3_; clear n0_ n1_ n2_ n3_; clear hb hbox hg) | ((with_reducible refine gate_dst (N := 3) rfl ?_); (try (refine gate_guard (by rfl) ?_; dsimp only)); refine box_event ?hg (N := 3) ?hd (cs := #[.int .i64 a1_0, .int .i64 a1_1, .int .i64 a1_2, .bool a1_3, .int .i64 a1_4, .int .i64 a1_5, .bool a1_6, .slice A1_7 l1_7.length c1_7, .int .i64 a1_8, .int .i64 a1_9, .int .i64 a1_10]) (t := 30) ?hr ?_; (case hd => rfl); (case hg => rfl); (case hr => first | (go_simp; done) | (go_simp; rfl)); intro g1_ hg w5 hbox hb; have n0_ := bb hb B0_.1; have n1_ := mk (below_step (by repeat first | exact HB.1 | apply pD | apply b1 | refine bT (by assumption) ?_ | apply bA) hb); have n2_ := mk (hbox); have n3_ := gl hg (by repeat first | exact HB.1 | apply pD | apply b1 | refine bT (by assumption) ?_ | apply bA); have n4_ := gl hg (by repeat first | exact HB.1 | apply pD | apply b1 | refine bT (by assumption) ?_ | apply bA); have n5_ := nl hg B0_.1; have n6_ := ng hg B0_.1; clear B0_; clear HB; have B0_ := n0_; have HB := n1_; have B1_ := n2_; have W1_ := n3_; have E1_ := n4_; have N01_ := n5_; have N10_ := n6_; clear n0_ n1_ n2_ n3_ n4_ n5_ n6_; clear hb hbox hg; have hnb6 := N01_.1; have hnc6 := N10_.1; have hcz7_7 : w5.cell? ⟨g0_, 7, none⟩ = some (.slice A0_7 l0_7.length c0_7) := bQ B0_.1 7; have hfz7_7 := blk_frozen B0_.1 7))
  go_ret
  exact ⟨by first | rfl | (simp [errW_none, errW_some] <;> rfl) | (simp [*, errW_none, errW_some] <;> rfl), by repeat (first | (with_reducible first | exact HB.1 | apply bA | apply pD | apply b1 | apply bS E0_.1 | apply bS E1_.1) | exact HB.1)⟩
 rw [if_neg c3] at H
 have c3b0 : decide (256 < (l0_7.length : Int)) = false := decide_eq_false c3
 have c3b1 : decide (256 < l0_7.length) = false := decide_eq_false (by omega)
 clear c3
 obtain rfl := Option.some.inj H
 go_enter Try.func9, Try.ntmps9
 go_wp2_with (first | ((with_reducible refine gate_dst (N := 2) rfl ?_); (try (refine gate_guard (by rfl) ?_; dsimp only)); refine box_event ?hg (N := 2) ?hd (cs := #[.int .i64 a0_0, .int .i64 a0_1, .int .i64 a0_2, .bool a0_3, .int .i64 a0_4, .int .i64 a0_5, .bool a0_6, .slice A0_7 l0_7.length c0_7, .int .i64 a0_8, .int .i64 a0_9, .int .i64 a0_10]) (t := 30) ?hr ?_; (case hd => rfl); (case hg => rfl); (case hr => first | (go_simp; done) | (go_simp; rfl)); intro g0_ hg w8 hbox hb; have n0_ := mk (below_step (by repeat first | exact HB.1 | apply pD | apply b1 | refine bT (by assumption) ?_ | apply bA) hb); have n1_ := mk (hbox); have n2_ := gl hg (by repeat first | exact HB.1 | apply pD | apply b1 | refine bT (by assumption) ?_ | apply bA); have n3_ := gl hg (by repeat first | exact HB.1 | apply pD | apply b1 | refine bT (by assumption) ?_ | apply bA); clear HB; have HB := n0_; have B0_ := n1_; have W0_ := n2_; have E0_ := n3_; clear n0_ n1_ n2_ n3_; clear hb hbox hg) | ((with_reducible refine gate_dst (N := 3) rfl ?_); (try (refine gate_guard (by rfl) ?_; dsimp only)); refine box_event ?hg (N := 3) ?hd (cs := #[.int .i64 a1_0, .int .i64 a1_1, .int .i64 a1_2, .bool a1_3, .int .i64 a1_4, .int .i64 a1_5, .bool a1_6, .slice A1_7 l1_7.length c1_7, .int .i64 a1_8, .int .i64 a1_9, .int .i64 a1_10]) (t := 30) ?hr ?_; (case hd => rfl); (case hg => rfl); (case hr => first | (go_simp; done) | (go_simp; rfl)); intro g1_ hg w9 hbox hb; have n0_ := bb hb B0_.1; have n1_ := mk (below_step (by repeat first | exact HB.1 | apply pD | apply b1 | refine bT (by assumption) ?_ | apply bA) hb); have n2_ := mk (hbox); have n3_ := gl hg (by repeat first | exact HB.1 | apply pD | apply b1 | refine bT (by assumption) ?_ | apply bA); have n4_ := gl hg (by repeat first | exact HB.1 | apply pD | apply b1 | refine bT (by assumption) ?_ | apply bA); have n5_ := nl hg B0_.1; have n6_ := ng hg B0_.1; clear B0_; clear HB; have B0_ := n0_; have HB := n1_; have B1_ := n2_; have W1_ := n3_; have E1_ := n4_; have N01_ := n5_; have N10_ := n6_; clear n0_ n1_ n2_ n3_ n4_ n5_ n6_; clear hb hbox hg; have hnb10 := N01_.1; have hnc10 := N10_.1; have hcz11_7 : w9.cell? ⟨g0_, 7, none⟩ = some (.slice A0_7 l0_7.length c0_7) := bQ B0_.1 7; have hfz11_7 := blk_frozen B0_.1 7; have hcz12_7 : w9.cell? ⟨g1_, 7, none⟩ = some (.slice A1_7 l1_7.length c1_7) := bQ B1_.1 7; have hfz12_7 := blk_frozen B1_.1 7))
 go_ret
 exact ⟨by first | rfl | (simp [errW_none, errW_some] <;> rfl) | (simp [*, errW_none, errW_some] <;> rfl), by repeat (first | (with_reducible first | exact HB.1 | apply bA | apply pD | apply b1 | apply bS E0_.1 | apply bS E1_.1) | exact HB.1)⟩

/-! ### limit_in: function 55 -/
def limit_in.f (a0 : Int) (a1 : Int) (a2 : Int) : Option (Bool) := if a1 ≤ a0 then (some (decide (a0 ≤ a2))) else (some false)
set_option maxHeartbeats 8000000 in
set_option maxRecDepth 100000 in
theorem limit_in.calls (a0 : Int) (a1 : Int) (a2 : Int) (r : Bool) (w : World) (h : limit_in.f a0 a1 a2 = some r) :
    Calls Try.prog 55 #[.int .i64 a0, .int .i64 a1, .int .i64 a2] w fun e w' => e = .returned (.bool r) ∧ Drawn0 w w' := by
  have H : (if a1 ≤ a0 then (some (decide (a0 ≤ a2))) else (some false)) = some r := h
  clear h
  by_cases c4 : a1 ≤ a0
  · rw [if_pos c4] at H
    have c4b0 : decide (a1 ≤ a0) = true := decide_eq_true c4
    clear c4
    obtain rfl := Option.some.inj H
    go_enter Try.func55, Try.ntmps55
    go_wp2
    go_ret
    exact ⟨by first | rfl | (simp; done) | (simp [*]; done) | (simp [Int.tdiv_eq_ediv_of_nonneg]; done) | (simp [Go.RowKit.wrap64]; done) | (simp [*, Go.RowKit.wrap64]; done), by repeat (first | exact Drawn0.refl _ | apply Drawn0.step)⟩
  · rw [if_neg c4] at H
    have c4b0 : decide (a1 ≤ a0) = false := decide_eq_false c4
    clear c4
    obtain rfl := Option.some.inj H
    go_enter Try.func55, Try.ntmps55
    go_wp2
    go_ret
    exact ⟨by first | rfl | (simp; done) | (simp [*]; done) | (simp [Int.tdiv_eq_ediv_of_nonneg]; done) | (simp [Go.RowKit.wrap64]; done) | (simp [*, Go.RowKit.wrap64]; done), by repeat (first | exact Drawn0.refl _ | apply Drawn0.step)⟩

end Go.Proofs.Ytigkjbaclpklpaa.Q
