/- The calls of these Go functions answer what the Lean functions beside them answer; written by a program (wip/pr2.py, out of the print of the loaded program); under no condition but those that stand in the theorems. -/
import Derived.Test.YtigkjbaclpklpaaDoorQx0
import Derived.Test.YtigkjbaclpklpaaDoorQx4
import Derived.Test.YtigkjbaclpklpaaDoorQx5
import Derived.Test.YtigkjbaclpklpaaDoorQx9
namespace Go.Proofs.YtigkjbaclpklpaaDoor.Q
open Go.RowKit Go.Proofs.YtigkjbaclpklpaaDoorW.PrintWords Go.Proofs.YtigkjbaclpklpaaDoorW.PrintLast Go.Proofs.YtigkjbaclpklpaaDoorW.PrintMore
attribute [local go_sem] max2_int min2_int max_two min_two max_three min_three max_four min_four   -- for this text's walks alone
set_option linter.unusedVariables false
set_option linter.unusedSimpArgs false

/-! ### slew_Clock_Step: function 36 -/
def slew_Clock_Step.j0 : Nat → Int → Int → Bool → Int → Bool → Int → Int → Int → Int → Int → Int → Int → Int → Int → Int → Int → Int → Option (Int × Bool)
 | 0, _, _, _, _, _, _, _, _, _, _, _, _, _, _, _, _, _ => none
 | k + 1, x2, x3, x18, x174000, x174001, x175000, x175001, x175002, x175003, x175004, x175005, x175006, x175007, x175008, x175009, x175010, x175011 => if x18 = true then ((sat_Clip.f k x3).bind fun t176 => (some (t176, true))) else ((sat_Add.f k (([x174000, x2] : List Int))).bind fun t180 => ((sat_Sub.f k x3 t180).bind fun t181 => ((sat_Neg.f k x175008).bind fun t182 => ((sat_Bound.f k t181 t182 x175008).bind fun t183 => ((sat_Add.f k (([t180, t183] : List Int))).bind fun t187 => (some (t187, true)))))))
def slew_Clock_Step.f (k : Nat) (a0_0 : Int) (a0_1 : Bool) (a1_0 : Int) (a1_1 : Int) (a1_2 : Int) (a1_3 : Int) (a1_4 : Int) (a1_5 : Int) (a1_6 : Int) (a1_7 : Int) (a1_8 : Int) (a1_9 : Int) (a1_10 : Int) (a1_11 : Int) (a2 : Int) (a3 : Int) (a4 : Bool) : Option (Int × Bool) := if a4 = true then (slew_Clock_Step.j0 k a2 a3 true a0_0 a0_1 a1_0 a1_1 a1_2 a1_3 a1_4 a1_5 a1_6 a1_7 a1_8 a1_9 a1_10 a1_11) else (slew_Clock_Step.j0 k a2 a3 (!a0_1) a0_0 a0_1 a1_0 a1_1 a1_2 a1_3 a1_4 a1_5 a1_6 a1_7 a1_8 a1_9 a1_10 a1_11)
theorem slew_Clock_Step.mono_l : ∀ k, (∀ y0 y1 y2 y3 y4 y5 y6 y7 y8 y9 y10 y11 y12 y13 y14 y15 y16, LeO (slew_Clock_Step.j0 k y0 y1 y2 y3 y4 y5 y6 y7 y8 y9 y10 y11 y12 y13 y14 y15 y16) (slew_Clock_Step.j0 (k + 1) y0 y1 y2 y3 y4 y5 y6 y7 y8 y9 y10 y11 y12 y13 y14 y15 y16))
 | 0 => fun _ _ _ _ _ _ _ _ _ _ _ _ _ _ _ _ _ r h => by simp [slew_Clock_Step.j0] at h
 | k + 1 => by
  have ih0 := slew_Clock_Step.mono_l k
  intro y0 y1 y2 y3 y4 y5 y6 y7 y8 y9 y10 y11 y12 y13 y14 y15 y16
  unfold slew_Clock_Step.j0
  repeat' first
  | (with_reducible exact ih0 _ _ _ _ _ _ _ _ _ _ _ _ _ _ _ _ _)
  | (with_reducible exact sat_Add.mono _ _)
  | (with_reducible exact sat_Bound.mono _ _ _ _)
  | (with_reducible exact sat_Clip.mono _ _)
  | (with_reducible exact sat_Neg.mono _ _)
  | (with_reducible exact sat_Sub.mono _ _ _)
  | (with_reducible exact LeO.refl _)
  | (with_reducible exact LeO.none _)
  | (with_reducible refine LeO.ite ?_ ?_)
  | (with_reducible refine LeO.bind ?_ (fun _ => ?_))
  | exact ih0 _ _ _ _ _ _ _ _ _ _ _ _ _ _ _ _ _
  | exact sat_Add.mono _ _
  | exact sat_Bound.mono _ _ _ _
  | exact sat_Clip.mono _ _
  | exact sat_Neg.mono _ _
  | exact sat_Sub.mono _ _ _
  | exact LeO.none _
  | refine LeO.ite ?_ ?_
  | refine LeO.bind ?_ (fun _ => ?_)
theorem slew_Clock_Step.mono : ∀ a0 a1 a2 a3 a4 a5 a6 a7 a8 a9 a10 a11 a12 a13 a14 a15 a16 k, LeO (slew_Clock_Step.f k a0 a1 a2 a3 a4 a5 a6 a7 a8 a9 a10 a11 a12 a13 a14 a15 a16) (slew_Clock_Step.f (k + 1) a0 a1 a2 a3 a4 a5 a6 a7 a8 a9 a10 a11 a12 a13 a14 a15 a16) := by
 intro a0 a1 a2 a3 a4 a5 a6 a7 a8 a9 a10 a11 a12 a13 a14 a15 a16 k
 have ih0 := slew_Clock_Step.mono_l k
 unfold slew_Clock_Step.f
 repeat' first
   | (with_reducible exact ih0 _ _ _ _ _ _ _ _ _ _ _ _ _ _ _ _ _)
   | (with_reducible exact sat_Add.mono _ _)
   | (with_reducible exact sat_Bound.mono _ _ _ _)
   | (with_reducible exact sat_Clip.mono _ _)
   | (with_reducible exact sat_Neg.mono _ _)
   | (with_reducible exact sat_Sub.mono _ _ _)
   | (with_reducible exact LeO.refl _)
   | (with_reducible exact LeO.none _)
   | (with_reducible refine LeO.ite ?_ ?_)
   | (with_reducible refine LeO.bind ?_ (fun _ => ?_))
   | exact ih0 _ _ _ _ _ _ _ _ _ _ _ _ _ _ _ _ _
   | exact sat_Add.mono _ _
   | exact sat_Bound.mono _ _ _ _
   | exact sat_Clip.mono _ _
   | exact sat_Neg.mono _ _
   | exact sat_Sub.mono _ _ _
   | exact LeO.none _
   | refine LeO.ite ?_ ?_
   | refine LeO.bind ?_ (fun _ => ?_)
set_option maxHeartbeats 8000000 in
set_option maxRecDepth 100000 in
theorem slew_Clock_Step.calls (k : Nat) (a0_0 : Int) (a0_1 : Bool) (a1_0 : Int) (a1_1 : Int) (a1_2 : Int) (a1_3 : Int) (a1_4 : Int) (a1_5 : Int) (a1_6 : Int) (a1_7 : Int) (a1_8 : Int) (a1_9 : Int) (a1_10 : Int) (a1_11 : Int) (a2 : Int) (a3 : Int) (a4 : Bool) (r1 : Int) (r2 : Bool) (w : World) (h : slew_Clock_Step.f k a0_0 a0_1 a1_0 a1_1 a1_2 a1_3 a1_4 a1_5 a1_6 a1_7 a1_8 a1_9 a1_10 a1_11 a2 a3 a4 = some (r1, r2)) :
  Calls Tryd.prog 36 #[.agg #[.int .i64 a0_0, .bool a0_1], .agg #[.int .i64 a1_0, .int .i64 a1_1, .int .i64 a1_2, .int .i64 a1_3, .int .i64 a1_4, .int .i64 a1_5, .int .i64 a1_6, .int .i64 a1_7, .int .i64 a1_8, .int .i64 a1_9, .int .i64 a1_10, .int .i64 a1_11], .int .i64 a2, .int .i64 a3, .bool a4] w fun e w' => e = .returned (.agg #[.int .i64 r1, .bool r2]) ∧ Below w.heap.size w w' := by
 have hu72 := Tryd.underlying72
 have hu23 := Tryd.underlying23
 have HB := mk (Below.refl w.heap.size w)
 have H : (if a4 = true then (slew_Clock_Step.j0 k a2 a3 true a0_0 a0_1 a1_0 a1_1 a1_2 a1_3 a1_4 a1_5 a1_6 a1_7 a1_8 a1_9 a1_10 a1_11) else (slew_Clock_Step.j0 k a2 a3 (!a0_1) a0_0 a0_1 a1_0 a1_1 a1_2 a1_3 a1_4 a1_5 a1_6 a1_7 a1_8 a1_9 a1_10 a1_11)) = some (r1, r2) := h
 clear h
 have HC6 := mk H
 clear H
 go_enter Tryd.func36, Tryd.ntmps36
 go_upto_region 1 with (first | ((with_reducible refine gate_dst (N := 5) rfl ?_); refine bx 5 #[.int .i64 a0_0, .bool a0_1] 72 ?_; intro g0_ hg w7 hbox hb; have B0_ := mk (hbox); have W0_ := gl hg zq; have E0_ := gl hg zq; replace HB := mk (below_step zq hb); clear hb hbox hg) | ((with_reducible refine gate_dst (N := 6) rfl ?_); refine bx 6 #[.int .i64 a1_0, .int .i64 a1_1, .int .i64 a1_2, .int .i64 a1_3, .int .i64 a1_4, .int .i64 a1_5, .int .i64 a1_6, .int .i64 a1_7, .int .i64 a1_8, .int .i64 a1_9, .int .i64 a1_10, .int .i64 a1_11] 23 ?_; intro g1_ hg w8 hbox hb; have B1_ := mk (hbox); have W1_ := gl hg zq; have E1_ := gl hg zq; replace HB := mk (below_step zq hb); have N01_ := nl hg B0_.1; have N10_ := ng hg B0_.1; replace B0_ := bb hb B0_.1; clear hb hbox hg) | ((with_reducible refine gate_dst (N := 10) rfl ?_); refine bx 10 #[.int .i64 0, .bool false] 72 ?_; intro g2_ hg w9 hbox hb; have B2_ := mk (hbox); have W2_ := gl hg zq; have E2_ := gl hg zq; replace HB := mk (below_step zq hb); have N02_ := nl hg B0_.1; have N20_ := ng hg B0_.1; replace B0_ := bb hb B0_.1; have N12_ := nl hg B1_.1; have N21_ := ng hg B1_.1; replace B1_ := bb hb B1_.1; clear hb hbox hg))
 repeat (go_quiet (first | ((with_reducible refine gate_dst (N := 5) rfl ?_); refine bx 5 #[.int .i64 a0_0, .bool a0_1] 72 ?_; intro g0_ hg w7 hbox hb; have B0_ := mk (hbox); have W0_ := gl hg zq; have E0_ := gl hg zq; replace HB := mk (below_step zq hb); clear hb hbox hg) | ((with_reducible refine gate_dst (N := 6) rfl ?_); refine bx 6 #[.int .i64 a1_0, .int .i64 a1_1, .int .i64 a1_2, .int .i64 a1_3, .int .i64 a1_4, .int .i64 a1_5, .int .i64 a1_6, .int .i64 a1_7, .int .i64 a1_8, .int .i64 a1_9, .int .i64 a1_10, .int .i64 a1_11] 23 ?_; intro g1_ hg w8 hbox hb; have B1_ := mk (hbox); have W1_ := gl hg zq; have E1_ := gl hg zq; replace HB := mk (below_step zq hb); have N01_ := nl hg B0_.1; have N10_ := ng hg B0_.1; replace B0_ := bb hb B0_.1; clear hb hbox hg) | ((with_reducible refine gate_dst (N := 10) rfl ?_); refine bx 10 #[.int .i64 0, .bool false] 72 ?_; intro g2_ hg w9 hbox hb; have B2_ := mk (hbox); have W2_ := gl hg zq; have E2_ := gl hg zq; replace HB := mk (below_step zq hb); have N02_ := nl hg B0_.1; have N20_ := ng hg B0_.1; replace B0_ := bb hb B0_.1; have N12_ := nl hg B1_.1; have N21_ := ng hg B1_.1; replace B1_ := bb hb B1_.1; clear hb hbox hg)); go_upto_region 1 with (first | ((with_reducible refine gate_dst (N := 5) rfl ?_); refine bx 5 #[.int .i64 a0_0, .bool a0_1] 72 ?_; intro g0_ hg w7 hbox hb; have B0_ := mk (hbox); have W0_ := gl hg zq; have E0_ := gl hg zq; replace HB := mk (below_step zq hb); clear hb hbox hg) | ((with_reducible refine gate_dst (N := 6) rfl ?_); refine bx 6 #[.int .i64 a1_0, .int .i64 a1_1, .int .i64 a1_2, .int .i64 a1_3, .int .i64 a1_4, .int .i64 a1_5, .int .i64 a1_6, .int .i64 a1_7, .int .i64 a1_8, .int .i64 a1_9, .int .i64 a1_10, .int .i64 a1_11] 23 ?_; intro g1_ hg w8 hbox hb; have B1_ := mk (hbox); have W1_ := gl hg zq; have E1_ := gl hg zq; replace HB := mk (below_step zq hb); have N01_ := nl hg B0_.1; have N10_ := ng hg B0_.1; replace B0_ := bb hb B0_.1; clear hb hbox hg) | ((with_reducible refine gate_dst (N := 10) rfl ?_); refine bx 10 #[.int .i64 0, .bool false] 72 ?_; intro g2_ hg w9 hbox hb; have B2_ := mk (hbox); have W2_ := gl hg zq; have E2_ := gl hg zq; replace HB := mk (below_step zq hb); have N02_ := nl hg B0_.1; have N20_ := ng hg B0_.1; replace B0_ := bb hb B0_.1; have N12_ := nl hg B1_.1; have N21_ := ng hg B1_.1; replace B1_ := bb hb B1_.1; clear hb hbox hg)))
 (try simp only [Act.put, zA, zB, zC])
 go_cut [18] (fun v18 wc => ∃ (kq : Nat) (x18_5 : Bool), v18 = .bool x18_5 ∧ Aside0 (slew_Clock_Step.j0 kq a2 a3 x18_5 a0_0 a0_1 a1_0 a1_1 a1_2 a1_3 a1_4 a1_5 a1_6 a1_7 a1_8 a1_9 a1_10 a1_11 = some (r1, r2)) ∧ Aside0 (kq ≤ k) ∧ Aside0 (wc.heap[g0_]? = some (.cells #[.int .i64 a0_0, .bool a0_1] 72 (0, 0))) ∧ Aside0 (wc.heap[g1_]? = some (.cells #[.int .i64 a1_0, .int .i64 a1_1, .int .i64 a1_2, .int .i64 a1_3, .int .i64 a1_4, .int .i64 a1_5, .int .i64 a1_6, .int .i64 a1_7, .int .i64 a1_8, .int .i64 a1_9, .int .i64 a1_10, .int .i64 a1_11] 23 (0, 0))) ∧ Aside0 (wc.heap[g2_]? = some (.cells #[.int .i64 0, .bool false] 72 (0, 0))) ∧ Aside0 (Below w.heap.size w wc))
 case first =>
  have H := HC6.1
  clear HC6
  by_cases c10 : a4 = true
  ·subst c10
   have H1 : (slew_Clock_Step.j0 k a2 a3 true a0_0 a0_1 a1_0 a1_1 a1_2 a1_3 a1_4 a1_5 a1_6 a1_7 a1_8 a1_9 a1_10 a1_11) = some (r1, r2) := by rw [if_pos rfl] at H; exact H
   clear H
   have H := H1
   clear H1
   have H' := mk H
   clear H
   go_wp2
   repeat (go_quiet (fail); try go_wp2)
   go_meet
   case rel => exact ⟨_, (true), zs, H', ⟨by first | omega | exact Nat.le_refl _⟩, ⟨by exact B0_.1⟩, ⟨by exact B1_.1⟩, ⟨by exact B2_.1⟩, ⟨by repeat (first | (with_reducible first | exact HB.1 | apply bA | apply pD | apply b1 | apply bS E0_.1 | apply bS E1_.1 | apply bS E2_.1) | exact HB.1)⟩⟩
  replace c10 := Bool.eq_false_iff.mpr c10
  subst c10
  have H1 : (slew_Clock_Step.j0 k a2 a3 (!a0_1) a0_0 a0_1 a1_0 a1_1 a1_2 a1_3 a1_4 a1_5 a1_6 a1_7 a1_8 a1_9 a1_10 a1_11) = some (r1, r2) := by rw [if_neg (show ¬ (false = true) by decide)] at H; exact H
  clear H
  have H := H1
  clear H1
  have H' := mk H
  clear H
  have hnb11 := N01_.1
  have hnc11 := N10_.1
  have hnb12 := N02_.1
  have hnc12 := N20_.1
  have hcz13_1 : w9.cell? ⟨g0_, 1, none⟩ = some (.bool a0_1) := bQ B0_.1 1
  have hfz13_1 := blk_frozen B0_.1 1
  go_wp2
  repeat (go_quiet (fail); try go_wp2)
  go_meet
  case rel => exact ⟨_, (!a0_1), zs, H', ⟨by first | omega | exact Nat.le_refl _⟩, ⟨by exact B0_.1⟩, ⟨by exact B1_.1⟩, ⟨by exact B2_.1⟩, ⟨by repeat (first | (with_reducible first | exact HB.1 | apply bA | apply pD | apply b1 | apply bS E0_.1 | apply bS E1_.1 | apply bS E2_.1) | exact HB.1)⟩⟩
 case rest =>
  clear HC6
  try clear c1
  try clear p2
  try clear c3
  try clear c10
  try clear c11
  try clear c12
  try clear hcz13_1
  try clear hfz13_1
  obtain ⟨kq, x18_5, rfl, HA, HJ5, B0_, B1_, B2_, HB⟩ := hcut
  cases kq with
  | zero => exact absurd HA.1 (by simp [slew_Clock_Step.j0])
  | succ kj5 =>
   have H := HA.1
   clear HA
   simp only [slew_Clock_Step.j0] at H
   by_cases c14 : x18_5 = true
   ·subst c14
    have H1 : ((sat_Clip.f kj5 a3).bind fun t176 => (some (t176, true))) = some (r1, r2) := by rw [if_pos rfl] at H; exact H
    clear H
    have H := H1
    clear H1
    replace H := Option.bind_eq_some_iff.mp H
    obtain ⟨t176, A150, H⟩ := H
    replace H : (some (t176, true)) = some (r1, r2) := H
    have A15 := mk A150
    clear A150
    simp only [Option.some.injEq, Prod.mk.injEq] at H
    obtain ⟨rfl, rfl⟩ := H
    go_wp2_with (first | (go_at_call 40; (with_reducible refine (sat_Clip.calls kj5 a3 t176 _ A15.1).mono ?_); rintro e w' ⟨rfl, ⟨nd, rfl⟩⟩; (try first | exact ⟨rfl, _, World.drewN_drewN _ _ _⟩ | exact ⟨rfl, _, Eq.trans (World.drewN_drewN _ _ _) (congrArg (World.drewN _) (Nat.add_assoc _ _ _))⟩); have hnb16 := N20_.1; have hnc16 := N02_.1; have hnb17 := N21_.1; have hnc17 := N12_.1; obtain ⟨hcz18_0, hcz18_1⟩ := cc2 B2_.1; obtain ⟨hfz18_0, hfz18_1⟩ := cf2 B2_.1))
    repeat (go_quiet (first | (go_at_call 40; (with_reducible refine (sat_Clip.calls kj5 a3 t176 _ A15.1).mono ?_); rintro e w' ⟨rfl, ⟨nd, rfl⟩⟩; (try first | exact ⟨rfl, _, World.drewN_drewN _ _ _⟩ | exact ⟨rfl, _, Eq.trans (World.drewN_drewN _ _ _) (congrArg (World.drewN _) (Nat.add_assoc _ _ _))⟩); have hnb16 := N20_.1; have hnc16 := N02_.1; have hnb17 := N21_.1; have hnc17 := N12_.1; obtain ⟨hcz18_0, hcz18_1⟩ := cc2 B2_.1; obtain ⟨hfz18_0, hfz18_1⟩ := cf2 B2_.1)); try go_wp2_with (first | (go_at_call 40; (with_reducible refine (sat_Clip.calls kj5 a3 t176 _ A15.1).mono ?_); rintro e w' ⟨rfl, ⟨nd, rfl⟩⟩; (try first | exact ⟨rfl, _, World.drewN_drewN _ _ _⟩ | exact ⟨rfl, _, Eq.trans (World.drewN_drewN _ _ _) (congrArg (World.drewN _) (Nat.add_assoc _ _ _))⟩); have hnb16 := N20_.1; have hnc16 := N02_.1; have hnb17 := N21_.1; have hnc17 := N12_.1; obtain ⟨hcz18_0, hcz18_1⟩ := cc2 B2_.1; obtain ⟨hfz18_0, hfz18_1⟩ := cf2 B2_.1)))
    refine bodyPost_ret (results_cell_row rfl _ _ g2_ 72 #[.int .i64 t176, .bool true] (0, 0) _ rfl (by (with_reducible repeat (first | refine blk_drewN ?_ _ | refine blk_drew ?_ | refine blk_alloc ?_ _)); refine blk_put (cs := #[.int .i64 t176, .bool false]) ?_ 1 _ rfl; (with_reducible repeat (first | refine blk_drewN ?_ _ | refine blk_drew ?_ | refine blk_alloc ?_ _)); refine blk_put (cs := #[.int .i64 0, .bool false]) ?_ 0 _ rfl; (with_reducible repeat (first | refine blk_drewN ?_ _ | refine blk_drew ?_ | refine blk_alloc ?_ _)); exact B2_.1) Tryd.underlying72 rfl (by kernel_rfl)) rfl ?_
    exact ⟨by first | rfl | (simp [errW_none, errW_some] <;> rfl) | (simp [*, errW_none, errW_some] <;> rfl), by repeat (first | (with_reducible first | exact HB.1 | apply bA | apply pD | apply b1 | apply bS E0_.1 | apply bS E1_.1 | apply bS E2_.1) | exact HB.1)⟩
   replace c14 := Bool.eq_false_iff.mpr c14
   subst c14
   have H1 : ((sat_Add.f kj5 (([a0_0, a2] : List Int))).bind fun t180 => ((sat_Sub.f kj5 a3 t180).bind fun t181 => ((sat_Neg.f kj5 a1_8).bind fun t182 => ((sat_Bound.f kj5 t181 t182 a1_8).bind fun t183 => ((sat_Add.f kj5 (([t180, t183] : List Int))).bind fun t187 => (some (t187, true))))))) = some (r1, r2) := by rw [if_neg (show ¬ (false = true) by decide)] at H; exact H
   clear H
   have H := H1
   clear H1
   obtain ⟨y177, hy177⟩ : ∃ y_ : List Int, y_ = (([a0_0, a2] : List Int)) := ⟨_, rfl⟩
   replace H : ((sat_Add.f kj5 y177).bind fun t180 => ((sat_Sub.f kj5 a3 t180).bind fun t181 => ((sat_Neg.f kj5 a1_8).bind fun t182 => ((sat_Bound.f kj5 t181 t182 a1_8).bind fun t183 => ((sat_Add.f kj5 (([t180, t183] : List Int))).bind fun t187 => (some (t187, true))))))) = some (r1, r2) := by first | (rw [hy177]; with_reducible exact H) | (have H2_ := (Option.bind_some _ _).symm.trans H; rw [hy177]; with_reducible exact H2_) | (have H2_ := (Option.bind_some _ _).symm.trans H; with_reducible exact H2_) | with_reducible exact H | (rw [hy177]; exact H) | exact H
   have Ny177 := mk hy177
   clear hy177
   replace H := Option.bind_eq_some_iff.mp H
   obtain ⟨t180, A190, H⟩ := H
   replace H : ((sat_Sub.f kj5 a3 t180).bind fun t181 => ((sat_Neg.f kj5 a1_8).bind fun t182 => ((sat_Bound.f kj5 t181 t182 a1_8).bind fun t183 => ((sat_Add.f kj5 (([t180, t183] : List Int))).bind fun t187 => (some (t187, true)))))) = some (r1, r2) := H
   have A19 := mk A190
   clear A190
   replace H := Option.bind_eq_some_iff.mp H
   obtain ⟨t181, A200, H⟩ := H
   replace H : ((sat_Neg.f kj5 a1_8).bind fun t182 => ((sat_Bound.f kj5 t181 t182 a1_8).bind fun t183 => ((sat_Add.f kj5 (([t180, t183] : List Int))).bind fun t187 => (some (t187, true))))) = some (r1, r2) := H
   have A20 := mk A200
   clear A200
   replace H := Option.bind_eq_some_iff.mp H
   obtain ⟨t182, A210, H⟩ := H
   replace H : ((sat_Bound.f kj5 t181 t182 a1_8).bind fun t183 => ((sat_Add.f kj5 (([t180, t183] : List Int))).bind fun t187 => (some (t187, true)))) = some (r1, r2) := H
   have A21 := mk A210
   clear A210
   replace H := Option.bind_eq_some_iff.mp H
   obtain ⟨t183, A220, H⟩ := H
   replace H : ((sat_Add.f kj5 (([t180, t183] : List Int))).bind fun t187 => (some (t187, true))) = some (r1, r2) := H
   have A22 := mk A220
   clear A220
   obtain ⟨y184, hy184⟩ : ∃ y_ : List Int, y_ = (([t180, t183] : List Int)) := ⟨_, rfl⟩
   replace H : ((sat_Add.f kj5 y184).bind fun t187 => (some (t187, true))) = some (r1, r2) := by first | (rw [hy184]; with_reducible exact H) | (have H2_ := (Option.bind_some _ _).symm.trans H; rw [hy184]; with_reducible exact H2_) | (have H2_ := (Option.bind_some _ _).symm.trans H; with_reducible exact H2_) | with_reducible exact H | (rw [hy184]; exact H) | exact H
   have Ny184 := mk hy184
   clear hy184
   replace H := Option.bind_eq_some_iff.mp H
   obtain ⟨t187, A230, H⟩ := H
   replace H : (some (t187, true)) = some (r1, r2) := H
   have A23 := mk A230
   clear A230
   simp only [Option.some.injEq, Prod.mk.injEq] at H
   obtain ⟨rfl, rfl⟩ := H
   have hnb24 := N01_.1
   have hnc24 := N10_.1
   have hnb25 := N02_.1
   have hnc25 := N20_.1
   obtain ⟨hcz26_0, hcz26_1⟩ := cc2 B0_.1
   obtain ⟨hfz26_0, hfz26_1⟩ := cf2 B0_.1
   go_wp2_with (first | ((with_reducible refine gate_dst (N := 25) rfl ?_); refine Kd.R_lit (Kd.int .i64) _ 3 ?hg (N := 25) ?hd (xs := ([a0_0, a2] : List Int)) (inner := [.int .i64 a0_0, .int .i64 a2]) (ok := fun _ => True) (okp := fun _ => True) ?hr ?hp (fun _ hk => hk) trivial (Below.refl _ _) (Nat.le_refl _) (by simp) ?_; (case hd => rfl); (case hg => rfl); (case hr => first | (go_simp; done) | (go_simp; rfl)); (case hp => exact (Reps.one (show Kd.M (Kd.int .i64) _ _ _ a0_0 [.int .i64 a0_0] from rfl) (Reps.one (show Kd.M (Kd.int .i64) _ _ _ a2 [.int .i64 a2] from rfl) (Reps.none _ _)))); intro v178 w27 ho28 hb hg_ hnew_; clear hg_ hnew_; (first | rw [← Ny177.1] at ho28 | (simp only [Int.reduceToNat] at ho28; rw [← Ny177.1] at ho28)); have HO179 := mk (Kd.R_lower ho28 (below_size zq)); replace B0_ := bb hb B0_.1; replace B1_ := bb hb B1_.1; replace B2_ := bb hb B2_.1; replace HB := mk (below_step zq hb); clear hb ho28; obtain ⟨Ao29, co29, eo29⟩ := Kd.R_slice HO179.1; subst eo29) | (go_at_call 34; (with_reducible refine (sat_Add.calls kj5 _ _ y177 t180 _ ?side1 ?side2 A19.1).mono ?_); (case side1 => repeat (first | exact (Kd.R_reads' HO179.1).2.2 | (with_reducible refine Kd.C_alloc ?_ _) | (with_reducible refine Kd.C_drewN ?_ _) | (with_reducible refine Kd.C_drew ?_))); (case side2 => exact (Kd.R_reads' HO179.1).2.1); rintro e w' ⟨rfl, ⟨nd, rfl⟩⟩; (try first | exact ⟨rfl, _, World.drewN_drewN _ _ _⟩ | exact ⟨rfl, _, Eq.trans (World.drewN_drewN _ _ _) (congrArg (World.drewN _) (Nat.add_assoc _ _ _))⟩)) | (go_at_call 33; (with_reducible refine (sat_Sub.calls kj5 a3 t180 t181 _ A20.1).mono ?_); rintro e w' ⟨rfl, ⟨nd, rfl⟩⟩; (try first | exact ⟨rfl, _, World.drewN_drewN _ _ _⟩ | exact ⟨rfl, _, Eq.trans (World.drewN_drewN _ _ _) (congrArg (World.drewN _) (Nat.add_assoc _ _ _))⟩); have hnb30 := N12_.1; have hnc30 := N21_.1; obtain ⟨hcz31_0, hcz31_1, hcz31_2, hcz31_3, hcz31_4, hcz31_5, hcz31_6, hcz31_7, hcz31_8, hcz31_9, hcz31_10, hcz31_11⟩ := cc12 B1_.1; obtain ⟨hfz31_0, hfz31_1, hfz31_2, hfz31_3, hfz31_4, hfz31_5, hfz31_6, hfz31_7, hfz31_8, hfz31_9, hfz31_10, hfz31_11⟩ := cf12 B1_.1) | (go_at_call 53; (with_reducible refine (sat_Neg.calls kj5 a1_8 t182 _ A21.1).mono ?_); rintro e w' ⟨rfl, ⟨nd, rfl⟩⟩; (try first | exact ⟨rfl, _, World.drewN_drewN _ _ _⟩ | exact ⟨rfl, _, Eq.trans (World.drewN_drewN _ _ _) (congrArg (World.drewN _) (Nat.add_assoc _ _ _))⟩)) | (go_at_call 38; (with_reducible refine (sat_Bound.calls kj5 t181 t182 a1_8 t183 _ A22.1).mono ?_); rintro e w' ⟨rfl, ⟨nd, rfl⟩⟩; (try first | exact ⟨rfl, _, World.drewN_drewN _ _ _⟩ | exact ⟨rfl, _, Eq.trans (World.drewN_drewN _ _ _) (congrArg (World.drewN _) (Nat.add_assoc _ _ _))⟩)) | ((with_reducible refine gate_dst (N := 38) rfl ?_); refine Kd.R_lit (Kd.int .i64) _ 3 ?hg (N := 38) ?hd (xs := ([t180, t183] : List Int)) (inner := [.int .i64 t180, .int .i64 t183]) (ok := fun _ => True) (okp := fun _ => True) ?hr ?hp (fun _ hk => hk) trivial (Below.refl _ _) (Nat.le_refl _) (by simp) ?_; (case hd => rfl); (case hg => rfl); (case hr => first | (go_simp; done) | (go_simp; rfl)); (case hp => exact (Reps.one (show Kd.M (Kd.int .i64) _ _ _ t180 [.int .i64 t180] from rfl) (Reps.one (show Kd.M (Kd.int .i64) _ _ _ t183 [.int .i64 t183] from rfl) (Reps.none _ _)))); intro v185 w32 ho33 hb hg_ hnew_; clear hg_ hnew_; (first | rw [← Ny184.1] at ho33 | (simp only [Int.reduceToNat] at ho33; rw [← Ny184.1] at ho33)); have HO186 := mk (Kd.R_lower (Kd.R_new' ho33 (Kd.R_lt (by (with_reducible repeat (first | apply Kd.R_alloc | apply Kd.R_drewN | apply Kd.R_drew)); exact HO179.1))) (below_size zq)); replace HO179 := mk (Kd.R_elder' (by (with_reducible repeat (first | apply Kd.R_alloc | apply Kd.R_drewN | apply Kd.R_drew)); exact HO179.1) (Kd.R_base ho33) hb); replace B0_ := bb hb B0_.1; replace B1_ := bb hb B1_.1; replace B2_ := bb hb B2_.1; replace HB := mk (below_step zq hb); clear hb ho33; obtain ⟨Ao34, co34, eo34⟩ := Kd.R_slice HO186.1; subst eo34) | (go_at_call 34; (with_reducible refine (sat_Add.calls kj5 _ _ y184 t187 _ ?side1 ?side2 A23.1).mono ?_); (case side1 => repeat (first | exact (Kd.R_reads' HO186.1).2.2 | (with_reducible refine Kd.C_alloc ?_ _) | (with_reducible refine Kd.C_drewN ?_ _) | (with_reducible refine Kd.C_drew ?_))); (case side2 => exact (Kd.R_reads' HO186.1).2.1); rintro e w' ⟨rfl, ⟨nd, rfl⟩⟩; (try first | exact ⟨rfl, _, World.drewN_drewN _ _ _⟩ | exact ⟨rfl, _, Eq.trans (World.drewN_drewN _ _ _) (congrArg (World.drewN _) (Nat.add_assoc _ _ _))⟩); obtain ⟨hcz35_0, hcz35_1⟩ := cc2 B2_.1; obtain ⟨hfz35_0, hfz35_1⟩ := cf2 B2_.1))
   repeat (go_quiet (first | ((with_reducible refine gate_dst (N := 25) rfl ?_); refine Kd.R_lit (Kd.int .i64) _ 3 ?hg (N := 25) ?hd (xs := ([a0_0, a2] : List Int)) (inner := [.int .i64 a0_0, .int .i64 a2]) (ok := fun _ => True) (okp := fun _ => True) ?hr ?hp (fun _ hk => hk) trivial (Below.refl _ _) (Nat.le_refl _) (by simp) ?_; (case hd => rfl); (case hg => rfl); (case hr => first | (go_simp; done) | (go_simp; rfl)); (case hp => exact (Reps.one (show Kd.M (Kd.int .i64) _ _ _ a0_0 [.int .i64 a0_0] from rfl) (Reps.one (show Kd.M (Kd.int .i64) _ _ _ a2 [.int .i64 a2] from rfl) (Reps.none _ _)))); intro v178 w27 ho28 hb hg_ hnew_; clear hg_ hnew_; (first | rw [← Ny177.1] at ho28 | (simp only [Int.reduceToNat] at ho28; rw [← Ny177.1] at ho28)); have HO179 := mk (Kd.R_lower ho28 (below_size zq)); replace B0_ := bb hb B0_.1; replace B1_ := bb hb B1_.1; replace B2_ := bb hb B2_.1; replace HB := mk (below_step zq hb); clear hb ho28; obtain ⟨Ao29, co29, eo29⟩ := Kd.R_slice HO179.1; subst eo29) | (go_at_call 34; (with_reducible refine (sat_Add.calls kj5 _ _ y177 t180 _ ?side1 ?side2 A19.1).mono ?_); (case side1 => repeat (first | exact (Kd.R_reads' HO179.1).2.2 | (with_reducible refine Kd.C_alloc ?_ _) | (with_reducible refine Kd.C_drewN ?_ _) | (with_reducible refine Kd.C_drew ?_))); (case side2 => exact (Kd.R_reads' HO179.1).2.1); rintro e w' ⟨rfl, ⟨nd, rfl⟩⟩; (try first | exact ⟨rfl, _, World.drewN_drewN _ _ _⟩ | exact ⟨rfl, _, Eq.trans (World.drewN_drewN _ _ _) (congrArg (World.drewN _) (Nat.add_assoc _ _ _))⟩)) | (go_at_call 33; (with_reducible refine (sat_Sub.calls kj5 a3 t180 t181 _ A20.1).mono ?_); rintro e w' ⟨rfl, ⟨nd, rfl⟩⟩; (try first | exact ⟨rfl, _, World.drewN_drewN _ _ _⟩ | exact ⟨rfl, _, Eq.trans (World.drewN_drewN _ _ _) (congrArg (World.drewN _) (Nat.add_assoc _ _ _))⟩); have hnb30 := N12_.1; have hnc30 := N21_.1; obtain ⟨hcz31_0, hcz31_1, hcz31_2, hcz31_3, hcz31_4, hcz31_5, hcz31_6, hcz31_7, hcz31_8, hcz31_9, hcz31_10, hcz31_11⟩ := cc12 B1_.1; obtain ⟨hfz31_0, hfz31_1, hfz31_2, hfz31_3, hfz31_4, hfz31_5, hfz31_6, hfz31_7, hfz31_8, hfz31_9, hfz31_10, hfz31_11⟩ := cf12 B1_.1) | (go_at_call 53; (with_reducible refine (sat_Neg.calls kj5 a1_8 t182 _ A21.1).mono ?_); rintro e w' ⟨rfl, ⟨nd, rfl⟩⟩; (try first | exact ⟨rfl, _, World.drewN_drewN _ _ _⟩ | exact ⟨rfl, _, Eq.trans (World.drewN_drewN _ _ _) (congrArg (World.drewN _) (Nat.add_assoc _ _ _))⟩)) | (go_at_call 38; (with_reducible refine (sat_Bound.calls kj5 t181 t182 a1_8 t183 _ A22.1).mono ?_); rintro e w' ⟨rfl, ⟨nd, rfl⟩⟩; (try first | exact ⟨rfl, _, World.drewN_drewN _ _ _⟩ | exact ⟨rfl, _, Eq.trans (World.drewN_drewN _ _ _) (congrArg (World.drewN _) (Nat.add_assoc _ _ _))⟩)) | ((with_reducible refine gate_dst (N := 38) rfl ?_); refine Kd.R_lit (Kd.int .i64) _ 3 ?hg (N := 38) ?hd (xs := ([t180, t183] : List Int)) (inner := [.int .i64 t180, .int .i64 t183]) (ok := fun _ => True) (okp := fun _ => True) ?hr ?hp (fun _ hk => hk) trivial (Below.refl _ _) (Nat.le_refl _) (by simp) ?_; (case hd => rfl); (case hg => rfl); (case hr => first | (go_simp; done) | (go_simp; rfl)); (case hp => exact (Reps.one (show Kd.M (Kd.int .i64) _ _ _ t180 [.int .i64 t180] from rfl) (Reps.one (show Kd.M (Kd.int .i64) _ _ _ t183 [.int .i64 t183] from rfl) (Reps.none _ _)))); intro v185 w32 ho33 hb hg_ hnew_; clear hg_ hnew_; (first | rw [← Ny184.1] at ho33 | (simp only [Int.reduceToNat] at ho33; rw [← Ny184.1] at ho33)); have HO186 := mk (Kd.R_lower (Kd.R_new' ho33 (Kd.R_lt (by (with_reducible repeat (first | apply Kd.R_alloc | apply Kd.R_drewN | apply Kd.R_drew)); exact HO179.1))) (below_size zq)); replace HO179 := mk (Kd.R_elder' (by (with_reducible repeat (first | apply Kd.R_alloc | apply Kd.R_drewN | apply Kd.R_drew)); exact HO179.1) (Kd.R_base ho33) hb); replace B0_ := bb hb B0_.1; replace B1_ := bb hb B1_.1; replace B2_ := bb hb B2_.1; replace HB := mk (below_step zq hb); clear hb ho33; obtain ⟨Ao34, co34, eo34⟩ := Kd.R_slice HO186.1; subst eo34) | (go_at_call 34; (with_reducible refine (sat_Add.calls kj5 _ _ y184 t187 _ ?side1 ?side2 A23.1).mono ?_); (case side1 => repeat (first | exact (Kd.R_reads' HO186.1).2.2 | (with_reducible refine Kd.C_alloc ?_ _) | (with_reducible refine Kd.C_drewN ?_ _) | (with_reducible refine Kd.C_drew ?_))); (case side2 => exact (Kd.R_reads' HO186.1).2.1); rintro e w' ⟨rfl, ⟨nd, rfl⟩⟩; (try first | exact ⟨rfl, _, World.drewN_drewN _ _ _⟩ | exact ⟨rfl, _, Eq.trans (World.drewN_drewN _ _ _) (congrArg (World.drewN _) (Nat.add_assoc _ _ _))⟩); obtain ⟨hcz35_0, hcz35_1⟩ := cc2 B2_.1; obtain ⟨hfz35_0, hfz35_1⟩ := cf2 B2_.1)); try go_wp2_with (first | ((with_reducible refine gate_dst (N := 25) rfl ?_); refine Kd.R_lit (Kd.int .i64) _ 3 ?hg (N := 25) ?hd (xs := ([a0_0, a2] : List Int)) (inner := [.int .i64 a0_0, .int .i64 a2]) (ok := fun _ => True) (okp := fun _ => True) ?hr ?hp (fun _ hk => hk) trivial (Below.refl _ _) (Nat.le_refl _) (by simp) ?_; (case hd => rfl); (case hg => rfl); (case hr => first | (go_simp; done) | (go_simp; rfl)); (case hp => exact (Reps.one (show Kd.M (Kd.int .i64) _ _ _ a0_0 [.int .i64 a0_0] from rfl) (Reps.one (show Kd.M (Kd.int .i64) _ _ _ a2 [.int .i64 a2] from rfl) (Reps.none _ _)))); intro v178 w27 ho28 hb hg_ hnew_; clear hg_ hnew_; (first | rw [← Ny177.1] at ho28 | (simp only [Int.reduceToNat] at ho28; rw [← Ny177.1] at ho28)); have HO179 := mk (Kd.R_lower ho28 (below_size zq)); replace B0_ := bb hb B0_.1; replace B1_ := bb hb B1_.1; replace B2_ := bb hb B2_.1; replace HB := mk (below_step zq hb); clear hb ho28; obtain ⟨Ao29, co29, eo29⟩ := Kd.R_slice HO179.1; subst eo29) | (go_at_call 34; (with_reducible refine (sat_Add.calls kj5 _ _ y177 t180 _ ?side1 ?side2 A19.1).mono ?_); (case side1 => repeat (first | exact (Kd.R_reads' HO179.1).2.2 | (with_reducible refine Kd.C_alloc ?_ _) | (with_reducible refine Kd.C_drewN ?_ _) | (with_reducible refine Kd.C_drew ?_))); (case side2 => exact (Kd.R_reads' HO179.1).2.1); rintro e w' ⟨rfl, ⟨nd, rfl⟩⟩; (try first | exact ⟨rfl, _, World.drewN_drewN _ _ _⟩ | exact ⟨rfl, _, Eq.trans (World.drewN_drewN _ _ _) (congrArg (World.drewN _) (Nat.add_assoc _ _ _))⟩)) | (go_at_call 33; (with_reducible refine (sat_Sub.calls kj5 a3 t180 t181 _ A20.1).mono ?_); rintro e w' ⟨rfl, ⟨nd, rfl⟩⟩; (try first | exact ⟨rfl, _, World.drewN_drewN _ _ _⟩ | exact ⟨rfl, _, Eq.trans (World.drewN_drewN _ _ _) (congrArg (World.drewN _) (Nat.add_assoc _ _ _))⟩); have hnb30 := N12_.1; have hnc30 := N21_.1; obtain ⟨hcz31_0, hcz31_1, hcz31_2, hcz31_3, hcz31_4, hcz31_5, hcz31_6, hcz31_7, hcz31_8, hcz31_9, hcz31_10, hcz31_11⟩ := cc12 B1_.1; obtain ⟨hfz31_0, hfz31_1, hfz31_2, hfz31_3, hfz31_4, hfz31_5, hfz31_6, hfz31_7, hfz31_8, hfz31_9, hfz31_10, hfz31_11⟩ := cf12 B1_.1) | (go_at_call 53; (with_reducible refine (sat_Neg.calls kj5 a1_8 t182 _ A21.1).mono ?_); rintro e w' ⟨rfl, ⟨nd, rfl⟩⟩; (try first | exact ⟨rfl, _, World.drewN_drewN _ _ _⟩ | exact ⟨rfl, _, Eq.trans (World.drewN_drewN _ _ _) (congrArg (World.drewN _) (Nat.add_assoc _ _ _))⟩)) | (go_at_call 38; (with_reducible refine (sat_Bound.calls kj5 t181 t182 a1_8 t183 _ A22.1).mono ?_); rintro e w' ⟨rfl, ⟨nd, rfl⟩⟩; (try first | exact ⟨rfl, _, World.drewN_drewN _ _ _⟩ | exact ⟨rfl, _, Eq.trans (World.drewN_drewN _ _ _) (congrArg (World.drewN _) (Nat.add_assoc _ _ _))⟩)) | ((with_reducible refine gate_dst (N := 38) rfl ?_); refine Kd.R_lit (Kd.int .i64) _ 3 ?hg (N := 38) ?hd (xs := ([t180, t183] : List Int)) (inner := [.int .i64 t180, .int .i64 t183]) (ok := fun _ => True) (okp := fun _ => True) ?hr ?hp (fun _ hk => hk) trivial (Below.refl _ _) (Nat.le_refl _) (by simp) ?_; (case hd => rfl); (case hg => rfl); (case hr => first | (go_simp; done) | (go_simp; rfl)); (case hp => exact (Reps.one (show Kd.M (Kd.int .i64) _ _ _ t180 [.int .i64 t180] from rfl) (Reps.one (show Kd.M (Kd.int .i64) _ _ _ t183 [.int .i64 t183] from rfl) (Reps.none _ _)))); intro v185 w32 ho33 hb hg_ hnew_; clear hg_ hnew_; (first | rw [← Ny184.1] at ho33 | (simp only [Int.reduceToNat] at ho33; rw [← Ny184.1] at ho33)); have HO186 := mk (Kd.R_lower (Kd.R_new' ho33 (Kd.R_lt (by (with_reducible repeat (first | apply Kd.R_alloc | apply Kd.R_drewN | apply Kd.R_drew)); exact HO179.1))) (below_size zq)); replace HO179 := mk (Kd.R_elder' (by (with_reducible repeat (first | apply Kd.R_alloc | apply Kd.R_drewN | apply Kd.R_drew)); exact HO179.1) (Kd.R_base ho33) hb); replace B0_ := bb hb B0_.1; replace B1_ := bb hb B1_.1; replace B2_ := bb hb B2_.1; replace HB := mk (below_step zq hb); clear hb ho33; obtain ⟨Ao34, co34, eo34⟩ := Kd.R_slice HO186.1; subst eo34) | (go_at_call 34; (with_reducible refine (sat_Add.calls kj5 _ _ y184 t187 _ ?side1 ?side2 A23.1).mono ?_); (case side1 => repeat (first | exact (Kd.R_reads' HO186.1).2.2 | (with_reducible refine Kd.C_alloc ?_ _) | (with_reducible refine Kd.C_drewN ?_ _) | (with_reducible refine Kd.C_drew ?_))); (case side2 => exact (Kd.R_reads' HO186.1).2.1); rintro e w' ⟨rfl, ⟨nd, rfl⟩⟩; (try first | exact ⟨rfl, _, World.drewN_drewN _ _ _⟩ | exact ⟨rfl, _, Eq.trans (World.drewN_drewN _ _ _) (congrArg (World.drewN _) (Nat.add_assoc _ _ _))⟩); obtain ⟨hcz35_0, hcz35_1⟩ := cc2 B2_.1; obtain ⟨hfz35_0, hfz35_1⟩ := cf2 B2_.1)))
   refine bodyPost_ret (results_cell_row rfl _ _ g2_ 72 #[.int .i64 t187, .bool true] (0, 0) _ rfl (by (with_reducible repeat (first | refine blk_drewN ?_ _ | refine blk_drew ?_ | refine blk_alloc ?_ _)); refine blk_put (cs := #[.int .i64 t187, .bool false]) ?_ 1 _ rfl; (with_reducible repeat (first | refine blk_drewN ?_ _ | refine blk_drew ?_ | refine blk_alloc ?_ _)); refine blk_put (cs := #[.int .i64 0, .bool false]) ?_ 0 _ rfl; (with_reducible repeat (first | refine blk_drewN ?_ _ | refine blk_drew ?_ | refine blk_alloc ?_ _)); exact B2_.1) Tryd.underlying72 rfl (by kernel_rfl)) rfl ?_
   exact ⟨by first | rfl | (simp [errW_none, errW_some] <;> rfl) | (simp [*, errW_none, errW_some] <;> rfl), by repeat (first | (with_reducible first | exact HB.1 | apply bA | apply pD | apply b1 | apply bS E0_.1 | apply bS E1_.1 | apply bS E2_.1) | exact HB.1)⟩

/-! ### wire_in: function 71 -/
def wire_in.l0 : Nat → Int → Int → List Int → Int → Int → Option (Bool)
 | 0, _, _, _, _, _ => none
 | k + 1, x0, x1, x9, x10, x11 => if x11 < x10 then (if 0 ≤ x11 then (if x11 < (x9.length : Int) then (if (rd x9 x11) < x0 then (some false) else (if (rd x9 x11) > x1 then (some false) else (wire_in.l0 k x0 x1 x9 x10 (wrap64 (x11 + 1))))) else (none)) else (none)) else (some true)
def wire_in.f (k : Nat) (a0 : Int) (a1 : Int) (l2 : List Int) : Option (Bool) := wire_in.l0 k a0 a1 l2 (l2.length : Int) 0
theorem wire_in.mono_l : ∀ k, (∀ y0 y1 y2 y3 y4, LeO (wire_in.l0 k y0 y1 y2 y3 y4) (wire_in.l0 (k + 1) y0 y1 y2 y3 y4))
 | 0 => fun _ _ _ _ _ r h => by simp [wire_in.l0] at h
 | k + 1 => by
  have ih0 := wire_in.mono_l k
  intro y0 y1 y2 y3 y4
  unfold wire_in.l0
  repeat' first
  | (with_reducible exact ih0 _ _ _ _ _)
  | (with_reducible exact LeO.refl _)
  | (with_reducible exact LeO.none _)
  | (with_reducible refine LeO.ite ?_ ?_)
  | (with_reducible refine LeO.bind ?_ (fun _ => ?_))
  | exact ih0 _ _ _ _ _
  | exact LeO.none _
  | refine LeO.ite ?_ ?_
  | refine LeO.bind ?_ (fun _ => ?_)
theorem wire_in.mono : ∀ a0 a1 a2 k, LeO (wire_in.f k a0 a1 a2) (wire_in.f (k + 1) a0 a1 a2) := by
 intro a0 a1 a2 k
 have ih0 := wire_in.mono_l k
 unfold wire_in.f
 repeat' first
   | (with_reducible exact ih0 _ _ _ _ _)
   | (with_reducible exact LeO.refl _)
   | (with_reducible exact LeO.none _)
   | (with_reducible refine LeO.ite ?_ ?_)
   | (with_reducible refine LeO.bind ?_ (fun _ => ?_))
   | exact ih0 _ _ _ _ _
   | exact LeO.none _
   | refine LeO.ite ?_ ?_
   | refine LeO.bind ?_ (fun _ => ?_)
set_option maxHeartbeats 8000000 in
set_option maxRecDepth 100000 in
theorem wire_in.calls (k : Nat) (a0 : Int) (a1 : Int) (A2 : Option Addr) (c2 : Nat) (l2 : List Int) (r : Bool) (w : World) (hr2 : Kd.C (Kd.int .i64) w A2 l2.length l2) (hc2 : l2.length ≤ c2) (h : wire_in.f k a0 a1 l2 = some r) :
  Calls Tryd.prog 71 #[.int .i64 a0, .int .i64 a1, .slice A2 l2.length c2] w fun e w' => e = .returned (.bool r) ∧ Drawn0 w w' := by
 have HR2 := mk hr2
 have HC2 := mk hc2
 clear hr2 hc2
 have H : (wire_in.l0 k a0 a1 l2 (l2.length : Int) 0) = some r := h
 clear h
 have H' := mk H
 clear H
 go_enter Tryd.func71, Tryd.ntmps71
 go_wp2
 go_loopg [11] k (fun kq v11 w' => ∃ (x11_1 : Int), v11 = .int .i64 x11_1 ∧ Aside0 (wire_in.l0 kq a0 a1 l2 (l2.length : Int) x11_1 = some r) ∧ Aside0 (kq ≤ k) ∧ Drawn0 w w')
 case atStart => exact ⟨(0), zs, H', ⟨Nat.le_refl _⟩, by repeat (first | exact Drawn0.refl _ | apply Drawn0.step)⟩
 case round =>
  clear H'
  try clear c2
  try clear p2
  obtain ⟨x11_1, rfl, HA, HK1, ⟨m1, rfl⟩⟩ := hrel
  cases gk with
  | zero => exact absurd HA.1 (by simp [wire_in.l0])
  | succ k1 =>
   have H := HA.1
   clear HA
   simp only [wire_in.l0] at H
   by_cases c4 : x11_1 < (l2.length : Int)
   ·rw [if_pos c4] at H
    have c4b0 : decide (x11_1 < (l2.length : Int)) = true := decide_eq_true c4
    clear c4
    by_cases c5 : 0 ≤ x11_1
    ·rw [if_pos c5] at H
     have c5b0 : decide (0 ≤ x11_1) = true := decide_eq_true c5
     clear c5
     by_cases c6 : x11_1 < (l2.length : Int)
     ·rw [if_pos c6] at H
      have c6b0 : decide (x11_1 < (l2.length : Int)) = true := decide_eq_true c6
      clear c6
      by_cases c7 : (rd l2 x11_1) < a0
      ·rw [if_pos c7] at H
       have c7b0 : decide ((rd l2 x11_1) < a0) = true := decide_eq_true c7
       clear c7
       obtain rfl := Option.some.inj H
       have p188 : 0 ≤ (x11_1 : Int) := of_decide_eq_true (by first | (with_reducible assumption) | assumption)
       have q188 : x11_1 < (l2.length : Int) := of_decide_eq_true (by first | (with_reducible assumption) | assumption)
       obtain ⟨ad188, e188, hx188_0⟩ := Kd.at_int HR2.1 x11_1 p188 q188
       cases e188
       replace p188 := eq_true p188
       replace q188 := eq_true q188
       go_wp2
       go_ret
       exact ⟨by first | rfl | (simp; done) | (simp [*]; done) | (simp [Int.tdiv_eq_ediv_of_nonneg]; done) | (simp [Go.RowKit.wrap64]; done) | (simp [*, Go.RowKit.wrap64]; done), by repeat (first | exact Drawn0.refl _ | apply Drawn0.step)⟩
      rw [if_neg c7] at H
      have c7b0 : decide ((rd l2 x11_1) < a0) = false := decide_eq_false c7
      clear c7
      by_cases c8 : (rd l2 x11_1) > a1
      ·rw [if_pos c8] at H
       have c8b0 : decide (a1 < (rd l2 x11_1)) = true := decide_eq_true c8
       clear c8
       obtain rfl := Option.some.inj H
       have p188 : 0 ≤ (x11_1 : Int) := of_decide_eq_true (by first | (with_reducible assumption) | assumption)
       have q188 : x11_1 < (l2.length : Int) := of_decide_eq_true (by first | (with_reducible assumption) | assumption)
       obtain ⟨ad188, e188, hx188_0⟩ := Kd.at_int HR2.1 x11_1 p188 q188
       cases e188
       replace p188 := eq_true p188
       replace q188 := eq_true q188
       go_wp2
       go_ret
       exact ⟨by first | rfl | (simp; done) | (simp [*]; done) | (simp [Int.tdiv_eq_ediv_of_nonneg]; done) | (simp [Go.RowKit.wrap64]; done) | (simp [*, Go.RowKit.wrap64]; done), by repeat (first | exact Drawn0.refl _ | apply Drawn0.step)⟩
      rw [if_neg c8] at H
      have c8b0 : decide (a1 < (rd l2 x11_1)) = false := decide_eq_false c8
      clear c8
      have H' := mk H
      clear H
      have p188 : 0 ≤ (x11_1 : Int) := of_decide_eq_true (by first | (with_reducible assumption) | assumption)
      have q188 : x11_1 < (l2.length : Int) := of_decide_eq_true (by first | (with_reducible assumption) | assumption)
      obtain ⟨ad188, e188, hx188_0⟩ := Kd.at_int HR2.1 x11_1 p188 q188
      cases e188
      replace p188 := eq_true p188
      replace q188 := eq_true q188
      go_wp2
      go_roundg k1
      case measure => have := HK1.1; omega
      case rel => exact ⟨(wrap64 (x11_1 + 1)), zs, H', ⟨by have := HK1.1; omega⟩, by repeat (first | exact Drawn0.refl _ | apply Drawn0.step)⟩
     rw [if_neg c6] at H
     exact absurd H (by simp)
    rw [if_neg c5] at H
    exact absurd H (by simp)
   rw [if_neg c4] at H
   have c4b0 : decide (x11_1 < (l2.length : Int)) = false := decide_eq_false c4
   clear c4
   obtain rfl := Option.some.inj H
   go_wp2
   go_ret
   exact ⟨by first | rfl | (simp; done) | (simp [*]; done) | (simp [Int.tdiv_eq_ediv_of_nonneg]; done) | (simp [Go.RowKit.wrap64]; done) | (simp [*, Go.RowKit.wrap64]; done), by repeat (first | exact Drawn0.refl _ | apply Drawn0.step)⟩

end Go.Proofs.YtigkjbaclpklpaaDoor.Q
