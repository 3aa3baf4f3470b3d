/- The calls of these Go functions answer what the Lean functions beside them answer; written by a program (wip/pr2.py, out of the print of the loaded program); under no condition but those that stand in the theorems. -/
import Derived.Test.YtigkjbaclpklpaaQx0
import Derived.Test.YtigkjbaclpklpaaQx2
namespace Go.Proofs.Ytigkjbaclpklpaa.Q
open Go.RowKit Go.Proofs.YtigkjbaclpklpaaW.PrintWords Go.Proofs.YtigkjbaclpklpaaW.PrintLast Go.Proofs.YtigkjbaclpklpaaW.PrintMore
attribute [local go_sem] max2_int min2_int max_two min_two max_three min_three max_four min_four   -- for this text's walks alone
set_option linter.unusedVariables false
set_option linter.unusedSimpArgs false

/-! ### hlc_Next: function 68 -/
def hlc_Next.f (k : Nat) (a0_0 : Int) (a0_1 : Int) : Option (Int × Int) := if a0_1 ≥ 1073741824 then ((sat_Add.f k (([a0_0, 1] : List Int))).bind fun t203 => (some (t203, 0))) else ((sat_Clip.f k a0_0).bind fun t204 => (some (t204, wrap64 ((mx a0_1 0) + 1))))
theorem hlc_Next.mono : ∀ a0 a1 k, LeO (hlc_Next.f k a0 a1) (hlc_Next.f (k + 1) a0 a1) := by
 intro a0 a1 k
 unfold hlc_Next.f
 repeat' first
   | (with_reducible exact sat_Add.mono _ _)
   | (with_reducible exact sat_Clip.mono _ _)
   | (with_reducible exact LeO.refl _)
   | (with_reducible exact LeO.none _)
   | (with_reducible refine LeO.ite ?_ ?_)
   | (with_reducible refine LeO.bind ?_ (fun _ => ?_))
   | exact sat_Add.mono _ _
   | exact sat_Clip.mono _ _
   | exact LeO.none _
   | refine LeO.ite ?_ ?_
   | refine LeO.bind ?_ (fun _ => ?_)
def hlc_Next.T3 : Bool × List (List Nat × List Nat) := (true, [([], []), ([0], [0]), ([1], [1]), ([], []), ([3], [3]), ([4], [4]), ([5], [5]), ([2, 6], [2, 6]), ([7, 2, 0, 1, 2, 3, 4, 5, 6, 7], [7])])
def hlc_Next.B3 : List Nat := [0, 1, 3, 0, 8, 24, 56, 127, 255]
theorem hlc_Next.tab3 : rtab .any (opsOf Try.f68 3) = hlc_Next.T3 := by kernel_rfl
theorem hlc_Next.bits3 : waitsOk hlc_Next.T3.2 hlc_Next.B3 = true := by kernel_rfl
set_option maxHeartbeats 8000000 in
set_option maxRecDepth 100000 in
theorem hlc_Next.calls (k : Nat) (a0_0 : Int) (a0_1 : Int) (r1 : Int) (r2 : Int) (w : World) (h : hlc_Next.f k a0_0 a0_1 = some (r1, r2)) :
  Calls Try.prog 68 #[.agg #[.int .i64 a0_0, .int .i64 a0_1]] w fun e w' => e = .returned (.agg #[.int .i64 r1, .int .i64 r2]) ∧ Below w.heap.size w w' := by
 have hu28 := Try.underlying28
 have HB := mk (Below.refl w.heap.size w)
 have H : (if a0_1 ≥ 1073741824 then ((sat_Add.f k (([a0_0, 1] : List Int))).bind fun t203 => (some (t203, 0))) else ((sat_Clip.f k a0_0).bind fun t204 => (some (t204, wrap64 ((mx a0_1 0) + 1))))) = some (r1, r2) := h
 clear h
 by_cases c2 : a0_1 ≥ 1073741824
 ·rw [if_pos c2] at H
  have c2b0 : decide (1073741824 ≤ a0_1) = true := decide_eq_true c2
  clear c2
  obtain ⟨y200, hy200⟩ : ∃ y_ : List Int, y_ = (([a0_0, 1] : List Int)) := ⟨_, rfl⟩
  replace H : ((sat_Add.f k y200).bind fun t203 => (some (t203, 0))) = some (r1, r2) := by first | (rw [hy200]; with_reducible exact H) | (have H2_ := (Option.bind_some _ _).symm.trans H; rw [hy200]; with_reducible exact H2_) | (have H2_ := (Option.bind_some _ _).symm.trans H; with_reducible exact H2_) | with_reducible exact H | (rw [hy200]; exact H) | exact H
  have Ny200 := mk hy200
  clear hy200
  replace H := Option.bind_eq_some_iff.mp H
  obtain ⟨t203, A30, H⟩ := H
  replace H : (some (t203, 0)) = some (r1, r2) := H
  have A3 := mk A30
  clear A30
  simp only [Option.some.injEq, Prod.mk.injEq] at H
  obtain ⟨rfl, rfl⟩ := H
  go_enter Try.func68, Try.ntmps68
  go_wp2_with (first | ((with_reducible refine gate_dst (N := 1) rfl ?_); refine box_event ?hg (N := 1) ?hd (cs := #[.int .i64 a0_0, .int .i64 a0_1]) (t := 28) ?hr ?_; (case hd => rfl); (case hg => rfl); (case hr => first | (go_simp; done) | (go_simp; rfl)); intro g0_ hg w4 hbox hb; have n0_ := mk (below_step (by repeat first | exact HB.1 | apply pD | apply b1 | refine bT (by assumption) ?_ | apply bA) hb); have n1_ := mk (hbox); have n2_ := gl hg (by repeat first | exact HB.1 | apply pD | apply b1 | refine bT (by assumption) ?_ | apply bA); have n3_ := gl hg (by repeat first | exact HB.1 | apply pD | apply b1 | refine bT (by assumption) ?_ | apply bA); clear HB; have HB := n0_; have B0_ := n1_; have W0_ := n2_; have E0_ := n3_; clear n0_ n1_ n2_ n3_; clear hb hbox hg) | ((with_reducible refine gate_dst (N := 2) rfl ?_); refine box_event ?hg (N := 2) ?hd (cs := #[.int .i64 0, .int .i64 0]) (t := 28) ?hr ?_; (case hd => rfl); (case hg => rfl); (case hr => first | (go_simp; done) | (go_simp; rfl)); intro g1_ hg w5 hbox hb; have n0_ := bb hb B0_.1; have n1_ := mk (below_step (by repeat first | exact HB.1 | apply pD | apply b1 | refine bT (by assumption) ?_ | apply bA) hb); have n2_ := mk (hbox); have n3_ := gl hg (by repeat first | exact HB.1 | apply pD | apply b1 | refine bT (by assumption) ?_ | apply bA); have n4_ := gl hg (by repeat first | exact HB.1 | apply pD | apply b1 | refine bT (by assumption) ?_ | apply bA); have n5_ := nl hg B0_.1; have n6_ := ng hg B0_.1; clear B0_; clear HB; have B0_ := n0_; have HB := n1_; have B1_ := n2_; have W1_ := n3_; have E1_ := n4_; have N01_ := n5_; have N10_ := n6_; clear n0_ n1_ n2_ n3_ n4_ n5_ n6_; clear hb hbox hg; have hnb6 := N01_.1; have hnc6 := N10_.1; have hcz7_0 : w5.cell? ⟨g0_, 0, none⟩ = some (.int .i64 a0_0) := bQ B0_.1 0; have hcz7_1 : w5.cell? ⟨g0_, 1, none⟩ = some (.int .i64 a0_1) := bQ B0_.1 1; have hfz7_0 := blk_frozen B0_.1 0; have hfz7_1 := blk_frozen B0_.1 1) | ((with_reducible refine gate_dst (N := 8) rfl ?_); refine Kd.R_lit (Kd.int .i64) _ 3 ?hg (N := 8) ?hd (xs := ([a0_0, 1] : List Int)) (inner := [.int .i64 a0_0, .int .i64 1]) (ok := fun _ => True) (okp := fun _ => True) ?hr ?hp (fun _ hk => hk) trivial (Below.refl _ _) (Nat.le_refl _) (by simp) ?_; (case hd => rfl); (case hg => rfl); (case hr => first | (go_simp; done) | (go_simp; rfl)); (case hp => exact (Reps.one (show Kd.M (Kd.int .i64) _ _ _ a0_0 [.int .i64 a0_0] from rfl) (Reps.one (show Kd.M (Kd.int .i64) _ _ _ 1 [.int .i64 1] from rfl) (Reps.none _ _)))); intro v201 w8 ho9 hb hg_ hnew_; clear hg_ hnew_; (first | rw [← Ny200.out] at ho9 | (simp only [Int.reduceToNat] at ho9; rw [← Ny200.out] at ho9)); have n0_ := mk (Kd.R_lower ho9 (below_size (by repeat first | exact HB.1 | apply pD | apply b1 | refine bT (by assumption) ?_ | apply bA))); have n1_ := bb hb B0_.1; have n2_ := bb hb B1_.1; have n3_ := mk (below_step (by repeat first | exact HB.1 | apply pD | apply b1 | refine bT (by assumption) ?_ | apply bA) hb); clear B0_; clear B1_; clear HB; have HO202 := n0_; have B0_ := n1_; have B1_ := n2_; have HB := n3_; clear n0_ n1_ n2_ n3_; clear hb ho9; obtain ⟨Ao10, co10, eo10⟩ := Kd.R_slice HO202.1; subst eo10) | ((with_reducible refine gate_callee (f := 33) rfl ?_); refine goesL_ (some 9) rfl rfl Try.func33 (by kernel_rfl) rfl #[.slice Ao10 y200.length co10] rfl (by (try simp only [List.map_toArray, List.map_cons, List.map_nil]); first | done | rfl | (simp only [List.length_drop, List.length_take]; rfl)) ?_; (with_reducible refine (sat_Add.calls k _ _ y200 t203 _ ?side1 ?side2 A3.1).mono ?_); (case side1 => repeat (first | exact (Kd.R_reads' HO202.1).2.2 | (with_reducible refine Kd.C_alloc ?_ _) | (with_reducible refine Kd.C_drewN ?_ _) | (with_reducible refine Kd.C_drew ?_))); (case side2 => exact (Kd.R_reads' HO202.1).2.1); rintro e w' ⟨rfl, ⟨nd, rfl⟩⟩; refine ⟨_, rfl, ?_⟩; (try ((repeat rw [World.drewN_drewN]); rw [drewN_self w8]; generalize hq_ : World.drewN w8 _ = w8; have n0_ : Aside0 (Kd.R (Kd.int .i64) 3 w8 w.heap.size (fun _ => True) (.slice Ao10 y200.length co10) y200) := ⟨by rw [← hq_]; exact (by (with_reducible repeat (first | apply Kd.R_alloc | apply Kd.R_drewN | apply Kd.R_drew)); exact HO202.1)⟩; have n1_ : Aside0 (w8.heap[g0_]? = some (.cells #[.int .i64 a0_0, .int .i64 a0_1] 28 (0, 0))) := ⟨by rw [← hq_]; exact (by exact B0_.1)⟩; have n2_ : Aside0 (w8.heap[g1_]? = some (.cells #[.int .i64 0, .int .i64 0] 28 (0, 0))) := ⟨by rw [← hq_]; exact (by exact B1_.1)⟩; have n3_ : Aside0 (Below w.heap.size w w8) := ⟨by rw [← hq_]; exact (by repeat (first | (with_reducible first | exact HB.1 | apply bA | apply pD | apply b1 | apply bS E0_.1 | apply bS E1_.1) | exact HB.1))⟩; clear HO202 B0_ B1_ HB hq_; have HO202 := n0_; have B0_ := n1_; have B1_ := n2_; have HB := n3_; clear n0_ n1_ n2_ n3_)); have hcz11_0 : w8.cell? ⟨g1_, 0, none⟩ = some (.int .i64 0) := bQ B1_.1 0; have hcz11_1 : w8.cell? ⟨g1_, 1, none⟩ = some (.int .i64 0) := bQ B1_.1 1; have hfz11_0 := blk_frozen B1_.1 0; have hfz11_1 := blk_frozen B1_.1 1))
  refine bodyPost_ret (results_cell_row rfl _ _ g1_ 28 #[.int .i64 t203, .int .i64 0] (0, 0) _ rfl (by (with_reducible repeat (first | refine blk_drewN ?_ _ | refine blk_drew ?_ | refine blk_alloc ?_ _)); refine blk_put (cs := #[.int .i64 t203, .int .i64 0]) ?_ 1 _ rfl; (with_reducible repeat (first | refine blk_drewN ?_ _ | refine blk_drew ?_ | refine blk_alloc ?_ _)); refine blk_put (cs := #[.int .i64 0, .int .i64 0]) ?_ 0 _ rfl; (with_reducible repeat (first | refine blk_drewN ?_ _ | refine blk_drew ?_ | refine blk_alloc ?_ _)); exact B1_.1) Try.underlying28 rfl (by kernel_rfl)) rfl ?_
  exact ⟨by first | rfl | (simp [errW_none, errW_some] <;> rfl) | (simp [*, errW_none, errW_some] <;> rfl), by repeat (first | (with_reducible first | exact HB.1 | apply bA | apply pD | apply b1 | apply bS E0_.1 | apply bS E1_.1) | exact HB.1)⟩
 rw [if_neg c2] at H
 have c2b0 : decide (1073741824 ≤ a0_1) = false := decide_eq_false c2
 clear c2
 replace H := Option.bind_eq_some_iff.mp H
 obtain ⟨t204, A120, H⟩ := H
 replace H : (some (t204, wrap64 ((mx a0_1 0) + 1))) = some (r1, r2) := H
 have A12 := mk A120
 clear A120
 obtain ⟨ji13, hji13⟩ : ∃ j_ : Int, (mx a0_1 0) = j_ := ⟨_, rfl⟩
 replace H : (some (t204, wrap64 ((ji13) + 1))) = some (r1, r2) := by first | (rw [hji13] at H; exact H) | (simp only [hji13] at H ⊢; exact H)
 (try rw [hji13] at A12)
 (try (have hji13l : 0 ≤ ji13 := by (rw [← hji13]; unfold mx; (repeat' split) <;> omega)))
 (try (have hji13m : 0 ≤ ji13 := by omega))
 have hji13_ : (if a0_1 < 0 then 0 else a0_1) = ji13 := hji13
 simp only [Option.some.injEq, Prod.mk.injEq] at H
 obtain ⟨rfl, rfl⟩ := H
 go_enter Try.func68, Try.ntmps68
 try go_wp2_with (first | ((with_reducible refine gate_dst (N := 1) rfl ?_); refine box_event ?hg (N := 1) ?hd (cs := #[.int .i64 a0_0, .int .i64 a0_1]) (t := 28) ?hr ?_; (case hd => rfl); (case hg => rfl); (case hr => first | (go_simp; done) | (go_simp; rfl)); intro g0_ hg w14 hbox hb; have n0_ := mk (below_step (by repeat first | exact HB.1 | apply pD | apply b1 | refine bT (by assumption) ?_ | apply bA) hb); have n1_ := mk (hbox); have n2_ := gl hg (by repeat first | exact HB.1 | apply pD | apply b1 | refine bT (by assumption) ?_ | apply bA); have n3_ := gl hg (by repeat first | exact HB.1 | apply pD | apply b1 | refine bT (by assumption) ?_ | apply bA); clear HB; have HB := n0_; have B0_ := n1_; have W0_ := n2_; have E0_ := n3_; clear n0_ n1_ n2_ n3_; clear hb hbox hg) | ((with_reducible refine gate_dst (N := 2) rfl ?_); refine box_event ?hg (N := 2) ?hd (cs := #[.int .i64 0, .int .i64 0]) (t := 28) ?hr ?_; (case hd => rfl); (case hg => rfl); (case hr => first | (go_simp; done) | (go_simp; rfl)); intro g1_ hg w15 hbox hb; have n0_ := bb hb B0_.1; have n1_ := mk (below_step (by repeat first | exact HB.1 | apply pD | apply b1 | refine bT (by assumption) ?_ | apply bA) hb); have n2_ := mk (hbox); have n3_ := gl hg (by repeat first | exact HB.1 | apply pD | apply b1 | refine bT (by assumption) ?_ | apply bA); have n4_ := gl hg (by repeat first | exact HB.1 | apply pD | apply b1 | refine bT (by assumption) ?_ | apply bA); have n5_ := nl hg B0_.1; have n6_ := ng hg B0_.1; clear B0_; clear HB; have B0_ := n0_; have HB := n1_; have B1_ := n2_; have W1_ := n3_; have E1_ := n4_; have N01_ := n5_; have N10_ := n6_; clear n0_ n1_ n2_ n3_ n4_ n5_ n6_; clear hb hbox hg; have hnb16 := N01_.1; have hnc16 := N10_.1; have hcz17_0 : w15.cell? ⟨g0_, 0, none⟩ = some (.int .i64 a0_0) := bQ B0_.1 0; have hcz17_1 : w15.cell? ⟨g0_, 1, none⟩ = some (.int .i64 a0_1) := bQ B0_.1 1; have hfz17_0 := blk_frozen B0_.1 0; have hfz17_1 := blk_frozen B0_.1 1))
 have n0_ := mk (blk_drew B0_.1)
 have n1_ := mk (blk_drew B1_.1)
 have n2_ := mk (below_drew1 HB.1)
 clear B0_ B1_ HB
 have B0_ := n0_
 have B1_ := n1_
 have HB := n2_
 clear n0_ n1_ n2_
 refine start_ (n := 9) (S := fun w' => w'.cell? ⟨g0_, 0, none⟩ = some (.int .i64 a0_0) ∧ w'.cell? ⟨g0_, 1, none⟩ = some (.int .i64 a0_1)) (ds := []) (bs 9 0) (by kernel_rfl) rfl rfl ⟨bQ B0_.1 0, bQ B0_.1 1⟩ (fun hHeld => ?_); refine with_tabW hlc_Next.tab3 hlc_Next.bits3 (fun HT_ HW_ => ?_)
 generalize w15.drew = w18 at B0_ B1_ HB hHeld ⊢
 refine pure_ (i := 0) (N := some 11) (v := ?_) (a' := ?_) (bs 9 1) rfl rfl (any_of HT_.out (by kernel_rfl)) (fun _ _ _ h => h) (Or.inl ⟨by rfl, ?_⟩) ?_ ?_
 rotate_left
 ·intro w'
  go_simp
  with_reducible rfl
 rotate_left
 ·simp only [Act.put, List.setIfInBounds_toArray, List.set_cons_zero, List.set_cons_succ, i64_w, i32_w]
  rfl
 refine pure_ (i := 3) (N := some 14) (v := ?_) (a' := ?_) (bs 9 9) rfl rfl (any_of HT_.out (by kernel_rfl)) (fun _ _ _ h => h) (Or.inl ⟨by rfl, ?_⟩) ?_ ?_
 rotate_left
 ·intro w'
  go_simp
  with_reducible rfl
 rotate_left
 ·simp only [Act.put, List.setIfInBounds_toArray, List.set_cons_zero, List.set_cons_succ, i64_w, i32_w]
  rfl
 refine take_ (i := 1) (N := some 12) (v := ?_) (a' := ?_) (bs 9 11) rfl rfl (take_ofW HT_.out HW_.out (by kernel_rfl)) (fun _ _ _ h => h) (Or.inl ⟨by rfl, ?_⟩) hHeld ?_ ?_
 rotate_left
 ·rintro w' ⟨s0, s1⟩
  go_simp
  with_reducible rfl
 rotate_left
 ·simp only [Act.put, List.setIfInBounds_toArray, List.set_cons_zero, List.set_cons_succ, i64_w, i32_w]
  rfl
 refine take_ (i := 4) (N := some 15) (v := ?_) (a' := ?_) (bs 9 27) rfl rfl (take_ofW HT_.out HW_.out (by kernel_rfl)) (fun _ _ _ h => h) (Or.inl ⟨by rfl, ?_⟩) hHeld ?_ ?_
 rotate_left
 ·rintro w' ⟨s0, s1⟩
  go_simp
  with_reducible rfl
 rotate_left
 ·simp only [Act.put, List.setIfInBounds_toArray, List.set_cons_zero, List.set_cons_succ, i64_w, i32_w]
  rfl
 refine pure_ (i := 5) (N := some 16) (v := ?_) (a' := ?_) (bs 9 59) rfl rfl (any_of HT_.out (by kernel_rfl)) (fun _ _ _ h => h) (Or.inl ⟨by rfl, ?_⟩) ?_ ?_
 rotate_left
 ·intro w'
  go_simp
  with_reducible rfl
 rotate_left
 ·simp only [Act.put, List.setIfInBounds_toArray, List.set_cons_zero, List.set_cons_succ, i64_w, i32_w]
  rfl
 refine pure_ (i := 6) (N := some 17) (v := ?_) (a' := ?_) (bs 9 123) rfl rfl (any_of HT_.out (by kernel_rfl)) (fun _ _ _ h => h) (Or.inl ⟨by rfl, ?_⟩) ?_ ?_
 rotate_left
 ·intro w'
  go_simp
  with_reducible rfl
 rotate_left
 ·simp only [Act.put, List.setIfInBounds_toArray, List.set_cons_zero, List.set_cons_succ, i64_w, i32_w]
  rfl
 refine one_ (i := 2) (N := some 13) (bs 9 127) rfl rfl (one_of HT_.out (by kernel_rfl)) (by decide) (fun K hK => ?_)
 refine goes_ Try.func31 (by kernel_rfl) rfl #[.int .i64 a0_0] (by rfl) rfl rfl (by (try simp only [List.map_toArray, List.map_cons, List.map_nil]); first | done | rfl | (simp only [List.length_drop, List.length_take]; rfl)) ?_
 with_reducible refine (sat_Clip.calls k a0_0 t204 _ A12.1).mono ?_
 rintro e w' ⟨rfl, ⟨nd, rfl⟩⟩
 refine ⟨_, rfl, ?_⟩
 refine hK.out _ _ ⟨bQ B0_.1 0, bQ B0_.1 1⟩ (fun hHeld => ?_)
 clear hK K
 refine norm_ (a' := ?_) ?_ ?_
 rotate_left
 ·show Act.put _ (some 13) _ = _
  simp only [Act.put, List.setIfInBounds_toArray, List.set_cons_zero, List.set_cons_succ, i64_w, i32_w]
  rfl
 refine pure_ (i := 7) (N := some 18) (v := ?_) (a' := ?_) (bs 9 255) rfl rfl (any_of HT_.out (by kernel_rfl)) (fun _ _ _ h => h) (Or.inl ⟨by rfl, ?_⟩) ?_ ?_
 rotate_left
 ·intro w'
  go_simp
  with_reducible rfl
 rotate_left
 ·simp only [Act.put, List.setIfInBounds_toArray, List.set_cons_zero, List.set_cons_succ, i64_w, i32_w]
  rfl
 refine one_ (i := 8) (N := none) (bs 9 511) rfl rfl (one_of HT_.out (by kernel_rfl)) (by decide) (fun K hK => ?_)
 have hs19 : w18.cell? ⟨g1_, 0, none⟩ = some (.int .i64 0) := bQ B1_.1 0
 have hfs19 := blk_frozen B1_.1 0
 have hns19_0 := N01_.1
 have hms19_0 := N10_.1
 have hs20 : w18.cell? ⟨g1_, 1, none⟩ = some (.int .i64 0) := bQ B1_.1 1
 have hfs20 := blk_frozen B1_.1 1
 have hns20_0 := N01_.1
 have hms20_0 := N10_.1
 refine skip_ (w1 := ?_) (by rfl) rfl ?_ ?_
 rotate_left
 ·go_simp
  rfl
 refine hK.out _ _ ⟨((cell_far (p := ⟨g1_, _, none⟩) N01_.1 _).trans (((cell_far (p := ⟨g1_, _, none⟩) N01_.1 _).trans (hHeld.1)))), ((cell_far (p := ⟨g1_, _, none⟩) N01_.1 _).trans (((cell_far (p := ⟨g1_, _, none⟩) N01_.1 _).trans (hHeld.2))))⟩ (fun hHeld => ?_)
 clear hK K
 refine done_ (done_of HT_.out (by kernel_rfl)) ?_
 try go_wp2
 refine bodyPost_ret (results_cell_row rfl _ _ g1_ 28 #[.int .i64 t204, .int .i64 (wrap64 ((ji13) + 1))] (0, 0) _ rfl (by (with_reducible repeat (first | refine blk_drewN ?_ _ | refine blk_drew ?_ | refine blk_alloc ?_ _)); refine blk_put (cs := #[.int .i64 t204, .int .i64 0]) ?_ 1 _ rfl; (with_reducible repeat (first | refine blk_drewN ?_ _ | refine blk_drew ?_ | refine blk_alloc ?_ _)); refine blk_put (cs := #[.int .i64 0, .int .i64 0]) ?_ 0 _ rfl; (with_reducible repeat (first | refine blk_drewN ?_ _ | refine blk_drew ?_ | refine blk_alloc ?_ _)); exact B1_.1) Try.underlying28 rfl (by kernel_rfl)) rfl ?_
 exact ⟨by first | rfl | (simp [errW_none, errW_some] <;> rfl) | (simp only [← hji13]; first | rfl | (simp [errW_none, errW_some] <;> rfl)) | (simp [*, errW_none, errW_some] <;> rfl), by repeat (first | (with_reducible first | exact HB.1 | apply bA | apply pD | apply b1 | apply bS E0_.1 | apply bS E1_.1) | exact HB.1)⟩

/-! ### hlc_Clock_Tick: function 54 -/
def hlc_Clock_Tick.f (k : Nat) (a0_0 : Int) (a0_1 : Int) (a1 : Int) : Option (Int × Int) := (sat_Clip.f k a1).bind fun t207 => (if t207 > a0_0 then (some (t207, 0)) else ((hlc_Next.f k a0_0 a0_1).bind fun bt208 => (some (bt208.1, bt208.2))))
theorem hlc_Clock_Tick.mono : ∀ a0 a1 a2 k, LeO (hlc_Clock_Tick.f k a0 a1 a2) (hlc_Clock_Tick.f (k + 1) a0 a1 a2) := by
 intro a0 a1 a2 k
 unfold hlc_Clock_Tick.f
 repeat' first
   | (with_reducible exact hlc_Next.mono _ _ _)
   | (with_reducible exact sat_Clip.mono _ _)
   | (with_reducible exact LeO.refl _)
   | (with_reducible exact LeO.none _)
   | (with_reducible refine LeO.ite ?_ ?_)
   | (with_reducible refine LeO.bind ?_ (fun _ => ?_))
   | exact hlc_Next.mono _ _ _
   | exact sat_Clip.mono _ _
   | exact LeO.none _
   | refine LeO.ite ?_ ?_
   | refine LeO.bind ?_ (fun _ => ?_)
set_option maxHeartbeats 8000000 in
set_option maxRecDepth 100000 in
theorem hlc_Clock_Tick.calls (k : Nat) (a0_0 : Int) (a0_1 : Int) (a1 : Int) (r1 : Int) (r2 : Int) (w : World) (h : hlc_Clock_Tick.f k a0_0 a0_1 a1 = some (r1, r2)) :
  Calls Try.prog 54 #[.agg #[.int .i64 a0_0, .int .i64 a0_1], .int .i64 a1] w fun e w' => e = .returned (.agg #[.int .i64 r1, .int .i64 r2]) ∧ Below w.heap.size w w' := by
 have hu78 := Try.underlying78
 have hu28 := Try.underlying28
 have HB := mk (Below.refl w.heap.size w)
 have H : ((sat_Clip.f k a1).bind fun t207 => (if t207 > a0_0 then (some (t207, 0)) else ((hlc_Next.f k a0_0 a0_1).bind fun bt208 => (some (bt208.1, bt208.2))))) = some (r1, r2) := h
 clear h
 replace H := Option.bind_eq_some_iff.mp H
 obtain ⟨t207, A30, H⟩ := H
 replace H : (if t207 > a0_0 then (some (t207, 0)) else ((hlc_Next.f k a0_0 a0_1).bind fun bt208 => (some (bt208.1, bt208.2)))) = some (r1, r2) := H
 have A3 := mk A30
 clear A30
 by_cases c4 : t207 > a0_0
 ·rw [if_pos c4] at H
  have c4b0 : decide (a0_0 < t207) = true := decide_eq_true c4
  clear c4
  simp only [Option.some.injEq, Prod.mk.injEq] at H
  obtain ⟨rfl, rfl⟩ := H
  go_enter Try.func54, Try.ntmps54
  go_wp2_with (first | ((with_reducible refine gate_dst (N := 2) rfl ?_); refine box_event ?hg (N := 2) ?hd (cs := #[.int .i64 a0_0, .int .i64 a0_1]) (t := 78) ?hr ?_; (case hd => rfl); (case hg => rfl); (case hr => first | (go_simp; done) | (go_simp; rfl)); intro g0_ hg w5 hbox hb; have n0_ := mk (below_step (by repeat first | exact HB.1 | apply pD | apply b1 | refine bT (by assumption) ?_ | apply bA) hb); have n1_ := mk (hbox); have n2_ := gl hg (by repeat first | exact HB.1 | apply pD | apply b1 | refine bT (by assumption) ?_ | apply bA); have n3_ := gl hg (by repeat first | exact HB.1 | apply pD | apply b1 | refine bT (by assumption) ?_ | apply bA); clear HB; have HB := n0_; have B0_ := n1_; have W0_ := n2_; have E0_ := n3_; clear n0_ n1_ n2_ n3_; clear hb hbox hg) | ((with_reducible refine gate_dst (N := 4) rfl ?_); refine box_event ?hg (N := 4) ?hd (cs := #[.int .i64 0, .int .i64 0]) (t := 78) ?hr ?_; (case hd => rfl); (case hg => rfl); (case hr => first | (go_simp; done) | (go_simp; rfl)); intro g1_ hg w6 hbox hb; have n0_ := bb hb B0_.1; have n1_ := mk (below_step (by repeat first | exact HB.1 | apply pD | apply b1 | refine bT (by assumption) ?_ | apply bA) hb); have n2_ := mk (hbox); have n3_ := gl hg (by repeat first | exact HB.1 | apply pD | apply b1 | refine bT (by assumption) ?_ | apply bA); have n4_ := gl hg (by repeat first | exact HB.1 | apply pD | apply b1 | refine bT (by assumption) ?_ | apply bA); have n5_ := nl hg B0_.1; have n6_ := ng hg B0_.1; clear B0_; clear HB; have B0_ := n0_; have HB := n1_; have B1_ := n2_; have W1_ := n3_; have E1_ := n4_; have N01_ := n5_; have N10_ := n6_; clear n0_ n1_ n2_ n3_ n4_ n5_ n6_; clear hb hbox hg) | ((with_reducible refine gate_callee (f := 31) rfl ?_); refine goesL_ (some 7) rfl rfl Try.func31 (by kernel_rfl) rfl #[.int .i64 a1] rfl (by (try simp only [List.map_toArray, List.map_cons, List.map_nil]); first | done | rfl | (simp only [List.length_drop, List.length_take]; rfl)) ?_; (with_reducible refine (sat_Clip.calls k a1 t207 _ A3.1).mono ?_); rintro e w' ⟨rfl, ⟨nd, rfl⟩⟩; refine ⟨_, rfl, ?_⟩; (try ((repeat rw [World.drewN_drewN]); rw [drewN_self w6]; generalize hq_ : World.drewN w6 _ = w6; have n0_ : Aside0 (w6.heap[g0_]? = some (.cells #[.int .i64 a0_0, .int .i64 a0_1] 78 (0, 0))) := ⟨by rw [← hq_]; exact (by exact B0_.1)⟩; have n1_ : Aside0 (w6.heap[g1_]? = some (.cells #[.int .i64 0, .int .i64 0] 78 (0, 0))) := ⟨by rw [← hq_]; exact (by exact B1_.1)⟩; have n2_ : Aside0 (Below w.heap.size w w6) := ⟨by rw [← hq_]; exact (by repeat (first | (with_reducible first | exact HB.1 | apply bA | apply pD | apply b1 | apply bS E0_.1 | apply bS E1_.1) | exact HB.1))⟩; clear B0_ B1_ HB hq_; have B0_ := n0_; have B1_ := n1_; have HB := n2_; clear n0_ n1_ n2_)); have hnb7 := N01_.1; have hnc7 := N10_.1; have hcz8_0 : w6.cell? ⟨g0_, 0, none⟩ = some (.int .i64 a0_0) := bQ B0_.1 0; have hcz8_1 : w6.cell? ⟨g0_, 1, none⟩ = some (.int .i64 a0_1) := bQ B0_.1 1; have hfz8_0 := blk_frozen B0_.1 0; have hfz8_1 := blk_frozen B0_.1 1; have hcz9_0 : w6.cell? ⟨g1_, 0, none⟩ = some (.int .i64 0) := bQ B1_.1 0; have hcz9_1 : w6.cell? ⟨g1_, 1, none⟩ = some (.int .i64 0) := bQ B1_.1 1; have hfz9_0 := blk_frozen B1_.1 0; have hfz9_1 := blk_frozen B1_.1 1))
  refine bodyPost_ret (results_cell_row rfl _ _ g1_ 78 #[.int .i64 t207, .int .i64 0] (0, 0) _ rfl (by (with_reducible repeat (first | refine blk_drewN ?_ _ | refine blk_drew ?_ | refine blk_alloc ?_ _)); refine blk_put (cs := #[.int .i64 t207, .int .i64 0]) ?_ 1 _ rfl; (with_reducible repeat (first | refine blk_drewN ?_ _ | refine blk_drew ?_ | refine blk_alloc ?_ _)); refine blk_put (cs := #[.int .i64 0, .int .i64 0]) ?_ 0 _ rfl; (with_reducible repeat (first | refine blk_drewN ?_ _ | refine blk_drew ?_ | refine blk_alloc ?_ _)); exact B1_.1) Try.underlying78 rfl (by kernel_rfl)) rfl ?_
  exact ⟨by first | rfl | (simp [errW_none, errW_some] <;> rfl) | (simp [*, errW_none, errW_some] <;> rfl), by repeat (first | (with_reducible first | exact HB.1 | apply bA | apply pD | apply b1 | apply bS E0_.1 | apply bS E1_.1) | exact HB.1)⟩
 rw [if_neg c4] at H
 have c4b0 : decide (a0_0 < t207) = false := decide_eq_false c4
 clear c4
 replace H := Option.bind_eq_some_iff.mp H
 obtain ⟨⟨t208, t209⟩, A100, H⟩ := H
 replace H : (some (t208, t209)) = some (r1, r2) := H
 have A10 := mk A100
 clear A100
 simp only [Option.some.injEq, Prod.mk.injEq] at H
 obtain ⟨rfl, rfl⟩ := H
 go_enter Try.func54, Try.ntmps54
 go_wp2_with (first | ((with_reducible refine gate_dst (N := 2) rfl ?_); refine box_event ?hg (N := 2) ?hd (cs := #[.int .i64 a0_0, .int .i64 a0_1]) (t := 78) ?hr ?_; (case hd => rfl); (case hg => rfl); (case hr => first | (go_simp; done) | (go_simp; rfl)); intro g0_ hg w11 hbox hb; have n0_ := mk (below_step (by repeat first | exact HB.1 | apply pD | apply b1 | refine bT (by assumption) ?_ | apply bA) hb); have n1_ := mk (hbox); have n2_ := gl hg (by repeat first | exact HB.1 | apply pD | apply b1 | refine bT (by assumption) ?_ | apply bA); have n3_ := gl hg (by repeat first | exact HB.1 | apply pD | apply b1 | refine bT (by assumption) ?_ | apply bA); clear HB; have HB := n0_; have B0_ := n1_; have W0_ := n2_; have E0_ := n3_; clear n0_ n1_ n2_ n3_; clear hb hbox hg) | ((with_reducible refine gate_dst (N := 4) rfl ?_); refine box_event ?hg (N := 4) ?hd (cs := #[.int .i64 0, .int .i64 0]) (t := 78) ?hr ?_; (case hd => rfl); (case hg => rfl); (case hr => first | (go_simp; done) | (go_simp; rfl)); intro g1_ hg w12 hbox hb; have n0_ := bb hb B0_.1; have n1_ := mk (below_step (by repeat first | exact HB.1 | apply pD | apply b1 | refine bT (by assumption) ?_ | apply bA) hb); have n2_ := mk (hbox); have n3_ := gl hg (by repeat first | exact HB.1 | apply pD | apply b1 | refine bT (by assumption) ?_ | apply bA); have n4_ := gl hg (by repeat first | exact HB.1 | apply pD | apply b1 | refine bT (by assumption) ?_ | apply bA); have n5_ := nl hg B0_.1; have n6_ := ng hg B0_.1; clear B0_; clear HB; have B0_ := n0_; have HB := n1_; have B1_ := n2_; have W1_ := n3_; have E1_ := n4_; have N01_ := n5_; have N10_ := n6_; clear n0_ n1_ n2_ n3_ n4_ n5_ n6_; clear hb hbox hg) | ((with_reducible refine gate_callee (f := 31) rfl ?_); refine goesL_ (some 7) rfl rfl Try.func31 (by kernel_rfl) rfl #[.int .i64 a1] rfl (by (try simp only [List.map_toArray, List.map_cons, List.map_nil]); first | done | rfl | (simp only [List.length_drop, List.length_take]; rfl)) ?_; (with_reducible refine (sat_Clip.calls k a1 t207 _ A3.1).mono ?_); rintro e w' ⟨rfl, ⟨nd, rfl⟩⟩; refine ⟨_, rfl, ?_⟩; (try ((repeat rw [World.drewN_drewN]); rw [drewN_self w12]; generalize hq_ : World.drewN w12 _ = w12; have n0_ : Aside0 (w12.heap[g0_]? = some (.cells #[.int .i64 a0_0, .int .i64 a0_1] 78 (0, 0))) := ⟨by rw [← hq_]; exact (by exact B0_.1)⟩; have n1_ : Aside0 (w12.heap[g1_]? = some (.cells #[.int .i64 0, .int .i64 0] 78 (0, 0))) := ⟨by rw [← hq_]; exact (by exact B1_.1)⟩; have n2_ : Aside0 (Below w.heap.size w w12) := ⟨by rw [← hq_]; exact (by repeat (first | (with_reducible first | exact HB.1 | apply bA | apply pD | apply b1 | apply bS E0_.1 | apply bS E1_.1) | exact HB.1))⟩; clear B0_ B1_ HB hq_; have B0_ := n0_; have B1_ := n1_; have HB := n2_; clear n0_ n1_ n2_)); have hnb13 := N01_.1; have hnc13 := N10_.1; have hcz14_0 : w12.cell? ⟨g0_, 0, none⟩ = some (.int .i64 a0_0) := bQ B0_.1 0; have hcz14_1 : w12.cell? ⟨g0_, 1, none⟩ = some (.int .i64 a0_1) := bQ B0_.1 1; have hfz14_0 := blk_frozen B0_.1 0; have hfz14_1 := blk_frozen B0_.1 1) | ((with_reducible refine gate_callee (f := 68) rfl ?_); refine goesL_ (some 18) rfl rfl Try.func68 (by kernel_rfl) rfl #[.agg #[.int .i64 a0_0, .int .i64 a0_1]] rfl (by (try simp only [List.map_toArray, List.map_cons, List.map_nil]); first | done | rfl | (simp only [List.length_drop, List.length_take]; rfl)) ?_; (with_reducible refine (hlc_Next.calls k a0_0 a0_1 t208 t209 _ A10.1).mono ?_); rintro e w15 ⟨rfl, hb⟩; refine ⟨_, rfl, ?_⟩; have n0_ := bb hb B0_.1; have n1_ := bb hb B1_.1; have n2_ := mk (below_step (by repeat first | exact HB.1 | apply pD | apply b1 | refine bT (by assumption) ?_ | apply bA) hb); clear B0_; clear B1_; clear HB; have B0_ := n0_; have B1_ := n1_; have HB := n2_; clear n0_ n1_ n2_; (try clear hb); (try clear hb2); (try clear hk); (try clear hi); have hcz16_0 : w15.cell? ⟨g1_, 0, none⟩ = some (.int .i64 0) := bQ B1_.1 0; have hcz16_1 : w15.cell? ⟨g1_, 1, none⟩ = some (.int .i64 0) := bQ B1_.1 1; have hfz16_0 := blk_frozen B1_.1 0; have hfz16_1 := blk_frozen B1_.1 1))
 refine bodyPost_ret (results_cell_row rfl _ _ g1_ 78 #[.int .i64 t208, .int .i64 t209] (0, 0) _ rfl (by (with_reducible repeat (first | refine blk_drewN ?_ _ | refine blk_drew ?_ | refine blk_alloc ?_ _)); refine blk_put (cs := #[.int .i64 t208, .int .i64 0]) ?_ 1 _ rfl; (with_reducible repeat (first | refine blk_drewN ?_ _ | refine blk_drew ?_ | refine blk_alloc ?_ _)); refine blk_put (cs := #[.int .i64 0, .int .i64 0]) ?_ 0 _ rfl; (with_reducible repeat (first | refine blk_drewN ?_ _ | refine blk_drew ?_ | refine blk_alloc ?_ _)); exact B1_.1) Try.underlying78 rfl (by kernel_rfl)) rfl ?_
 exact ⟨by first | rfl | (simp [errW_none, errW_some] <;> rfl) | (simp [*, errW_none, errW_some] <;> rfl), by repeat (first | (with_reducible first | exact HB.1 | apply bA | apply pD | apply b1 | apply bS E0_.1 | apply bS E1_.1) | exact HB.1)⟩

-- NOT PRINTED: function 17 (health_Front_Step)

-- NOT PRINTED: function 22 (health_Front_Health)

-- NOT PRINTED: function 56 (health_Front_synced)

-- NOT PRINTED: function 20 (health_Front_Now)

/-! ### clepsydralaw21_some: function 27 -/
def clepsydralaw21_some.f  : Option (Int × Int × Int × Int × Int × Int × Int × Int × Int × Int × Int × Int) := some (4, 1, 2, 1000, 1, 100, 10, 50, 20, 5, 5000, 1000)
set_option maxHeartbeats 8000000 in
set_option maxRecDepth 100000 in
theorem clepsydralaw21_some.calls  (r1 : Int) (r2 : Int) (r3 : Int) (r4 : Int) (r5 : Int) (r6 : Int) (r7 : Int) (r8 : Int) (r9 : Int) (r10 : Int) (r11 : Int) (r12 : Int) (w : World) (h : clepsydralaw21_some.f  = some (r1, r2, r3, r4, r5, r6, r7, r8, r9, r10, r11, r12)) :
  Calls Try.prog 27 #[] w fun e w' => e = .returned (.agg #[.int .i64 r1, .int .i64 r2, .int .i64 r3, .int .i64 r4, .int .i64 r5, .int .i64 r6, .int .i64 r7, .int .i64 r8, .int .i64 r9, .int .i64 r10, .int .i64 r11, .int .i64 r12]) ∧ Below w.heap.size w w' := by
 have hu23 := Try.underlying23
 have HB := mk (Below.refl w.heap.size w)
 have H : (some (4, 1, 2, 1000, 1, 100, 10, 50, 20, 5, 5000, 1000)) = some (r1, r2, r3, r4, r5, r6, r7, r8, r9, r10, r11, r12) := h
 clear h
 simp only [Option.some.injEq, Prod.mk.injEq] at H
 obtain ⟨rfl, rfl, rfl, rfl, rfl, rfl, rfl, rfl, rfl, rfl, rfl, rfl⟩ := H
 go_enter Try.func27, Try.ntmps27
 go_wp2_with (first | ((with_reducible refine gate_dst (N := 0) rfl ?_); refine box_event ?hg (N := 0) ?hd (cs := #[.int .i64 0, .int .i64 0, .int .i64 0, .int .i64 0, .int .i64 0, .int .i64 0, .int .i64 0, .int .i64 0, .int .i64 0, .int .i64 0, .int .i64 0, .int .i64 0]) (t := 23) ?hr ?_; (case hd => rfl); (case hg => rfl); (case hr => first | (go_simp; done) | (go_simp; rfl)); intro g0_ hg w1 hbox hb; have n0_ := mk (below_step (by repeat first | exact HB.1 | apply pD | apply b1 | refine bT (by assumption) ?_ | apply bA) hb); have n1_ := mk (hbox); have n2_ := gl hg (by repeat first | exact HB.1 | apply pD | apply b1 | refine bT (by assumption) ?_ | apply bA); have n3_ := gl hg (by repeat first | exact HB.1 | apply pD | apply b1 | refine bT (by assumption) ?_ | apply bA); clear HB; have HB := n0_; have B0_ := n1_; have W0_ := n2_; have E0_ := n3_; clear n0_ n1_ n2_ n3_; clear hb hbox hg; have hcz2_0 : w1.cell? ⟨g0_, 0, none⟩ = some (.int .i64 0) := bQ B0_.1 0; have hcz2_1 : w1.cell? ⟨g0_, 1, none⟩ = some (.int .i64 0) := bQ B0_.1 1; have hcz2_2 : w1.cell? ⟨g0_, 2, none⟩ = some (.int .i64 0) := bQ B0_.1 2; have hcz2_3 : w1.cell? ⟨g0_, 3, none⟩ = some (.int .i64 0) := bQ B0_.1 3; have hcz2_4 : w1.cell? ⟨g0_, 4, none⟩ = some (.int .i64 0) := bQ B0_.1 4; have hcz2_5 : w1.cell? ⟨g0_, 5, none⟩ = some (.int .i64 0) := bQ B0_.1 5; have hcz2_6 : w1.cell? ⟨g0_, 6, none⟩ = some (.int .i64 0) := bQ B0_.1 6; have hcz2_7 : w1.cell? ⟨g0_, 7, none⟩ = some (.int .i64 0) := bQ B0_.1 7; have hcz2_8 : w1.cell? ⟨g0_, 8, none⟩ = some (.int .i64 0) := bQ B0_.1 8; have hcz2_9 : w1.cell? ⟨g0_, 9, none⟩ = some (.int .i64 0) := bQ B0_.1 9; have hcz2_10 : w1.cell? ⟨g0_, 10, none⟩ = some (.int .i64 0) := bQ B0_.1 10; have hcz2_11 : w1.cell? ⟨g0_, 11, none⟩ = some (.int .i64 0) := bQ B0_.1 11; have hfz2_0 := blk_frozen B0_.1 0; have hfz2_1 := blk_frozen B0_.1 1; have hfz2_2 := blk_frozen B0_.1 2; have hfz2_3 := blk_frozen B0_.1 3; have hfz2_4 := blk_frozen B0_.1 4; have hfz2_5 := blk_frozen B0_.1 5; have hfz2_6 := blk_frozen B0_.1 6; have hfz2_7 := blk_frozen B0_.1 7; have hfz2_8 := blk_frozen B0_.1 8; have hfz2_9 := blk_frozen B0_.1 9; have hfz2_10 := blk_frozen B0_.1 10; have hfz2_11 := blk_frozen B0_.1 11))
 refine bodyPost_ret (results_cell_row rfl _ _ g0_ 23 #[.int .i64 4, .int .i64 1, .int .i64 2, .int .i64 1000, .int .i64 1, .int .i64 100, .int .i64 10, .int .i64 50, .int .i64 20, .int .i64 5, .int .i64 5000, .int .i64 1000] (0, 0) _ rfl (by (with_reducible repeat (first | refine blk_drewN ?_ _ | refine blk_drew ?_ | refine blk_alloc ?_ _)); refine blk_put (cs := #[.int .i64 4, .int .i64 1, .int .i64 2, .int .i64 1000, .int .i64 1, .int .i64 100, .int .i64 10, .int .i64 50, .int .i64 20, .int .i64 5, .int .i64 5000, .int .i64 0]) ?_ 11 _ rfl; (with_reducible repeat (first | refine blk_drewN ?_ _ | refine blk_drew ?_ | refine blk_alloc ?_ _)); refine blk_put (cs := #[.int .i64 4, .int .i64 1, .int .i64 2, .int .i64 1000, .int .i64 1, .int .i64 100, .int .i64 10, .int .i64 50, .int .i64 20, .int .i64 5, .int .i64 0, .int .i64 0]) ?_ 10 _ rfl; (with_reducible repeat (first | refine blk_drewN ?_ _ | refine blk_drew ?_ | refine blk_alloc ?_ _)); refine blk_put (cs := #[.int .i64 4, .int .i64 1, .int .i64 2, .int .i64 1000, .int .i64 1, .int .i64 100, .int .i64 10, .int .i64 50, .int .i64 20, .int .i64 0, .int .i64 0, .int .i64 0]) ?_ 9 _ rfl; (with_reducible repeat (first | refine blk_drewN ?_ _ | refine blk_drew ?_ | refine blk_alloc ?_ _)); refine blk_put (cs := #[.int .i64 4, .int .i64 1, .int .i64 2, .int .i64 1000, .int .i64 1, .int .i64 100, .int .i64 10, .int .i64 50, .int .i64 0, .int .i64 0, .int .i64 0, .int .i64 0]) ?_ 8 _ rfl; (with_reducible repeat (first | refine blk_drewN ?_ _ | refine blk_drew ?_ | refine blk_alloc ?_ _)); refine blk_put (cs := #[.int .i64 4, .int .i64 1, .int .i64 2, .int .i64 1000, .int .i64 1, .int .i64 100, .int .i64 10, .int .i64 0, .int .i64 0, .int .i64 0, .int .i64 0, .int .i64 0]) ?_ 7 _ rfl; (with_reducible repeat (first | refine blk_drewN ?_ _ | refine blk_drew ?_ | refine blk_alloc ?_ _)); refine blk_put (cs := #[.int .i64 4, .int .i64 1, .int .i64 2, .int .i64 1000, .int .i64 1, .int .i64 100, .int .i64 0, .int .i64 0, .int .i64 0, .int .i64 0, .int .i64 0, .int .i64 0]) ?_ 6 _ rfl; (with_reducible repeat (first | refine blk_drewN ?_ _ | refine blk_drew ?_ | refine blk_alloc ?_ _)); refine blk_put (cs := #[.int .i64 4, .int .i64 1, .int .i64 2, .int .i64 1000, .int .i64 1, .int .i64 0, .int .i64 0, .int .i64 0, .int .i64 0, .int .i64 0, .int .i64 0, .int .i64 0]) ?_ 5 _ rfl; (with_reducible repeat (first | refine blk_drewN ?_ _ | refine blk_drew ?_ | refine blk_alloc ?_ _)); refine blk_put (cs := #[.int .i64 4, .int .i64 1, .int .i64 2, .int .i64 1000, .int .i64 0, .int .i64 0, .int .i64 0, .int .i64 0, .int .i64 0, .int .i64 0, .int .i64 0, .int .i64 0]) ?_ 4 _ rfl; (with_reducible repeat (first | refine blk_drewN ?_ _ | refine blk_drew ?_ | refine blk_alloc ?_ _)); refine blk_put (cs := #[.int .i64 4, .int .i64 1, .int .i64 2, .int .i64 0, .int .i64 0, .int .i64 0, .int .i64 0, .int .i64 0, .int .i64 0, .int .i64 0, .int .i64 0, .int .i64 0]) ?_ 3 _ rfl; (with_reducible repeat (first | refine blk_drewN ?_ _ | refine blk_drew ?_ | refine blk_alloc ?_ _)); refine blk_put (cs := #[.int .i64 4, .int .i64 1, .int .i64 0, .int .i64 0, .int .i64 0, .int .i64 0, .int .i64 0, .int .i64 0, .int .i64 0, .int .i64 0, .int .i64 0, .int .i64 0]) ?_ 2 _ rfl; (with_reducible repeat (first | refine blk_drewN ?_ _ | refine blk_drew ?_ | refine blk_alloc ?_ _)); refine blk_put (cs := #[.int .i64 4, .int .i64 0, .int .i64 0, .int .i64 0, .int .i64 0, .int .i64 0, .int .i64 0, .int .i64 0, .int .i64 0, .int .i64 0, .int .i64 0, .int .i64 0]) ?_ 1 _ rfl; (with_reducible repeat (first | refine blk_drewN ?_ _ | refine blk_drew ?_ | refine blk_alloc ?_ _)); refine blk_put (cs := #[.int .i64 0, .int .i64 0, .int .i64 0, .int .i64 0, .int .i64 0, .int .i64 0, .int .i64 0, .int .i64 0, .int .i64 0, .int .i64 0, .int .i64 0, .int .i64 0]) ?_ 0 _ rfl; (with_reducible repeat (first | refine blk_drewN ?_ _ | refine blk_drew ?_ | refine blk_alloc ?_ _)); exact B0_.1) Try.underlying23 rfl (by kernel_rfl)) rfl ?_
 exact ⟨by first | rfl | (simp [errW_none, errW_some] <;> rfl) | (simp [*, errW_none, errW_some] <;> rfl), by repeat (first | (with_reducible first | exact HB.1 | apply bA | apply pD | apply b1 | apply bS E0_.1) | exact HB.1)⟩

end Go.Proofs.Ytigkjbaclpklpaa.Q
