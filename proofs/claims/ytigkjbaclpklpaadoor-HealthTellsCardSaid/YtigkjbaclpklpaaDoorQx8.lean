/- The calls of these Go functions answer what the Lean functions beside them answer; written by a program (wip/pr2.py, out of the print of the loaded program); under no condition but those that stand in the theorems. -/
import Derived.Test.YtigkjbaclpklpaaDoorQx0
import Derived.Test.YtigkjbaclpklpaaDoorQx5
import Derived.Test.YtigkjbaclpklpaaDoorQx6
import Derived.Test.YtigkjbaclpklpaaDoorQx7
namespace Go.Proofs.YtigkjbaclpklpaaDoor.Q
open Go.RowKit Go.Proofs.YtigkjbaclpklpaaDoorW.PrintWords Go.Proofs.YtigkjbaclpklpaaDoorW.PrintLast Go.Proofs.YtigkjbaclpklpaaDoorW.PrintMore
attribute [local go_sem] max2_int min2_int max_two min_two max_three min_three max_four min_four   -- for this text's walks alone
set_option linter.unusedVariables false
set_option linter.unusedSimpArgs false

/-! ### limit_Width: function 55 -/
def limit_Width.f (k : Nat) (a0_0 : Int) (a0_1 : Int) (a0_2 : Int) (a0_3 : Int) (a0_4 : Int) (a0_5 : Int) (a0_6 : Int) (a0_7 : Int) (a0_8 : Int) (a0_9 : Int) (a0_10 : Int) (a0_11 : Int) (a1 : Int) (a2 : Int) : Option (Int) := (limit_Gate.f k a0_0 a0_1 a0_2 a0_3 a0_4 a0_5 a0_6 a0_7 a0_8 a0_9 a0_10 a0_11).bind fun t140 => ((sat_Mul.f k 2 a0_4).bind fun t141 => ((sat_Mul.f k t141 a1).bind fun t142 => ((sat_Add.f k (([a2, 1] : List Int))).bind fun t146 => ((limit_Hop.f k a0_0 a0_1 a0_2 a0_3 a0_4 a0_5 a0_6 a0_7 a0_8 a0_9 a0_10 a0_11).bind fun t147 => ((sat_Mul.f k t146 t147).bind fun t148 => ((sat_Add.f k (([t140, t142, t148] : List Int))).bind fun t152 => (some t152)))))))
theorem limit_Width.mono : ∀ a0 a1 a2 a3 a4 a5 a6 a7 a8 a9 a10 a11 a12 a13 k, LeO (limit_Width.f k a0 a1 a2 a3 a4 a5 a6 a7 a8 a9 a10 a11 a12 a13) (limit_Width.f (k + 1) a0 a1 a2 a3 a4 a5 a6 a7 a8 a9 a10 a11 a12 a13) := by
 intro a0 a1 a2 a3 a4 a5 a6 a7 a8 a9 a10 a11 a12 a13 k
 unfold limit_Width.f
 repeat' first
   | (with_reducible exact limit_Gate.mono _ _ _ _ _ _ _ _ _ _ _ _ _)
   | (with_reducible exact limit_Hop.mono _ _ _ _ _ _ _ _ _ _ _ _ _)
   | (with_reducible exact sat_Add.mono _ _)
   | (with_reducible exact sat_Mul.mono _ _ _)
   | (with_reducible exact LeO.refl _)
   | (with_reducible exact LeO.none _)
   | (with_reducible refine LeO.ite ?_ ?_)
   | (with_reducible refine LeO.bind ?_ (fun _ => ?_))
   | exact limit_Gate.mono _ _ _ _ _ _ _ _ _ _ _ _ _
   | exact limit_Hop.mono _ _ _ _ _ _ _ _ _ _ _ _ _
   | exact sat_Add.mono _ _
   | exact sat_Mul.mono _ _ _
   | exact LeO.none _
   | refine LeO.ite ?_ ?_
   | refine LeO.bind ?_ (fun _ => ?_)
def limit_Width.T1 : Bool × List (List Nat × List Nat) := (true, [([], []), ([0], [0]), ([], []), ([2], [2]), ([3, 1], [3]), ([], []), ([4, 5, 4], [4, 5]), ([], []), ([7], [7]), ([8, 6], [8]), ([], []), ([10, 9], [10]), ([9, 11, 11], [9, 11]), ([1, 6, 12], [1, 6, 12]), ([13, 12], [13]), ([14, 14, 0, 1, 2, 3, 4, 5, 6, 7, 8, 9, 10, 11, 12, 13, 14], [14])])
def limit_Width.B1 : List Nat := [0, 1, 0, 4, 15, 0, 63, 0, 128, 511, 0, 2047, 4095, 8191, 16383, 32767]
theorem limit_Width.tab1 : rtab .any (opsOf Tryd.f55 1) = limit_Width.T1 := by kernel_rfl
theorem limit_Width.bits1 : waitsOk limit_Width.T1.2 limit_Width.B1 = true := by kernel_rfl
set_option maxHeartbeats 8000000 in
set_option maxRecDepth 100000 in
theorem limit_Width.calls (k : Nat) (a0_0 : Int) (a0_1 : Int) (a0_2 : Int) (a0_3 : Int) (a0_4 : Int) (a0_5 : Int) (a0_6 : Int) (a0_7 : Int) (a0_8 : Int) (a0_9 : Int) (a0_10 : Int) (a0_11 : Int) (a1 : Int) (a2 : Int) (r : Int) (w : World) (h : limit_Width.f k a0_0 a0_1 a0_2 a0_3 a0_4 a0_5 a0_6 a0_7 a0_8 a0_9 a0_10 a0_11 a1 a2 = some r) :
  Calls Tryd.prog 55 #[.agg #[.int .i64 a0_0, .int .i64 a0_1, .int .i64 a0_2, .int .i64 a0_3, .int .i64 a0_4, .int .i64 a0_5, .int .i64 a0_6, .int .i64 a0_7, .int .i64 a0_8, .int .i64 a0_9, .int .i64 a0_10, .int .i64 a0_11], .int .i64 a1, .int .i64 a2] w fun e w' => e = .returned (.int .i64 r) ∧ Below w.heap.size w w' := by
 have hu23 := Tryd.underlying23
 have HB := mk (Below.refl w.heap.size w)
 have H : ((limit_Gate.f k a0_0 a0_1 a0_2 a0_3 a0_4 a0_5 a0_6 a0_7 a0_8 a0_9 a0_10 a0_11).bind fun t140 => ((sat_Mul.f k 2 a0_4).bind fun t141 => ((sat_Mul.f k t141 a1).bind fun t142 => ((sat_Add.f k (([a2, 1] : List Int))).bind fun t146 => ((limit_Hop.f k a0_0 a0_1 a0_2 a0_3 a0_4 a0_5 a0_6 a0_7 a0_8 a0_9 a0_10 a0_11).bind fun t147 => ((sat_Mul.f k t146 t147).bind fun t148 => ((sat_Add.f k (([t140, t142, t148] : List Int))).bind fun t152 => (some t152)))))))) = some r := h
 clear h
 replace H := Option.bind_eq_some_iff.mp H
 obtain ⟨t140, A40, H⟩ := H
 replace H : ((sat_Mul.f k 2 a0_4).bind fun t141 => ((sat_Mul.f k t141 a1).bind fun t142 => ((sat_Add.f k (([a2, 1] : List Int))).bind fun t146 => ((limit_Hop.f k a0_0 a0_1 a0_2 a0_3 a0_4 a0_5 a0_6 a0_7 a0_8 a0_9 a0_10 a0_11).bind fun t147 => ((sat_Mul.f k t146 t147).bind fun t148 => ((sat_Add.f k (([t140, t142, t148] : List Int))).bind fun t152 => (some t152))))))) = some r := H
 have A4 := mk A40
 clear A40
 replace H := Option.bind_eq_some_iff.mp H
 obtain ⟨t141, A50, H⟩ := H
 replace H : ((sat_Mul.f k t141 a1).bind fun t142 => ((sat_Add.f k (([a2, 1] : List Int))).bind fun t146 => ((limit_Hop.f k a0_0 a0_1 a0_2 a0_3 a0_4 a0_5 a0_6 a0_7 a0_8 a0_9 a0_10 a0_11).bind fun t147 => ((sat_Mul.f k t146 t147).bind fun t148 => ((sat_Add.f k (([t140, t142, t148] : List Int))).bind fun t152 => (some t152)))))) = some r := H
 have A5 := mk A50
 clear A50
 replace H := Option.bind_eq_some_iff.mp H
 obtain ⟨t142, A60, H⟩ := H
 replace H : ((sat_Add.f k (([a2, 1] : List Int))).bind fun t146 => ((limit_Hop.f k a0_0 a0_1 a0_2 a0_3 a0_4 a0_5 a0_6 a0_7 a0_8 a0_9 a0_10 a0_11).bind fun t147 => ((sat_Mul.f k t146 t147).bind fun t148 => ((sat_Add.f k (([t140, t142, t148] : List Int))).bind fun t152 => (some t152))))) = some r := H
 have A6 := mk A60
 clear A60
 obtain ⟨y143, hy143⟩ : ∃ y_ : List Int, y_ = (([a2, 1] : List Int)) := ⟨_, rfl⟩
 replace H : ((sat_Add.f k y143).bind fun t146 => ((limit_Hop.f k a0_0 a0_1 a0_2 a0_3 a0_4 a0_5 a0_6 a0_7 a0_8 a0_9 a0_10 a0_11).bind fun t147 => ((sat_Mul.f k t146 t147).bind fun t148 => ((sat_Add.f k (([t140, t142, t148] : List Int))).bind fun t152 => (some t152))))) = some r := by first | (rw [hy143]; with_reducible exact H) | (have H2_ := (Option.bind_some _ _).symm.trans H; rw [hy143]; with_reducible exact H2_) | (have H2_ := (Option.bind_some _ _).symm.trans H; with_reducible exact H2_) | with_reducible exact H | (rw [hy143]; exact H) | exact H
 have Ny143 := mk hy143
 clear hy143
 replace H := Option.bind_eq_some_iff.mp H
 obtain ⟨t146, A70, H⟩ := H
 replace H : ((limit_Hop.f k a0_0 a0_1 a0_2 a0_3 a0_4 a0_5 a0_6 a0_7 a0_8 a0_9 a0_10 a0_11).bind fun t147 => ((sat_Mul.f k t146 t147).bind fun t148 => ((sat_Add.f k (([t140, t142, t148] : List Int))).bind fun t152 => (some t152)))) = some r := H
 have A7 := mk A70
 clear A70
 replace H := Option.bind_eq_some_iff.mp H
 obtain ⟨t147, A80, H⟩ := H
 replace H : ((sat_Mul.f k t146 t147).bind fun t148 => ((sat_Add.f k (([t140, t142, t148] : List Int))).bind fun t152 => (some t152))) = some r := H
 have A8 := mk A80
 clear A80
 replace H := Option.bind_eq_some_iff.mp H
 obtain ⟨t148, A90, H⟩ := H
 replace H : ((sat_Add.f k (([t140, t142, t148] : List Int))).bind fun t152 => (some t152)) = some r := H
 have A9 := mk A90
 clear A90
 obtain ⟨y149, hy149⟩ : ∃ y_ : List Int, y_ = (([t140, t142, t148] : List Int)) := ⟨_, rfl⟩
 replace H : ((sat_Add.f k y149).bind fun t152 => (some t152)) = some r := by first | (rw [hy149]; with_reducible exact H) | (have H2_ := (Option.bind_some _ _).symm.trans H; rw [hy149]; with_reducible exact H2_) | (have H2_ := (Option.bind_some _ _).symm.trans H; with_reducible exact H2_) | with_reducible exact H | (rw [hy149]; exact H) | exact H
 have Ny149 := mk hy149
 clear hy149
 replace H := Option.bind_eq_some_iff.mp H
 obtain ⟨t152, A100, H⟩ := H
 replace H : (some t152) = some r := H
 have A10 := mk A100
 clear A100
 obtain rfl := Option.some.inj H
 go_enter Tryd.func55, Tryd.ntmps55
 try go_wp2_with (first | ((with_reducible refine gate_dst (N := 3) rfl ?_); refine bx 3 #[.int .i64 a0_0, .int .i64 a0_1, .int .i64 a0_2, .int .i64 a0_3, .int .i64 a0_4, .int .i64 a0_5, .int .i64 a0_6, .int .i64 a0_7, .int .i64 a0_8, .int .i64 a0_9, .int .i64 a0_10, .int .i64 a0_11] 23 ?_; intro g0_ hg w11 hbox hb; have B0_ := mk (hbox); have W0_ := gl hg zq; have E0_ := gl hg zq; replace HB := mk (below_step zq hb); clear hb hbox hg))
 replace B0_ := mk (blk_drew B0_.1)
 replace HB := mk (below_drew1 HB.1)
 refine start_ (n := 16) (S := fun w' => w'.cell? ⟨g0_, 0, none⟩ = some (.int .i64 a0_0) ∧ w'.cell? ⟨g0_, 1, none⟩ = some (.int .i64 a0_1) ∧ w'.cell? ⟨g0_, 2, none⟩ = some (.int .i64 a0_2) ∧ w'.cell? ⟨g0_, 3, none⟩ = some (.int .i64 a0_3) ∧ w'.cell? ⟨g0_, 4, none⟩ = some (.int .i64 a0_4) ∧ w'.cell? ⟨g0_, 5, none⟩ = some (.int .i64 a0_5) ∧ w'.cell? ⟨g0_, 6, none⟩ = some (.int .i64 a0_6) ∧ w'.cell? ⟨g0_, 7, none⟩ = some (.int .i64 a0_7) ∧ w'.cell? ⟨g0_, 8, none⟩ = some (.int .i64 a0_8) ∧ w'.cell? ⟨g0_, 9, none⟩ = some (.int .i64 a0_9) ∧ w'.cell? ⟨g0_, 10, none⟩ = some (.int .i64 a0_10) ∧ w'.cell? ⟨g0_, 11, none⟩ = some (.int .i64 a0_11)) (ds := []) (bs 16 0) (by kernel_rfl) rfl rfl (c12 B0_.1) (fun hHeld => ?_); refine with_tabW limit_Width.tab1 limit_Width.bits1 (fun HT_ HW_ => ?_)
 generalize w11.drew = w12 at B0_ HB hHeld ⊢
 refine pt HT_ 2 9 4 ?_
 refine pt HT_ 5 12 36 ?_
 refine pt HT_ 7 14 164 ?_
 refine tb HT_ HW_ 0 7 165 hHeld ?_
 refine tb HT_ HW_ 3 10 173 hHeld ?_
 refine tb HT_ HW_ 10 17 1197 hHeld ?_
 refine join_ (σ := Value) 6 (bs 16 1535) (fun s_ => [(8, .int .i64 t140), (11, .int .i64 t141), (13, .int .i64 t142), (15, s_)]) (fun s_ w' => (w'.cell? ⟨g0_, 0, none⟩ = some (.int .i64 a0_0) ∧ w'.cell? ⟨g0_, 1, none⟩ = some (.int .i64 a0_1) ∧ w'.cell? ⟨g0_, 2, none⟩ = some (.int .i64 a0_2) ∧ w'.cell? ⟨g0_, 3, none⟩ = some (.int .i64 a0_3) ∧ w'.cell? ⟨g0_, 4, none⟩ = some (.int .i64 a0_4) ∧ w'.cell? ⟨g0_, 5, none⟩ = some (.int .i64 a0_5) ∧ w'.cell? ⟨g0_, 6, none⟩ = some (.int .i64 a0_6) ∧ w'.cell? ⟨g0_, 7, none⟩ = some (.int .i64 a0_7) ∧ w'.cell? ⟨g0_, 8, none⟩ = some (.int .i64 a0_8) ∧ w'.cell? ⟨g0_, 9, none⟩ = some (.int .i64 a0_9) ∧ w'.cell? ⟨g0_, 10, none⟩ = some (.int .i64 a0_10) ∧ w'.cell? ⟨g0_, 11, none⟩ = some (.int .i64 a0_11)) ∧ (Kd.R (Kd.int .i64) 3 w' w.heap.size (fun _ => True) s_ y143) ∧ (w'.heap[g0_]? = some (.cells #[.int .i64 a0_0, .int .i64 a0_1, .int .i64 a0_2, .int .i64 a0_3, .int .i64 a0_4, .int .i64 a0_5, .int .i64 a0_6, .int .i64 a0_7, .int .i64 a0_8, .int .i64 a0_9, .int .i64 a0_10, .int .i64 a0_11] 23 (0, 0))) ∧ (Below w.heap.size w w')) ?_ ?_
 rotate_left
 ·intro hCont
  refine two_ (i := 1) (j := 8) (Ni := some 8) (Nj := some 15) (bs 16 1199) (bs 16 1453) rfl rfl rfl rfl (two_of HT_.1 (by kernel_rfl)) (by decide) (by decide) (fun K hK => ?_) (fun K hK => ?_)
  ·skip
   refine goes_ Tryd.func69 (by kernel_rfl) rfl #[.agg #[.int .i64 a0_0, .int .i64 a0_1, .int .i64 a0_2, .int .i64 a0_3, .int .i64 a0_4, .int .i64 a0_5, .int .i64 a0_6, .int .i64 a0_7, .int .i64 a0_8, .int .i64 a0_9, .int .i64 a0_10, .int .i64 a0_11]] (by rfl) rfl rfl (by (try simp only [List.map_toArray, List.map_cons, List.map_nil]); first | done | rfl | (simp only [List.length_drop, List.length_take]; rfl)) ?_
   with_reducible refine (limit_Gate.calls k a0_0 a0_1 a0_2 a0_3 a0_4 a0_5 a0_6 a0_7 a0_8 a0_9 a0_10 a0_11 t140 _ A4.1).mono ?_
   rintro e w13 ⟨rfl, hb⟩
   refine ⟨_, rfl, ?_⟩
   replace B0_ := bb hb B0_.1
   replace HB := mk (below_step zq hb)
   (try clear hb)
   (try clear hb2)
   (try clear hk)
   (try clear hi)
   refine hK.out _ _ (c12 B0_.1) (fun hHeld => ?_)
   clear hK K
   refine nm 8 ?_
   refine two_ (i := 4) (j := 8) (Ni := some 11) (Nj := some 15) (bs 16 1215) (bs 16 1455) rfl rfl rfl rfl (two_of HT_.1 (by kernel_rfl)) (by decide) (by decide) (fun K hK => ?_) (fun K hK => ?_)
   ·skip
    refine goes_ Tryd.func54 (by kernel_rfl) rfl #[.int .i64 2, .int .i64 a0_4] (by rfl) rfl rfl (by (try simp only [List.map_toArray, List.map_cons, List.map_nil]); first | done | rfl | (simp only [List.length_drop, List.length_take]; rfl)) ?_
    with_reducible refine (sat_Mul.calls k 2 a0_4 t141 _ A5.1).mono ?_
    rintro e w' ⟨rfl, ⟨nd, rfl⟩⟩
    refine ⟨_, rfl, ?_⟩
    refine hK.out _ _ (c12 B0_.1) (fun hHeld => ?_)
    clear hK K
    refine nm 11 ?_
    refine two_ (i := 6) (j := 8) (Ni := some 13) (Nj := some 15) (bs 16 1279) (bs 16 1471) rfl rfl rfl rfl (two_of HT_.1 (by kernel_rfl)) (by decide) (by decide) (fun K hK => ?_) (fun K hK => ?_)
    ·skip
     refine goes_ Tryd.func54 (by kernel_rfl) rfl #[.int .i64 t141, .int .i64 a1] (by rfl) rfl rfl (by (try simp only [List.map_toArray, List.map_cons, List.map_nil]); first | done | rfl | (simp only [List.length_drop, List.length_take]; rfl)) ?_
     with_reducible refine (sat_Mul.calls k t141 a1 t142 _ A6.1).mono ?_
     rintro e w' ⟨rfl, ⟨nd, rfl⟩⟩
     refine ⟨_, rfl, ?_⟩
     refine hK.out _ _ (c12 B0_.1) (fun hHeld => ?_)
     clear hK K
     refine nm 13 ?_
     refine one_ (i := 8) (N := some 15) (bs 16 1535) rfl rfl (one_of HT_.1 (by kernel_rfl)) (by decide) (fun K hK => ?_)
     refine Kd.R_lit_step (Kd.int .i64) _ 3 ?hg (N := 15) ?hd (xs := ([a2, 1] : List Int)) (inner := [.int .i64 a2, .int .i64 1]) (ok := fun _ => True) (okp := fun _ => True) ?hr ?hp (fun _ hk => hk) trivial (Below.refl _ _) (Nat.le_refl _) (by simp) ?_; (case hd => rfl); (case hg => rfl); (case hr => first | (go_simp; done) | (go_simp; rfl)); (case hp => exact (Reps.one (show Kd.M (Kd.int .i64) _ _ _ a2 [.int .i64 a2] from rfl) (Reps.one (show Kd.M (Kd.int .i64) _ _ _ 1 [.int .i64 1] from rfl) (Reps.none _ _))))
     intro v144 w14 ho15 hb hg_ hnew_
     clear hg_ hnew_
     (first | rw [← Ny143.1] at ho15 | (simp only [Int.reduceToNat] at ho15; rw [← Ny143.1] at ho15))
     have HO145 := mk (Kd.R_lower ho15 (below_size zq))
     have n1_ := bb hb B0_.1
     have n2_ := mk (below_step zq hb)
     clear B0_ HB
     have B0_ := n1_
     have HB := n2_
     clear n1_ n2_ hb ho15
     refine hK.out _ _ (c12 B0_.1) (fun hHeld => ?_)
     clear hK K
     refine nm 15 ?_
     exact norm_ (by simp only [putAll, Act.put, zA, zB, zC]) (hCont (v144) _ ⟨hHeld, (by (with_reducible repeat (first | apply Kd.R_alloc | apply Kd.R_drewN | apply Kd.R_drew)); exact HO145.1), (by exact B0_.1), (by repeat (first | (with_reducible first | exact HB.1 | apply bA | apply pD | apply b1 | apply bS E0_.1) | exact HB.1))⟩)
    skip
    refine Kd.R_lit_step (Kd.int .i64) _ 3 ?hg (N := 15) ?hd (xs := ([a2, 1] : List Int)) (inner := [.int .i64 a2, .int .i64 1]) (ok := fun _ => True) (okp := fun _ => True) ?hr ?hp (fun _ hk => hk) trivial (Below.refl _ _) (Nat.le_refl _) (by simp) ?_; (case hd => rfl); (case hg => rfl); (case hr => first | (go_simp; done) | (go_simp; rfl)); (case hp => exact (Reps.one (show Kd.M (Kd.int .i64) _ _ _ a2 [.int .i64 a2] from rfl) (Reps.one (show Kd.M (Kd.int .i64) _ _ _ 1 [.int .i64 1] from rfl) (Reps.none _ _))))
    intro v144 w14 ho15 hb hg_ hnew_
    clear hg_ hnew_
    (first | rw [← Ny143.1] at ho15 | (simp only [Int.reduceToNat] at ho15; rw [← Ny143.1] at ho15))
    have HO145 := mk (Kd.R_lower ho15 (below_size zq))
    have n1_ := bb hb B0_.1
    have n2_ := mk (below_step zq hb)
    clear B0_ HB
    have B0_ := n1_
    have HB := n2_
    clear n1_ n2_ hb ho15
    refine hK.out _ _ (c12 B0_.1) (fun hHeld => ?_)
    clear hK K
    refine nm 15 ?_
    refine one_ (i := 6) (N := some 13) (bs 16 1535) rfl rfl (one_of HT_.1 (by kernel_rfl)) (by decide) (fun K hK => ?_)
    refine goes_ Tryd.func54 (by kernel_rfl) rfl #[.int .i64 t141, .int .i64 a1] (by rfl) rfl rfl (by (try simp only [List.map_toArray, List.map_cons, List.map_nil]); first | done | rfl | (simp only [List.length_drop, List.length_take]; rfl)) ?_
    with_reducible refine (sat_Mul.calls k t141 a1 t142 _ A6.1).mono ?_
    rintro e w' ⟨rfl, ⟨nd, rfl⟩⟩
    refine ⟨_, rfl, ?_⟩
    refine hK.out _ _ (c12 B0_.1) (fun hHeld => ?_)
    clear hK K
    refine nm 13 ?_
    exact norm_ (by simp only [putAll, Act.put, zA, zB, zC]) (hCont (v144) _ ⟨hHeld, (by (with_reducible repeat (first | apply Kd.R_alloc | apply Kd.R_drewN | apply Kd.R_drew)); exact HO145.1), (by exact B0_.1), (by repeat (first | (with_reducible first | exact HB.1 | apply bA | apply pD | apply b1 | apply bS E0_.1) | exact HB.1))⟩)
   skip
   refine Kd.R_lit_step (Kd.int .i64) _ 3 ?hg (N := 15) ?hd (xs := ([a2, 1] : List Int)) (inner := [.int .i64 a2, .int .i64 1]) (ok := fun _ => True) (okp := fun _ => True) ?hr ?hp (fun _ hk => hk) trivial (Below.refl _ _) (Nat.le_refl _) (by simp) ?_; (case hd => rfl); (case hg => rfl); (case hr => first | (go_simp; done) | (go_simp; rfl)); (case hp => exact (Reps.one (show Kd.M (Kd.int .i64) _ _ _ a2 [.int .i64 a2] from rfl) (Reps.one (show Kd.M (Kd.int .i64) _ _ _ 1 [.int .i64 1] from rfl) (Reps.none _ _))))
   intro v144 w14 ho15 hb hg_ hnew_
   clear hg_ hnew_
   (first | rw [← Ny143.1] at ho15 | (simp only [Int.reduceToNat] at ho15; rw [← Ny143.1] at ho15))
   have HO145 := mk (Kd.R_lower ho15 (below_size zq))
   have n1_ := bb hb B0_.1
   have n2_ := mk (below_step zq hb)
   clear B0_ HB
   have B0_ := n1_
   have HB := n2_
   clear n1_ n2_ hb ho15
   refine hK.out _ _ (c12 B0_.1) (fun hHeld => ?_)
   clear hK K
   refine nm 15 ?_
   refine one_ (i := 4) (N := some 11) (bs 16 1471) rfl rfl (one_of HT_.1 (by kernel_rfl)) (by decide) (fun K hK => ?_)
   refine goes_ Tryd.func54 (by kernel_rfl) rfl #[.int .i64 2, .int .i64 a0_4] (by rfl) rfl rfl (by (try simp only [List.map_toArray, List.map_cons, List.map_nil]); first | done | rfl | (simp only [List.length_drop, List.length_take]; rfl)) ?_
   with_reducible refine (sat_Mul.calls k 2 a0_4 t141 _ A5.1).mono ?_
   rintro e w' ⟨rfl, ⟨nd, rfl⟩⟩
   refine ⟨_, rfl, ?_⟩
   refine hK.out _ _ (c12 B0_.1) (fun hHeld => ?_)
   clear hK K
   refine nm 11 ?_
   refine one_ (i := 6) (N := some 13) (bs 16 1535) rfl rfl (one_of HT_.1 (by kernel_rfl)) (by decide) (fun K hK => ?_)
   refine goes_ Tryd.func54 (by kernel_rfl) rfl #[.int .i64 t141, .int .i64 a1] (by rfl) rfl rfl (by (try simp only [List.map_toArray, List.map_cons, List.map_nil]); first | done | rfl | (simp only [List.length_drop, List.length_take]; rfl)) ?_
   with_reducible refine (sat_Mul.calls k t141 a1 t142 _ A6.1).mono ?_
   rintro e w' ⟨rfl, ⟨nd, rfl⟩⟩
   refine ⟨_, rfl, ?_⟩
   refine hK.out _ _ (c12 B0_.1) (fun hHeld => ?_)
   clear hK K
   refine nm 13 ?_
   exact norm_ (by simp only [putAll, Act.put, zA, zB, zC]) (hCont (v144) _ ⟨hHeld, (by (with_reducible repeat (first | apply Kd.R_alloc | apply Kd.R_drewN | apply Kd.R_drew)); exact HO145.1), (by exact B0_.1), (by repeat (first | (with_reducible first | exact HB.1 | apply bA | apply pD | apply b1 | apply bS E0_.1) | exact HB.1))⟩)
  skip
  refine Kd.R_lit_step (Kd.int .i64) _ 3 ?hg (N := 15) ?hd (xs := ([a2, 1] : List Int)) (inner := [.int .i64 a2, .int .i64 1]) (ok := fun _ => True) (okp := fun _ => True) ?hr ?hp (fun _ hk => hk) trivial (Below.refl _ _) (Nat.le_refl _) (by simp) ?_; (case hd => rfl); (case hg => rfl); (case hr => first | (go_simp; done) | (go_simp; rfl)); (case hp => exact (Reps.one (show Kd.M (Kd.int .i64) _ _ _ a2 [.int .i64 a2] from rfl) (Reps.one (show Kd.M (Kd.int .i64) _ _ _ 1 [.int .i64 1] from rfl) (Reps.none _ _))))
  intro v144 w13 ho14 hb hg_ hnew_
  clear hg_ hnew_
  (first | rw [← Ny143.1] at ho14 | (simp only [Int.reduceToNat] at ho14; rw [← Ny143.1] at ho14))
  have HO145 := mk (Kd.R_lower ho14 (below_size zq))
  have n1_ := bb hb B0_.1
  have n2_ := mk (below_step zq hb)
  clear B0_ HB
  have B0_ := n1_
  have HB := n2_
  clear n1_ n2_ hb ho14
  refine hK.out _ _ (c12 B0_.1) (fun hHeld => ?_)
  clear hK K
  refine nm 15 ?_
  refine one_ (i := 1) (N := some 8) (bs 16 1455) rfl rfl (one_of HT_.1 (by kernel_rfl)) (by decide) (fun K hK => ?_)
  refine goes_ Tryd.func69 (by kernel_rfl) rfl #[.agg #[.int .i64 a0_0, .int .i64 a0_1, .int .i64 a0_2, .int .i64 a0_3, .int .i64 a0_4, .int .i64 a0_5, .int .i64 a0_6, .int .i64 a0_7, .int .i64 a0_8, .int .i64 a0_9, .int .i64 a0_10, .int .i64 a0_11]] (by rfl) rfl rfl (by (try simp only [List.map_toArray, List.map_cons, List.map_nil]); first | done | rfl | (simp only [List.length_drop, List.length_take]; rfl)) ?_
  with_reducible refine (limit_Gate.calls k a0_0 a0_1 a0_2 a0_3 a0_4 a0_5 a0_6 a0_7 a0_8 a0_9 a0_10 a0_11 t140 _ A4.1).mono ?_
  rintro e w15 ⟨rfl, hb⟩
  refine ⟨_, rfl, ?_⟩
  replace HO145 := mk (Kd.R_below (by (with_reducible repeat (first | apply Kd.R_alloc | apply Kd.R_drewN | apply Kd.R_drew)); exact HO145.1) hb)
  replace B0_ := bb hb B0_.1
  replace HB := mk (below_step zq hb)
  (try clear hb)
  (try clear hb2)
  (try clear hk)
  (try clear hi)
  refine hK.out _ _ (c12 B0_.1) (fun hHeld => ?_)
  clear hK K
  refine nm 8 ?_
  refine one_ (i := 4) (N := some 11) (bs 16 1471) rfl rfl (one_of HT_.1 (by kernel_rfl)) (by decide) (fun K hK => ?_)
  refine goes_ Tryd.func54 (by kernel_rfl) rfl #[.int .i64 2, .int .i64 a0_4] (by rfl) rfl rfl (by (try simp only [List.map_toArray, List.map_cons, List.map_nil]); first | done | rfl | (simp only [List.length_drop, List.length_take]; rfl)) ?_
  with_reducible refine (sat_Mul.calls k 2 a0_4 t141 _ A5.1).mono ?_
  rintro e w' ⟨rfl, ⟨nd, rfl⟩⟩
  refine ⟨_, rfl, ?_⟩
  refine hK.out _ _ (c12 B0_.1) (fun hHeld => ?_)
  clear hK K
  refine nm 11 ?_
  refine one_ (i := 6) (N := some 13) (bs 16 1535) rfl rfl (one_of HT_.1 (by kernel_rfl)) (by decide) (fun K hK => ?_)
  refine goes_ Tryd.func54 (by kernel_rfl) rfl #[.int .i64 t141, .int .i64 a1] (by rfl) rfl rfl (by (try simp only [List.map_toArray, List.map_cons, List.map_nil]); first | done | rfl | (simp only [List.length_drop, List.length_take]; rfl)) ?_
  with_reducible refine (sat_Mul.calls k t141 a1 t142 _ A6.1).mono ?_
  rintro e w' ⟨rfl, ⟨nd, rfl⟩⟩
  refine ⟨_, rfl, ?_⟩
  refine hK.out _ _ (c12 B0_.1) (fun hHeld => ?_)
  clear hK K
  refine nm 13 ?_
  exact norm_ (by simp only [putAll, Act.put, zA, zB, zC]) (hCont (v144) _ ⟨hHeld, (by (with_reducible repeat (first | apply Kd.R_alloc | apply Kd.R_drewN | apply Kd.R_drew)); exact HO145.1), (by exact B0_.1), (by repeat (first | (with_reducible first | exact HB.1 | apply bA | apply pD | apply b1 | apply bS E0_.1) | exact HB.1))⟩)
 rintro v144 w16 ⟨hS_, h0_, h1_, h2_⟩
 have HO145 : Aside0 (Kd.R (Kd.int .i64) 3 w16 w.heap.size (fun _ => True) v144 y143) := ⟨h0_⟩
 have n1_ : Aside0 (w16.heap[g0_]? = some (.cells #[.int .i64 a0_0, .int .i64 a0_1, .int .i64 a0_2, .int .i64 a0_3, .int .i64 a0_4, .int .i64 a0_5, .int .i64 a0_6, .int .i64 a0_7, .int .i64 a0_8, .int .i64 a0_9, .int .i64 a0_10, .int .i64 a0_11] 23 (0, 0))) := ⟨h1_⟩
 have n2_ : Aside0 (Below w.heap.size w w16) := ⟨h2_⟩
 clear B0_ HB h0_ h1_ h2_
 have B0_ := n1_
 have HB := n2_
 clear n1_ n2_
 have hHeld := hS_
 try dsimp only at hHeld
 obtain ⟨Ao17, co17, eo17⟩ := Kd.R_slice HO145.1
 (first | subst eo17 | (injection eo17 with f1_ f2_ f3_; have f4_ := f1_.symm; have f5_ := f3_.symm; clear f1_ f2_ f3_; subst f4_; subst f5_))
 refine norm_ (a' := ?_) ?_ ?_
 rotate_left
 ·simp only [putAll, Act.put, zA, zB, zC]
  rfl
 refine one_ (i := 9) (N := some 16) (bs 16 2047) rfl rfl (one_of HT_.1 (by kernel_rfl)) (by decide) (fun K hK => ?_)
 refine goes_ Tryd.func34 (by kernel_rfl) rfl #[.slice Ao17 y143.length co17] (by rfl) rfl rfl (by (try simp only [List.map_toArray, List.map_cons, List.map_nil]); first | done | rfl | (simp only [List.length_drop, List.length_take]; rfl)) ?_
 with_reducible refine (sat_Add.calls k _ _ y143 t146 _ ?side1 ?side2 A7.1).mono ?_
 (case side1 => repeat (first | exact (Kd.R_reads' HO145.1).2.2 | (with_reducible refine Kd.C_alloc ?_ _) | (with_reducible refine Kd.C_drewN ?_ _) | (with_reducible refine Kd.C_drew ?_)))
 (case side2 => exact (Kd.R_reads' HO145.1).2.1)
 rintro e w' ⟨rfl, ⟨nd, rfl⟩⟩
 refine ⟨_, rfl, ?_⟩
 refine hK.out _ _ (c12 B0_.1) (fun hHeld => ?_)
 clear hK K
 refine nm 16 ?_
 refine one_ (i := 11) (N := some 18) (bs 16 4095) rfl rfl (one_of HT_.1 (by kernel_rfl)) (by decide) (fun K hK => ?_)
 refine goes_ Tryd.func70 (by kernel_rfl) rfl #[.agg #[.int .i64 a0_0, .int .i64 a0_1, .int .i64 a0_2, .int .i64 a0_3, .int .i64 a0_4, .int .i64 a0_5, .int .i64 a0_6, .int .i64 a0_7, .int .i64 a0_8, .int .i64 a0_9, .int .i64 a0_10, .int .i64 a0_11]] (by rfl) rfl rfl (by (try simp only [List.map_toArray, List.map_cons, List.map_nil]); first | done | rfl | (simp only [List.length_drop, List.length_take]; rfl)) ?_
 with_reducible refine (limit_Hop.calls k a0_0 a0_1 a0_2 a0_3 a0_4 a0_5 a0_6 a0_7 a0_8 a0_9 a0_10 a0_11 t147 _ A8.1).mono ?_
 rintro e w18 ⟨rfl, hb⟩
 refine ⟨_, rfl, ?_⟩
 replace HO145 := mk (Kd.R_below (by (with_reducible repeat (first | apply Kd.R_alloc | apply Kd.R_drewN | apply Kd.R_drew)); exact HO145.1) hb)
 replace B0_ := bb hb B0_.1
 replace HB := mk (below_step zq hb)
 (try clear hb)
 (try clear hb2)
 (try clear hk)
 (try clear hi)
 refine hK.out _ _ (c12 B0_.1) (fun hHeld => ?_)
 clear hK K
 refine nm 18 ?_
 refine one_ (i := 12) (N := some 19) (bs 16 8191) rfl rfl (one_of HT_.1 (by kernel_rfl)) (by decide) (fun K hK => ?_)
 refine goes_ Tryd.func54 (by kernel_rfl) rfl #[.int .i64 t146, .int .i64 t147] (by rfl) rfl rfl (by (try simp only [List.map_toArray, List.map_cons, List.map_nil]); first | done | rfl | (simp only [List.length_drop, List.length_take]; rfl)) ?_
 with_reducible refine (sat_Mul.calls k t146 t147 t148 _ A9.1).mono ?_
 rintro e w' ⟨rfl, ⟨nd, rfl⟩⟩
 refine ⟨_, rfl, ?_⟩
 refine hK.out _ _ (c12 B0_.1) (fun hHeld => ?_)
 clear hK K
 refine nm 19 ?_
 refine one_ (i := 13) (N := some 20) (bs 16 16383) rfl rfl (one_of HT_.1 (by kernel_rfl)) (by decide) (fun K hK => ?_)
 refine Kd.R_lit_step (Kd.int .i64) _ 3 ?hg (N := 20) ?hd (xs := ([t140, t142, t148] : List Int)) (inner := [.int .i64 t140, .int .i64 t142, .int .i64 t148]) (ok := fun _ => True) (okp := fun _ => True) ?hr ?hp (fun _ hk => hk) trivial (Below.refl _ _) (Nat.le_refl _) (by simp) ?_; (case hd => rfl); (case hg => rfl); (case hr => first | (go_simp; done) | (go_simp; rfl)); (case hp => exact (Reps.one (show Kd.M (Kd.int .i64) _ _ _ t140 [.int .i64 t140] from rfl) (Reps.one (show Kd.M (Kd.int .i64) _ _ _ t142 [.int .i64 t142] from rfl) (Reps.one (show Kd.M (Kd.int .i64) _ _ _ t148 [.int .i64 t148] from rfl) (Reps.none _ _)))))
 intro v150 w19 ho20 hb hg_ hnew_
 clear hg_ hnew_
 (first | rw [← Ny149.1] at ho20 | (simp only [Int.reduceToNat] at ho20; rw [← Ny149.1] at ho20))
 have n0_ := mk (Kd.R_elder' (by (with_reducible repeat (first | apply Kd.R_alloc | apply Kd.R_drewN | apply Kd.R_drew)); exact HO145.1) (Kd.R_base ho20) hb)
 have HO151 := mk (Kd.R_lower (Kd.R_new' ho20 (Kd.R_lt (by (with_reducible repeat (first | apply Kd.R_alloc | apply Kd.R_drewN | apply Kd.R_drew)); exact HO145.1))) (below_size zq))
 have n2_ := bb hb B0_.1
 have n3_ := mk (below_step zq hb)
 clear HO145 B0_ HB
 have HO145 := n0_
 have B0_ := n2_
 have HB := n3_
 clear n0_ n2_ n3_ hb ho20
 obtain ⟨Ao21, co21, eo21⟩ := Kd.R_slice HO151.1
 (first | subst eo21 | (injection eo21 with f1_ f2_ f3_; have f4_ := f1_.symm; have f5_ := f3_.symm; clear f1_ f2_ f3_; subst f4_; subst f5_))
 refine hK.out _ _ (c12 B0_.1) (fun hHeld => ?_)
 clear hK K
 refine nm 20 ?_
 refine one_ (i := 14) (N := some 21) (bs 16 32767) rfl rfl (one_of HT_.1 (by kernel_rfl)) (by decide) (fun K hK => ?_)
 refine goes_ Tryd.func34 (by kernel_rfl) rfl #[.slice Ao21 y149.length co21] (by rfl) rfl rfl (by (try simp only [List.map_toArray, List.map_cons, List.map_nil]); first | done | rfl | (simp only [List.length_drop, List.length_take]; rfl)) ?_
 with_reducible refine (sat_Add.calls k _ _ y149 t152 _ ?side1 ?side2 A10.1).mono ?_
 (case side1 => repeat (first | exact (Kd.R_reads' HO151.1).2.2 | (with_reducible refine Kd.C_alloc ?_ _) | (with_reducible refine Kd.C_drewN ?_ _) | (with_reducible refine Kd.C_drew ?_)))
 (case side2 => exact (Kd.R_reads' HO151.1).2.1)
 rintro e w' ⟨rfl, ⟨nd, rfl⟩⟩
 refine ⟨_, rfl, ?_⟩
 refine hK.out _ _ (c12 B0_.1) (fun hHeld => ?_)
 clear hK K
 refine nm 21 ?_
 refine pt HT_ 15 6 65535 ?_
 refine done_ (done_of HT_.1 (by kernel_rfl)) ?_
 try go_wp2
 go_ret
 exact ⟨by first | rfl | (simp [errW_none, errW_some] <;> rfl) | (simp [*, errW_none, errW_some] <;> rfl), by repeat (first | (with_reducible first | exact HB.1 | apply bA | apply pD | apply b1 | apply bS E0_.1) | exact HB.1)⟩

end Go.Proofs.YtigkjbaclpklpaaDoor.Q
