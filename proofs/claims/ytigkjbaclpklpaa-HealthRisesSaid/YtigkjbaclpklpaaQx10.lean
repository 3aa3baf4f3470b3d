/- The calls of these Go functions answer what the Lean functions beside them answer; written by a program (wip/pr2.py, out of the print of the loaded program); under no condition but those that stand in the theorems. -/
import Derived.Test.YtigkjbaclpklpaaQx0
import Derived.Test.YtigkjbaclpklpaaQx2
import Derived.Test.YtigkjbaclpklpaaQx8
import Derived.Test.YtigkjbaclpklpaaQx9
namespace Go.Proofs.Ytigkjbaclpklpaa.Q
open Go.RowKit Go.Proofs.YtigkjbaclpklpaaW.PrintWords Go.Proofs.YtigkjbaclpklpaaW.PrintLast Go.Proofs.YtigkjbaclpklpaaW.PrintMore
attribute [local go_sem] max2_int min2_int max_two min_two max_three min_three max_four min_four   -- for this text's walks alone
set_option linter.unusedVariables false
set_option linter.unusedSimpArgs false

/-! ### limit_Width: function 43 -/
def limit_Width.f (k : Nat) (a0_0 : Int) (a0_1 : Int) (a0_2 : Int) (a0_3 : Int) (a0_4 : Int) (a0_5 : Int) (a0_6 : Int) (a0_7 : Int) (a0_8 : Int) (a0_9 : Int) (a0_10 : Int) (a0_11 : Int) (a1 : Int) (a2 : Int) : Option (Int) := (limit_Gate.f k a0_0 a0_1 a0_2 a0_3 a0_4 a0_5 a0_6 a0_7 a0_8 a0_9 a0_10 a0_11).bind fun t145 => ((sat_Mul.f k 2 a0_4).bind fun t146 => ((sat_Mul.f k t146 a1).bind fun t147 => ((sat_Add.f k (([a2, 1] : List Int))).bind fun t151 => ((limit_Hop.f k a0_0 a0_1 a0_2 a0_3 a0_4 a0_5 a0_6 a0_7 a0_8 a0_9 a0_10 a0_11).bind fun t152 => ((sat_Mul.f k t151 t152).bind fun t153 => ((sat_Add.f k (([t145, t147, t153] : List Int))).bind fun t157 => (some t157)))))))
theorem limit_Width.mono : ∀ a0 a1 a2 a3 a4 a5 a6 a7 a8 a9 a10 a11 a12 a13 k, LeO (limit_Width.f k a0 a1 a2 a3 a4 a5 a6 a7 a8 a9 a10 a11 a12 a13) (limit_Width.f (k + 1) a0 a1 a2 a3 a4 a5 a6 a7 a8 a9 a10 a11 a12 a13) := by
 intro a0 a1 a2 a3 a4 a5 a6 a7 a8 a9 a10 a11 a12 a13 k
 unfold limit_Width.f
 repeat' first
   | (with_reducible exact limit_Gate.mono _ _ _ _ _ _ _ _ _ _ _ _ _)
   | (with_reducible exact limit_Hop.mono _ _ _ _ _ _ _ _ _ _ _ _ _)
   | (with_reducible exact sat_Add.mono _ _)
   | (with_reducible exact sat_Mul.mono _ _ _)
   | (with_reducible exact LeO.refl _)
   | (with_reducible exact LeO.none _)
   | (with_reducible refine LeO.ite ?_ ?_)
   | (with_reducible refine LeO.bind ?_ (fun _ => ?_))
   | exact limit_Gate.mono _ _ _ _ _ _ _ _ _ _ _ _ _
   | exact limit_Hop.mono _ _ _ _ _ _ _ _ _ _ _ _ _
   | exact sat_Add.mono _ _
   | exact sat_Mul.mono _ _ _
   | exact LeO.none _
   | refine LeO.ite ?_ ?_
   | refine LeO.bind ?_ (fun _ => ?_)
def limit_Width.T1 : Bool × List (List Nat × List Nat) := (true, [([], []), ([0], [0]), ([], []), ([2], [2]), ([3, 1], [3]), ([], []), ([4, 5, 4], [4, 5]), ([], []), ([7], [7]), ([8, 6], [8]), ([], []), ([10, 9], [10]), ([9, 11, 11], [9, 11]), ([1, 6, 12], [1, 6, 12]), ([13, 12], [13]), ([14, 14, 0, 1, 2, 3, 4, 5, 6, 7, 8, 9, 10, 11, 12, 13, 14], [14])])
def limit_Width.B1 : List Nat := [0, 1, 0, 4, 15, 0, 63, 0, 128, 511, 0, 2047, 4095, 8191, 16383, 32767]
theorem limit_Width.tab1 : rtab .any (opsOf Try.f43 1) = limit_Width.T1 := by kernel_rfl
theorem limit_Width.bits1 : waitsOk limit_Width.T1.2 limit_Width.B1 = true := by kernel_rfl
set_option maxHeartbeats 8000000 in
set_option maxRecDepth 100000 in
theorem limit_Width.calls (k : Nat) (a0_0 : Int) (a0_1 : Int) (a0_2 : Int) (a0_3 : Int) (a0_4 : Int) (a0_5 : Int) (a0_6 : Int) (a0_7 : Int) (a0_8 : Int) (a0_9 : Int) (a0_10 : Int) (a0_11 : Int) (a1 : Int) (a2 : Int) (r : Int) (w : World) (h : limit_Width.f k a0_0 a0_1 a0_2 a0_3 a0_4 a0_5 a0_6 a0_7 a0_8 a0_9 a0_10 a0_11 a1 a2 = some r) :
  Calls Try.prog 43 #[.agg #[.int .i64 a0_0, .int .i64 a0_1, .int .i64 a0_2, .int .i64 a0_3, .int .i64 a0_4, .int .i64 a0_5, .int .i64 a0_6, .int .i64 a0_7, .int .i64 a0_8, .int .i64 a0_9, .int .i64 a0_10, .int .i64 a0_11], .int .i64 a1, .int .i64 a2] w fun e w' => e = .returned (.int .i64 r) ∧ Below w.heap.size w w' := by
 have hu23 := Try.underlying23
 have HB := mk (Below.refl w.heap.size w)
 have H : ((limit_Gate.f k a0_0 a0_1 a0_2 a0_3 a0_4 a0_5 a0_6 a0_7 a0_8 a0_9 a0_10 a0_11).bind fun t145 => ((sat_Mul.f k 2 a0_4).bind fun t146 => ((sat_Mul.f k t146 a1).bind fun t147 => ((sat_Add.f k (([a2, 1] : List Int))).bind fun t151 => ((limit_Hop.f k a0_0 a0_1 a0_2 a0_3 a0_4 a0_5 a0_6 a0_7 a0_8 a0_9 a0_10 a0_11).bind fun t152 => ((sat_Mul.f k t151 t152).bind fun t153 => ((sat_Add.f k (([t145, t147, t153] : List Int))).bind fun t157 => (some t157)))))))) = some r := h
 clear h
 replace H := Option.bind_eq_some_iff.mp H
 obtain ⟨t145, A40, H⟩ := H
 replace H : ((sat_Mul.f k 2 a0_4).bind fun t146 => ((sat_Mul.f k t146 a1).bind fun t147 => ((sat_Add.f k (([a2, 1] : List Int))).bind fun t151 => ((limit_Hop.f k a0_0 a0_1 a0_2 a0_3 a0_4 a0_5 a0_6 a0_7 a0_8 a0_9 a0_10 a0_11).bind fun t152 => ((sat_Mul.f k t151 t152).bind fun t153 => ((sat_Add.f k (([t145, t147, t153] : List Int))).bind fun t157 => (some t157))))))) = some r := H
 have A4 := mk A40
 clear A40
 replace H := Option.bind_eq_some_iff.mp H
 obtain ⟨t146, A50, H⟩ := H
 replace H : ((sat_Mul.f k t146 a1).bind fun t147 => ((sat_Add.f k (([a2, 1] : List Int))).bind fun t151 => ((limit_Hop.f k a0_0 a0_1 a0_2 a0_3 a0_4 a0_5 a0_6 a0_7 a0_8 a0_9 a0_10 a0_11).bind fun t152 => ((sat_Mul.f k t151 t152).bind fun t153 => ((sat_Add.f k (([t145, t147, t153] : List Int))).bind fun t157 => (some t157)))))) = some r := H
 have A5 := mk A50
 clear A50
 replace H := Option.bind_eq_some_iff.mp H
 obtain ⟨t147, A60, H⟩ := H
 replace H : ((sat_Add.f k (([a2, 1] : List Int))).bind fun t151 => ((limit_Hop.f k a0_0 a0_1 a0_2 a0_3 a0_4 a0_5 a0_6 a0_7 a0_8 a0_9 a0_10 a0_11).bind fun t152 => ((sat_Mul.f k t151 t152).bind fun t153 => ((sat_Add.f k (([t145, t147, t153] : List Int))).bind fun t157 => (some t157))))) = some r := H
 have A6 := mk A60
 clear A60
 obtain ⟨y148, hy148⟩ : ∃ y_ : List Int, y_ = (([a2, 1] : List Int)) := ⟨_, rfl⟩
 replace H : ((sat_Add.f k y148).bind fun t151 => ((limit_Hop.f k a0_0 a0_1 a0_2 a0_3 a0_4 a0_5 a0_6 a0_7 a0_8 a0_9 a0_10 a0_11).bind fun t152 => ((sat_Mul.f k t151 t152).bind fun t153 => ((sat_Add.f k (([t145, t147, t153] : List Int))).bind fun t157 => (some t157))))) = some r := by first | (rw [hy148]; with_reducible exact H) | (have H2_ := (Option.bind_some _ _).symm.trans H; rw [hy148]; with_reducible exact H2_) | (have H2_ := (Option.bind_some _ _).symm.trans H; with_reducible exact H2_) | with_reducible exact H | (rw [hy148]; exact H) | exact H
 have Ny148 := mk hy148
 clear hy148
 replace H := Option.bind_eq_some_iff.mp H
 obtain ⟨t151, A70, H⟩ := H
 replace H : ((limit_Hop.f k a0_0 a0_1 a0_2 a0_3 a0_4 a0_5 a0_6 a0_7 a0_8 a0_9 a0_10 a0_11).bind fun t152 => ((sat_Mul.f k t151 t152).bind fun t153 => ((sat_Add.f k (([t145, t147, t153] : List Int))).bind fun t157 => (some t157)))) = some r := H
 have A7 := mk A70
 clear A70
 replace H := Option.bind_eq_some_iff.mp H
 obtain ⟨t152, A80, H⟩ := H
 replace H : ((sat_Mul.f k t151 t152).bind fun t153 => ((sat_Add.f k (([t145, t147, t153] : List Int))).bind fun t157 => (some t157))) = some r := H
 have A8 := mk A80
 clear A80
 replace H := Option.bind_eq_some_iff.mp H
 obtain ⟨t153, A90, H⟩ := H
 replace H : ((sat_Add.f k (([t145, t147, t153] : List Int))).bind fun t157 => (some t157)) = some r := H
 have A9 := mk A90
 clear A90
 obtain ⟨y154, hy154⟩ : ∃ y_ : List Int, y_ = (([t145, t147, t153] : List Int)) := ⟨_, rfl⟩
 replace H : ((sat_Add.f k y154).bind fun t157 => (some t157)) = some r := by first | (rw [hy154]; with_reducible exact H) | (have H2_ := (Option.bind_some _ _).symm.trans H; rw [hy154]; with_reducible exact H2_) | (have H2_ := (Option.bind_some _ _).symm.trans H; with_reducible exact H2_) | with_reducible exact H | (rw [hy154]; exact H) | exact H
 have Ny154 := mk hy154
 clear hy154
 replace H := Option.bind_eq_some_iff.mp H
 obtain ⟨t157, A100, H⟩ := H
 replace H : (some t157) = some r := H
 have A10 := mk A100
 clear A100
 obtain rfl := Option.some.inj H
 go_enter Try.func43, Try.ntmps43
 try go_wp2_with (first | ((with_reducible refine gate_dst (N := 3) rfl ?_); refine box_event ?hg (N := 3) ?hd (cs := #[.int .i64 a0_0, .int .i64 a0_1, .int .i64 a0_2, .int .i64 a0_3, .int .i64 a0_4, .int .i64 a0_5, .int .i64 a0_6, .int .i64 a0_7, .int .i64 a0_8, .int .i64 a0_9, .int .i64 a0_10, .int .i64 a0_11]) (t := 23) ?hr ?_; (case hd => rfl); (case hg => rfl); (case hr => first | (go_simp; done) | (go_simp; rfl)); intro g0_ hg w11 hbox hb; have n0_ := mk (below_step (by repeat first | exact HB.1 | apply pD | apply b1 | refine bT (by assumption) ?_ | apply bA) hb); have n1_ := mk (hbox); have n2_ := gl hg (by repeat first | exact HB.1 | apply pD | apply b1 | refine bT (by assumption) ?_ | apply bA); have n3_ := gl hg (by repeat first | exact HB.1 | apply pD | apply b1 | refine bT (by assumption) ?_ | apply bA); clear HB; have HB := n0_; have B0_ := n1_; have W0_ := n2_; have E0_ := n3_; clear n0_ n1_ n2_ n3_; clear hb hbox hg))
 have n0_ := mk (blk_drew B0_.1)
 have n1_ := mk (below_drew1 HB.1)
 clear B0_ HB
 have B0_ := n0_
 have HB := n1_
 clear n0_ n1_
 refine start_ (n := 16) (S := fun w' => w'.cell? ⟨g0_, 0, none⟩ = some (.int .i64 a0_0) ∧ w'.cell? ⟨g0_, 1, none⟩ = some (.int .i64 a0_1) ∧ w'.cell? ⟨g0_, 2, none⟩ = some (.int .i64 a0_2) ∧ w'.cell? ⟨g0_, 3, none⟩ = some (.int .i64 a0_3) ∧ w'.cell? ⟨g0_, 4, none⟩ = some (.int .i64 a0_4) ∧ w'.cell? ⟨g0_, 5, none⟩ = some (.int .i64 a0_5) ∧ w'.cell? ⟨g0_, 6, none⟩ = some (.int .i64 a0_6) ∧ w'.cell? ⟨g0_, 7, none⟩ = some (.int .i64 a0_7) ∧ w'.cell? ⟨g0_, 8, none⟩ = some (.int .i64 a0_8) ∧ w'.cell? ⟨g0_, 9, none⟩ = some (.int .i64 a0_9) ∧ w'.cell? ⟨g0_, 10, none⟩ = some (.int .i64 a0_10) ∧ w'.cell? ⟨g0_, 11, none⟩ = some (.int .i64 a0_11)) (ds := []) (bs 16 0) (by kernel_rfl) rfl rfl (c12 B0_.1) (fun hHeld => ?_); refine with_tabW limit_Width.tab1 limit_Width.bits1 (fun HT_ HW_ => ?_)
 generalize w11.drew = w12 at B0_ HB hHeld ⊢
 refine pure_ (i := 2) (N := some 9) (v := ?_) (a' := ?_) (bs 16 4) rfl rfl (any_of HT_.out (by kernel_rfl)) (fun _ _ _ h => h) (Or.inl ⟨by rfl, ?_⟩) ?_ ?_
 rotate_left
 ·intro w'
  go_simp
  with_reducible rfl
 rotate_left
 ·simp only [Act.put, List.setIfInBounds_toArray, List.set_cons_zero, List.set_cons_succ, i64_w, i32_w]
  rfl
 refine pure_ (i := 5) (N := some 12) (v := ?_) (a' := ?_) (bs 16 36) rfl rfl (any_of HT_.out (by kernel_rfl)) (fun _ _ _ h => h) (Or.inl ⟨by rfl, ?_⟩) ?_ ?_
 rotate_left
 ·intro w'
  go_simp
  with_reducible rfl
 rotate_left
 ·simp only [Act.put, List.setIfInBounds_toArray, List.set_cons_zero, List.set_cons_succ, i64_w, i32_w]
  rfl
 refine pure_ (i := 7) (N := some 14) (v := ?_) (a' := ?_) (bs 16 164) rfl rfl (any_of HT_.out (by kernel_rfl)) (fun _ _ _ h => h) (Or.inl ⟨by rfl, ?_⟩) ?_ ?_
 rotate_left
 ·intro w'
  go_simp
  with_reducible rfl
 rotate_left
 ·simp only [Act.put, List.setIfInBounds_toArray, List.set_cons_zero, List.set_cons_succ, i64_w, i32_w]
  rfl
 refine take_ (i := 0) (N := some 7) (v := ?_) (a' := ?_) (bs 16 165) rfl rfl (take_ofW HT_.out HW_.out (by kernel_rfl)) (fun _ _ _ h => h) (Or.inl ⟨by rfl, ?_⟩) hHeld ?_ ?_
 rotate_left
 ·rintro w' ⟨s0, s1, s2, s3, s4, s5, s6, s7, s8, s9, s10, s11⟩
  go_simp
  with_reducible rfl
 rotate_left
 ·simp only [Act.put, List.setIfInBounds_toArray, List.set_cons_zero, List.set_cons_succ, i64_w, i32_w]
  rfl
 refine take_ (i := 3) (N := some 10) (v := ?_) (a' := ?_) (bs 16 173) rfl rfl (take_ofW HT_.out HW_.out (by kernel_rfl)) (fun _ _ _ h => h) (Or.inl ⟨by rfl, ?_⟩) hHeld ?_ ?_
 rotate_left
 ·rintro w' ⟨s0, s1, s2, s3, s4, s5, s6, s7, s8, s9, s10, s11⟩
  go_simp
  with_reducible rfl
 rotate_left
 ·simp only [Act.put, List.setIfInBounds_toArray, List.set_cons_zero, List.set_cons_succ, i64_w, i32_w]
  rfl
 refine take_ (i := 10) (N := some 17) (v := ?_) (a' := ?_) (bs 16 1197) rfl rfl (take_ofW HT_.out HW_.out (by kernel_rfl)) (fun _ _ _ h => h) (Or.inl ⟨by rfl, ?_⟩) hHeld ?_ ?_
 rotate_left
 ·rintro w' ⟨s0, s1, s2, s3, s4, s5, s6, s7, s8, s9, s10, s11⟩
  go_simp
  with_reducible rfl
 rotate_left
 ·simp only [Act.put, List.setIfInBounds_toArray, List.set_cons_zero, List.set_cons_succ, i64_w, i32_w]
  rfl
 refine join_ (σ := Value) 6 (bs 16 1535) (fun s_ => [(8, .int .i64 t145), (11, .int .i64 t146), (13, .int .i64 t147), (15, s_)]) (fun s_ w' => (w'.cell? ⟨g0_, 0, none⟩ = some (.int .i64 a0_0) ∧ w'.cell? ⟨g0_, 1, none⟩ = some (.int .i64 a0_1) ∧ w'.cell? ⟨g0_, 2, none⟩ = some (.int .i64 a0_2) ∧ w'.cell? ⟨g0_, 3, none⟩ = some (.int .i64 a0_3) ∧ w'.cell? ⟨g0_, 4, none⟩ = some (.int .i64 a0_4) ∧ w'.cell? ⟨g0_, 5, none⟩ = some (.int .i64 a0_5) ∧ w'.cell? ⟨g0_, 6, none⟩ = some (.int .i64 a0_6) ∧ w'.cell? ⟨g0_, 7, none⟩ = some (.int .i64 a0_7) ∧ w'.cell? ⟨g0_, 8, none⟩ = some (.int .i64 a0_8) ∧ w'.cell? ⟨g0_, 9, none⟩ = some (.int .i64 a0_9) ∧ w'.cell? ⟨g0_, 10, none⟩ = some (.int .i64 a0_10) ∧ w'.cell? ⟨g0_, 11, none⟩ = some (.int .i64 a0_11)) ∧ (Kd.R (Kd.int .i64) 3 w' w.heap.size (fun _ => True) s_ y148) ∧ (w'.heap[g0_]? = some (.cells #[.int .i64 a0_0, .int .i64 a0_1, .int .i64 a0_2, .int .i64 a0_3, .int .i64 a0_4, .int .i64 a0_5, .int .i64 a0_6, .int .i64 a0_7, .int .i64 a0_8, .int .i64 a0_9, .int .i64 a0_10, .int .i64 a0_11] 23 (0, 0))) ∧ (Below w.heap.size w w')) ?_ ?_
 rotate_left
 ·intro hCont
  refine two_ (i := 1) (j := 8) (Ni := some 8) (Nj := some 15) (bs 16 1199) (bs 16 1453) rfl rfl rfl rfl (two_of HT_.out (by kernel_rfl)) (by decide) (by decide) (fun K hK => ?_) (fun K hK => ?_)
  ·skip
   refine goes_ Try.func62 (by kernel_rfl) rfl #[.agg #[.int .i64 a0_0, .int .i64 a0_1, .int .i64 a0_2, .int .i64 a0_3, .int .i64 a0_4, .int .i64 a0_5, .int .i64 a0_6, .int .i64 a0_7, .int .i64 a0_8, .int .i64 a0_9, .int .i64 a0_10, .int .i64 a0_11]] (by rfl) rfl rfl (by (try simp only [List.map_toArray, List.map_cons, List.map_nil]); first | done | rfl | (simp only [List.length_drop, List.length_take]; rfl)) ?_
   with_reducible refine (limit_Gate.calls k a0_0 a0_1 a0_2 a0_3 a0_4 a0_5 a0_6 a0_7 a0_8 a0_9 a0_10 a0_11 t145 _ A4.1).mono ?_
   rintro e w13 ⟨rfl, hb⟩
   refine ⟨_, rfl, ?_⟩
   have n0_ := bb hb B0_.1
   have n1_ := mk (below_step (by repeat first | exact HB.1 | apply pD | apply b1 | refine bT (by assumption) ?_ | apply bA) hb)
   clear B0_ HB
   have B0_ := n0_
   have HB := n1_
   clear n0_ n1_
   (try clear hb)
   (try clear hb2)
   (try clear hk)
   (try clear hi)
   refine hK.out _ _ (c12 B0_.1) (fun hHeld => ?_)
   clear hK K
   refine norm_ (a' := ?_) ?_ ?_
   rotate_left
   ·show Act.put _ (some 8) _ = _
    simp only [Act.put, List.setIfInBounds_toArray, List.set_cons_zero, List.set_cons_succ, i64_w, i32_w]
    rfl
   refine two_ (i := 4) (j := 8) (Ni := some 11) (Nj := some 15) (bs 16 1215) (bs 16 1455) rfl rfl rfl rfl (two_of HT_.out (by kernel_rfl)) (by decide) (by decide) (fun K hK => ?_) (fun K hK => ?_)
   ·skip
    refine goes_ Try.func42 (by kernel_rfl) rfl #[.int .i64 2, .int .i64 a0_4] (by rfl) rfl rfl (by (try simp only [List.map_toArray, List.map_cons, List.map_nil]); first | done | rfl | (simp only [List.length_drop, List.length_take]; rfl)) ?_
    with_reducible refine (sat_Mul.calls k 2 a0_4 t146 _ A5.1).mono ?_
    rintro e w' ⟨rfl, ⟨nd, rfl⟩⟩
    refine ⟨_, rfl, ?_⟩
    refine hK.out _ _ (c12 B0_.1) (fun hHeld => ?_)
    clear hK K
    refine norm_ (a' := ?_) ?_ ?_
    rotate_left
    ·show Act.put _ (some 11) _ = _
     simp only [Act.put, List.setIfInBounds_toArray, List.set_cons_zero, List.set_cons_succ, i64_w, i32_w]
     rfl
    refine two_ (i := 6) (j := 8) (Ni := some 13) (Nj := some 15) (bs 16 1279) (bs 16 1471) rfl rfl rfl rfl (two_of HT_.out (by kernel_rfl)) (by decide) (by decide) (fun K hK => ?_) (fun K hK => ?_)
    ·skip
     refine goes_ Try.func42 (by kernel_rfl) rfl #[.int .i64 t146, .int .i64 a1] (by rfl) rfl rfl (by (try simp only [List.map_toArray, List.map_cons, List.map_nil]); first | done | rfl | (simp only [List.length_drop, List.length_take]; rfl)) ?_
     with_reducible refine (sat_Mul.calls k t146 a1 t147 _ A6.1).mono ?_
     rintro e w' ⟨rfl, ⟨nd, rfl⟩⟩
     refine ⟨_, rfl, ?_⟩
     refine hK.out _ _ (c12 B0_.1) (fun hHeld => ?_)
     clear hK K
     refine norm_ (a' := ?_) ?_ ?_
     rotate_left
     ·show Act.put _ (some 13) _ = _
      simp only [Act.put, List.setIfInBounds_toArray, List.set_cons_zero, List.set_cons_succ, i64_w, i32_w]
      rfl
     refine one_ (i := 8) (N := some 15) (bs 16 1535) rfl rfl (one_of HT_.out (by kernel_rfl)) (by decide) (fun K hK => ?_)
     refine Kd.R_lit_step (Kd.int .i64) _ 3 ?hg (N := 15) ?hd (xs := ([a2, 1] : List Int)) (inner := [.int .i64 a2, .int .i64 1]) (ok := fun _ => True) (okp := fun _ => True) ?hr ?hp (fun _ hk => hk) trivial (Below.refl _ _) (Nat.le_refl _) (by simp) ?_; (case hd => rfl); (case hg => rfl); (case hr => first | (go_simp; done) | (go_simp; rfl)); (case hp => exact (Reps.one (show Kd.M (Kd.int .i64) _ _ _ a2 [.int .i64 a2] from rfl) (Reps.one (show Kd.M (Kd.int .i64) _ _ _ 1 [.int .i64 1] from rfl) (Reps.none _ _))))
     intro v149 w14 ho15 hb hg_ hnew_
     clear hg_ hnew_
     (first | rw [← Ny148.out] at ho15 | (simp only [Int.reduceToNat] at ho15; rw [← Ny148.out] at ho15))
     have HO150 := mk (Kd.R_lower ho15 (below_size (by repeat first | exact HB.1 | apply pD | apply b1 | refine bT (by assumption) ?_ | apply bA)))
     have n1_ := bb hb B0_.1
     have n2_ := mk (below_step (by repeat first | exact HB.1 | apply pD | apply b1 | refine bT (by assumption) ?_ | apply bA) hb)
     clear B0_ HB
     have B0_ := n1_
     have HB := n2_
     clear n1_ n2_ hb ho15
     refine hK.out _ _ (c12 B0_.1) (fun hHeld => ?_)
     clear hK K
     refine norm_ (a' := ?_) ?_ ?_
     rotate_left
     ·show Act.put _ (some 15) _ = _
      simp only [Act.put, List.setIfInBounds_toArray, List.set_cons_zero, List.set_cons_succ, i64_w, i32_w]
      rfl
     exact norm_ (by simp only [putAll, Act.put, List.setIfInBounds_toArray, List.set_cons_zero, List.set_cons_succ]) (hCont (v149) _ ⟨hHeld, (by (with_reducible repeat (first | apply Kd.R_alloc | apply Kd.R_drewN | apply Kd.R_drew)); exact HO150.1), (by exact B0_.1), (by repeat (first | (with_reducible first | exact HB.1 | apply bA | apply pD | apply b1 | apply bS E0_.1) | exact HB.1))⟩)
    skip
    refine Kd.R_lit_step (Kd.int .i64) _ 3 ?hg (N := 15) ?hd (xs := ([a2, 1] : List Int)) (inner := [.int .i64 a2, .int .i64 1]) (ok := fun _ => True) (okp := fun _ => True) ?hr ?hp (fun _ hk => hk) trivial (Below.refl _ _) (Nat.le_refl _) (by simp) ?_; (case hd => rfl); (case hg => rfl); (case hr => first | (go_simp; done) | (go_simp; rfl)); (case hp => exact (Reps.one (show Kd.M (Kd.int .i64) _ _ _ a2 [.int .i64 a2] from rfl) (Reps.one (show Kd.M (Kd.int .i64) _ _ _ 1 [.int .i64 1] from rfl) (Reps.none _ _))))
    intro v149 w14 ho15 hb hg_ hnew_
    clear hg_ hnew_
    (first | rw [← Ny148.out] at ho15 | (simp only [Int.reduceToNat] at ho15; rw [← Ny148.out] at ho15))
    have HO150 := mk (Kd.R_lower ho15 (below_size (by repeat first | exact HB.1 | apply pD | apply b1 | refine bT (by assumption) ?_ | apply bA)))
    have n1_ := bb hb B0_.1
    have n2_ := mk (below_step (by repeat first | exact HB.1 | apply pD | apply b1 | refine bT (by assumption) ?_ | apply bA) hb)
    clear B0_ HB
    have B0_ := n1_
    have HB := n2_
    clear n1_ n2_ hb ho15
    refine hK.out _ _ (c12 B0_.1) (fun hHeld => ?_)
    clear hK K
    refine norm_ (a' := ?_) ?_ ?_
    rotate_left
    ·show Act.put _ (some 15) _ = _
     simp only [Act.put, List.setIfInBounds_toArray, List.set_cons_zero, List.set_cons_succ, i64_w, i32_w]
     rfl
    refine one_ (i := 6) (N := some 13) (bs 16 1535) rfl rfl (one_of HT_.out (by kernel_rfl)) (by decide) (fun K hK => ?_)
    refine goes_ Try.func42 (by kernel_rfl) rfl #[.int .i64 t146, .int .i64 a1] (by rfl) rfl rfl (by (try simp only [List.map_toArray, List.map_cons, List.map_nil]); first | done | rfl | (simp only [List.length_drop, List.length_take]; rfl)) ?_
    with_reducible refine (sat_Mul.calls k t146 a1 t147 _ A6.1).mono ?_
    rintro e w' ⟨rfl, ⟨nd, rfl⟩⟩
    refine ⟨_, rfl, ?_⟩
    refine hK.out _ _ (c12 B0_.1) (fun hHeld => ?_)
    clear hK K
    refine norm_ (a' := ?_) ?_ ?_
    rotate_left
    ·show Act.put _ (some 13) _ = _
     simp only [Act.put, List.setIfInBounds_toArray, List.set_cons_zero, List.set_cons_succ, i64_w, i32_w]
     rfl
    exact norm_ (by simp only [putAll, Act.put, List.setIfInBounds_toArray, List.set_cons_zero, List.set_cons_succ]) (hCont (v149) _ ⟨hHeld, (by (with_reducible repeat (first | apply Kd.R_alloc | apply Kd.R_drewN | apply Kd.R_drew)); exact HO150.1), (by exact B0_.1), (by repeat (first | (with_reducible first | exact HB.1 | apply bA | apply pD | apply b1 | apply bS E0_.1) | exact HB.1))⟩)
   skip
   refine Kd.R_lit_step (Kd.int .i64) _ 3 ?hg (N := 15) ?hd (xs := ([a2, 1] : List Int)) (inner := [.int .i64 a2, .int .i64 1]) (ok := fun _ => True) (okp := fun _ => True) ?hr ?hp (fun _ hk => hk) trivial (Below.refl _ _) (Nat.le_refl _) (by simp) ?_; (case hd => rfl); (case hg => rfl); (case hr => first | (go_simp; done) | (go_simp; rfl)); (case hp => exact (Reps.one (show Kd.M (Kd.int .i64) _ _ _ a2 [.int .i64 a2] from rfl) (Reps.one (show Kd.M (Kd.int .i64) _ _ _ 1 [.int .i64 1] from rfl) (Reps.none _ _))))
   intro v149 w14 ho15 hb hg_ hnew_
   clear hg_ hnew_
   (first | rw [← Ny148.out] at ho15 | (simp only [Int.reduceToNat] at ho15; rw [← Ny148.out] at ho15))
   have HO150 := mk (Kd.R_lower ho15 (below_size (by repeat first | exact HB.1 | apply pD | apply b1 | refine bT (by assumption) ?_ | apply bA)))
   have n1_ := bb hb B0_.1
   have n2_ := mk (below_step (by repeat first | exact HB.1 | apply pD | apply b1 | refine bT (by assumption) ?_ | apply bA) hb)
   clear B0_ HB
   have B0_ := n1_
   have HB := n2_
   clear n1_ n2_ hb ho15
   refine hK.out _ _ (c12 B0_.1) (fun hHeld => ?_)
   clear hK K
   refine norm_ (a' := ?_) ?_ ?_
   rotate_left
   ·show Act.put _ (some 15) _ = _
    simp only [Act.put, List.setIfInBounds_toArray, List.set_cons_zero, List.set_cons_succ, i64_w, i32_w]
    rfl
   refine one_ (i := 4) (N := some 11) (bs 16 1471) rfl rfl (one_of HT_.out (by kernel_rfl)) (by decide) (fun K hK => ?_)
   refine goes_ Try.func42 (by kernel_rfl) rfl #[.int .i64 2, .int .i64 a0_4] (by rfl) rfl rfl (by (try simp only [List.map_toArray, List.map_cons, List.map_nil]); first | done | rfl | (simp only [List.length_drop, List.length_take]; rfl)) ?_
   with_reducible refine (sat_Mul.calls k 2 a0_4 t146 _ A5.1).mono ?_
   rintro e w' ⟨rfl, ⟨nd, rfl⟩⟩
   refine ⟨_, rfl, ?_⟩
   refine hK.out _ _ (c12 B0_.1) (fun hHeld => ?_)
   clear hK K
   refine norm_ (a' := ?_) ?_ ?_
   rotate_left
   ·show Act.put _ (some 11) _ = _
    simp only [Act.put, List.setIfInBounds_toArray, List.set_cons_zero, List.set_cons_succ, i64_w, i32_w]
    rfl
   refine one_ (i := 6) (N := some 13) (bs 16 1535) rfl rfl (one_of HT_.out (by kernel_rfl)) (by decide) (fun K hK => ?_)
   refine goes_ Try.func42 (by kernel_rfl) rfl #[.int .i64 t146, .int .i64 a1] (by rfl) rfl rfl (by (try simp only [List.map_toArray, List.map_cons, List.map_nil]); first | done | rfl | (simp only [List.length_drop, List.length_take]; rfl)) ?_
   with_reducible refine (sat_Mul.calls k t146 a1 t147 _ A6.1).mono ?_
   rintro e w' ⟨rfl, ⟨nd, rfl⟩⟩
   refine ⟨_, rfl, ?_⟩
   refine hK.out _ _ (c12 B0_.1) (fun hHeld => ?_)
   clear hK K
   refine norm_ (a' := ?_) ?_ ?_
   rotate_left
   ·show Act.put _ (some 13) _ = _
    simp only [Act.put, List.setIfInBounds_toArray, List.set_cons_zero, List.set_cons_succ, i64_w, i32_w]
    rfl
   exact norm_ (by simp only [putAll, Act.put, List.setIfInBounds_toArray, List.set_cons_zero, List.set_cons_succ]) (hCont (v149) _ ⟨hHeld, (by (with_reducible repeat (first | apply Kd.R_alloc | apply Kd.R_drewN | apply Kd.R_drew)); exact HO150.1), (by exact B0_.1), (by repeat (first | (with_reducible first | exact HB.1 | apply bA | apply pD | apply b1 | apply bS E0_.1) | exact HB.1))⟩)
  skip
  refine Kd.R_lit_step (Kd.int .i64) _ 3 ?hg (N := 15) ?hd (xs := ([a2, 1] : List Int)) (inner := [.int .i64 a2, .int .i64 1]) (ok := fun _ => True) (okp := fun _ => True) ?hr ?hp (fun _ hk => hk) trivial (Below.refl _ _) (Nat.le_refl _) (by simp) ?_; (case hd => rfl); (case hg => rfl); (case hr => first | (go_simp; done) | (go_simp; rfl)); (case hp => exact (Reps.one (show Kd.M (Kd.int .i64) _ _ _ a2 [.int .i64 a2] from rfl) (Reps.one (show Kd.M (Kd.int .i64) _ _ _ 1 [.int .i64 1] from rfl) (Reps.none _ _))))
  intro v149 w13 ho14 hb hg_ hnew_
  clear hg_ hnew_
  (first | rw [← Ny148.out] at ho14 | (simp only [Int.reduceToNat] at ho14; rw [← Ny148.out] at ho14))
  have HO150 := mk (Kd.R_lower ho14 (below_size (by repeat first | exact HB.1 | apply pD | apply b1 | refine bT (by assumption) ?_ | apply bA)))
  have n1_ := bb hb B0_.1
  have n2_ := mk (below_step (by repeat first | exact HB.1 | apply pD | apply b1 | refine bT (by assumption) ?_ | apply bA) hb)
  clear B0_ HB
  have B0_ := n1_
  have HB := n2_
  clear n1_ n2_ hb ho14
  refine hK.out _ _ (c12 B0_.1) (fun hHeld => ?_)
  clear hK K
  refine norm_ (a' := ?_) ?_ ?_
  rotate_left
  ·show Act.put _ (some 15) _ = _
   simp only [Act.put, List.setIfInBounds_toArray, List.set_cons_zero, List.set_cons_succ, i64_w, i32_w]
   rfl
  refine one_ (i := 1) (N := some 8) (bs 16 1455) rfl rfl (one_of HT_.out (by kernel_rfl)) (by decide) (fun K hK => ?_)
  refine goes_ Try.func62 (by kernel_rfl) rfl #[.agg #[.int .i64 a0_0, .int .i64 a0_1, .int .i64 a0_2, .int .i64 a0_3, .int .i64 a0_4, .int .i64 a0_5, .int .i64 a0_6, .int .i64 a0_7, .int .i64 a0_8, .int .i64 a0_9, .int .i64 a0_10, .int .i64 a0_11]] (by rfl) rfl rfl (by (try simp only [List.map_toArray, List.map_cons, List.map_nil]); first | done | rfl | (simp only [List.length_drop, List.length_take]; rfl)) ?_
  with_reducible refine (limit_Gate.calls k a0_0 a0_1 a0_2 a0_3 a0_4 a0_5 a0_6 a0_7 a0_8 a0_9 a0_10 a0_11 t145 _ A4.1).mono ?_
  rintro e w15 ⟨rfl, hb⟩
  refine ⟨_, rfl, ?_⟩
  have n0_ := mk (Kd.R_below (by (with_reducible repeat (first | apply Kd.R_alloc | apply Kd.R_drewN | apply Kd.R_drew)); exact HO150.1) hb)
  have n1_ := bb hb B0_.1
  have n2_ := mk (below_step (by repeat first | exact HB.1 | apply pD | apply b1 | refine bT (by assumption) ?_ | apply bA) hb)
  clear HO150 B0_ HB
  have HO150 := n0_
  have B0_ := n1_
  have HB := n2_
  clear n0_ n1_ n2_
  (try clear hb)
  (try clear hb2)
  (try clear hk)
  (try clear hi)
  refine hK.out _ _ (c12 B0_.1) (fun hHeld => ?_)
  clear hK K
  refine norm_ (a' := ?_) ?_ ?_
  rotate_left
  ·show Act.put _ (some 8) _ = _
   simp only [Act.put, List.setIfInBounds_toArray, List.set_cons_zero, List.set_cons_succ, i64_w, i32_w]
   rfl
  refine one_ (i := 4) (N := some 11) (bs 16 1471) rfl rfl (one_of HT_.out (by kernel_rfl)) (by decide) (fun K hK => ?_)
  refine goes_ Try.func42 (by kernel_rfl) rfl #[.int .i64 2, .int .i64 a0_4] (by rfl) rfl rfl (by (try simp only [List.map_toArray, List.map_cons, List.map_nil]); first | done | rfl | (simp only [List.length_drop, List.length_take]; rfl)) ?_
  with_reducible refine (sat_Mul.calls k 2 a0_4 t146 _ A5.1).mono ?_
  rintro e w' ⟨rfl, ⟨nd, rfl⟩⟩
  refine ⟨_, rfl, ?_⟩
  refine hK.out _ _ (c12 B0_.1) (fun hHeld => ?_)
  clear hK K
  refine norm_ (a' := ?_) ?_ ?_
  rotate_left
  ·show Act.put _ (some 11) _ = _
   simp only [Act.put, List.setIfInBounds_toArray, List.set_cons_zero, List.set_cons_succ, i64_w, i32_w]
   rfl
  refine one_ (i := 6) (N := some 13) (bs 16 1535) rfl rfl (one_of HT_.out (by kernel_rfl)) (by decide) (fun K hK => ?_)
  refine goes_ Try.func42 (by kernel_rfl) rfl #[.int .i64 t146, .int .i64 a1] (by rfl) rfl rfl (by (try simp only [List.map_toArray, List.map_cons, List.map_nil]); first | done | rfl | (simp only [List.length_drop, List.length_take]; rfl)) ?_
  with_reducible refine (sat_Mul.calls k t146 a1 t147 _ A6.1).mono ?_
  rintro e w' ⟨rfl, ⟨nd, rfl⟩⟩
  refine ⟨_, rfl, ?_⟩
  refine hK.out _ _ (c12 B0_.1) (fun hHeld => ?_)
  clear hK K
  refine norm_ (a' := ?_) ?_ ?_
  rotate_left
  ·show Act.put _ (some 13) _ = _
   simp only [Act.put, List.setIfInBounds_toArray, List.set_cons_zero, List.set_cons_succ, i64_w, i32_w]
   rfl
  exact norm_ (by simp only [putAll, Act.put, List.setIfInBounds_toArray, List.set_cons_zero, List.set_cons_succ]) (hCont (v149) _ ⟨hHeld, (by (with_reducible repeat (first | apply Kd.R_alloc | apply Kd.R_drewN | apply Kd.R_drew)); exact HO150.1), (by exact B0_.1), (by repeat (first | (with_reducible first | exact HB.1 | apply bA | apply pD | apply b1 | apply bS E0_.1) | exact HB.1))⟩)
 rintro v149 w16 ⟨hS_, h0_, h1_, h2_⟩
 have HO150 : Aside0 (Kd.R (Kd.int .i64) 3 w16 w.heap.size (fun _ => True) v149 y148) := ⟨h0_⟩
 have n1_ : Aside0 (w16.heap[g0_]? = some (.cells #[.int .i64 a0_0, .int .i64 a0_1, .int .i64 a0_2, .int .i64 a0_3, .int .i64 a0_4, .int .i64 a0_5, .int .i64 a0_6, .int .i64 a0_7, .int .i64 a0_8, .int .i64 a0_9, .int .i64 a0_10, .int .i64 a0_11] 23 (0, 0))) := ⟨h1_⟩
 have n2_ : Aside0 (Below w.heap.size w w16) := ⟨h2_⟩
 clear B0_ HB h0_ h1_ h2_
 have B0_ := n1_
 have HB := n2_
 clear n1_ n2_
 have hHeld := hS_
 try dsimp only at hHeld
 obtain ⟨Ao17, co17, eo17⟩ := Kd.R_slice HO150.1
 (first | subst eo17 | (injection eo17 with f1_ f2_ f3_; have f4_ := f1_.symm; have f5_ := f3_.symm; clear f1_ f2_ f3_; subst f4_; subst f5_))
 refine norm_ (a' := ?_) ?_ ?_
 rotate_left
 ·simp only [putAll, Act.put, List.setIfInBounds_toArray, List.set_cons_zero, List.set_cons_succ]
  rfl
 refine one_ (i := 9) (N := some 16) (bs 16 2047) rfl rfl (one_of HT_.out (by kernel_rfl)) (by decide) (fun K hK => ?_)
 refine goes_ Try.func33 (by kernel_rfl) rfl #[.slice Ao17 y148.length co17] (by rfl) rfl rfl (by (try simp only [List.map_toArray, List.map_cons, List.map_nil]); first | done | rfl | (simp only [List.length_drop, List.length_take]; rfl)) ?_
 with_reducible refine (sat_Add.calls k _ _ y148 t151 _ ?side1 ?side2 A7.1).mono ?_
 (case side1 => repeat (first | exact (Kd.R_reads' HO150.1).2.2 | (with_reducible refine Kd.C_alloc ?_ _) | (with_reducible refine Kd.C_drewN ?_ _) | (with_reducible refine Kd.C_drew ?_)))
 (case side2 => exact (Kd.R_reads' HO150.1).2.1)
 rintro e w' ⟨rfl, ⟨nd, rfl⟩⟩
 refine ⟨_, rfl, ?_⟩
 refine hK.out _ _ (c12 B0_.1) (fun hHeld => ?_)
 clear hK K
 refine norm_ (a' := ?_) ?_ ?_
 rotate_left
 ·show Act.put _ (some 16) _ = _
  simp only [Act.put, List.setIfInBounds_toArray, List.set_cons_zero, List.set_cons_succ, i64_w, i32_w]
  rfl
 refine one_ (i := 11) (N := some 18) (bs 16 4095) rfl rfl (one_of HT_.out (by kernel_rfl)) (by decide) (fun K hK => ?_)
 refine goes_ Try.func63 (by kernel_rfl) rfl #[.agg #[.int .i64 a0_0, .int .i64 a0_1, .int .i64 a0_2, .int .i64 a0_3, .int .i64 a0_4, .int .i64 a0_5, .int .i64 a0_6, .int .i64 a0_7, .int .i64 a0_8, .int .i64 a0_9, .int .i64 a0_10, .int .i64 a0_11]] (by rfl) rfl rfl (by (try simp only [List.map_toArray, List.map_cons, List.map_nil]); first | done | rfl | (simp only [List.length_drop, List.length_take]; rfl)) ?_
 with_reducible refine (limit_Hop.calls k a0_0 a0_1 a0_2 a0_3 a0_4 a0_5 a0_6 a0_7 a0_8 a0_9 a0_10 a0_11 t152 _ A8.1).mono ?_
 rintro e w18 ⟨rfl, hb⟩
 refine ⟨_, rfl, ?_⟩
 have n0_ := mk (Kd.R_below (by (with_reducible repeat (first | apply Kd.R_alloc | apply Kd.R_drewN | apply Kd.R_drew)); exact HO150.1) hb)
 have n1_ := bb hb B0_.1
 have n2_ := mk (below_step (by repeat first | exact HB.1 | apply pD | apply b1 | refine bT (by assumption) ?_ | apply bA) hb)
 clear HO150 B0_ HB
 have HO150 := n0_
 have B0_ := n1_
 have HB := n2_
 clear n0_ n1_ n2_
 (try clear hb)
 (try clear hb2)
 (try clear hk)
 (try clear hi)
 refine hK.out _ _ (c12 B0_.1) (fun hHeld => ?_)
 clear hK K
 refine norm_ (a' := ?_) ?_ ?_
 rotate_left
 ·show Act.put _ (some 18) _ = _
  simp only [Act.put, List.setIfInBounds_toArray, List.set_cons_zero, List.set_cons_succ, i64_w, i32_w]
  rfl
 refine one_ (i := 12) (N := some 19) (bs 16 8191) rfl rfl (one_of HT_.out (by kernel_rfl)) (by decide) (fun K hK => ?_)
 refine goes_ Try.func42 (by kernel_rfl) rfl #[.int .i64 t151, .int .i64 t152] (by rfl) rfl rfl (by (try simp only [List.map_toArray, List.map_cons, List.map_nil]); first | done | rfl | (simp only [List.length_drop, List.length_take]; rfl)) ?_
 with_reducible refine (sat_Mul.calls k t151 t152 t153 _ A9.1).mono ?_
 rintro e w' ⟨rfl, ⟨nd, rfl⟩⟩
 refine ⟨_, rfl, ?_⟩
 refine hK.out _ _ (c12 B0_.1) (fun hHeld => ?_)
 clear hK K
 refine norm_ (a' := ?_) ?_ ?_
 rotate_left
 ·show Act.put _ (some 19) _ = _
  simp only [Act.put, List.setIfInBounds_toArray, List.set_cons_zero, List.set_cons_succ, i64_w, i32_w]
  rfl
 refine one_ (i := 13) (N := some 20) (bs 16 16383) rfl rfl (one_of HT_.out (by kernel_rfl)) (by decide) (fun K hK => ?_)
 refine Kd.R_lit_step (Kd.int .i64) _ 3 ?hg (N := 20) ?hd (xs := ([t145, t147, t153] : List Int)) (inner := [.int .i64 t145, .int .i64 t147, .int .i64 t153]) (ok := fun _ => True) (okp := fun _ => True) ?hr ?hp (fun _ hk => hk) trivial (Below.refl _ _) (Nat.le_refl _) (by simp) ?_; (case hd => rfl); (case hg => rfl); (case hr => first | (go_simp; done) | (go_simp; rfl)); (case hp => exact (Reps.one (show Kd.M (Kd.int .i64) _ _ _ t145 [.int .i64 t145] from rfl) (Reps.one (show Kd.M (Kd.int .i64) _ _ _ t147 [.int .i64 t147] from rfl) (Reps.one (show Kd.M (Kd.int .i64) _ _ _ t153 [.int .i64 t153] from rfl) (Reps.none _ _)))))
 intro v155 w19 ho20 hb hg_ hnew_
 clear hg_ hnew_
 (first | rw [← Ny154.out] at ho20 | (simp only [Int.reduceToNat] at ho20; rw [← Ny154.out] at ho20))
 have n0_ := mk (Kd.R_elder' (by (with_reducible repeat (first | apply Kd.R_alloc | apply Kd.R_drewN | apply Kd.R_drew)); exact HO150.1) (Kd.R_base ho20) hb)
 have HO156 := mk (Kd.R_lower (Kd.R_new' ho20 (Kd.R_lt (by (with_reducible repeat (first | apply Kd.R_alloc | apply Kd.R_drewN | apply Kd.R_drew)); exact HO150.1))) (below_size (by repeat first | exact HB.1 | apply pD | apply b1 | refine bT (by assumption) ?_ | apply bA)))
 have n2_ := bb hb B0_.1
 have n3_ := mk (below_step (by repeat first | exact HB.1 | apply pD | apply b1 | refine bT (by assumption) ?_ | apply bA) hb)
 clear HO150 B0_ HB
 have HO150 := n0_
 have B0_ := n2_
 have HB := n3_
 clear n0_ n2_ n3_ hb ho20
 obtain ⟨Ao21, co21, eo21⟩ := Kd.R_slice HO156.1
 (first | subst eo21 | (injection eo21 with f1_ f2_ f3_; have f4_ := f1_.symm; have f5_ := f3_.symm; clear f1_ f2_ f3_; subst f4_; subst f5_))
 refine hK.out _ _ (c12 B0_.1) (fun hHeld => ?_)
 clear hK K
 refine norm_ (a' := ?_) ?_ ?_
 rotate_left
 ·show Act.put _ (some 20) _ = _
  simp only [Act.put, List.setIfInBounds_toArray, List.set_cons_zero, List.set_cons_succ, i64_w, i32_w]
  rfl
 refine one_ (i := 14) (N := some 21) (bs 16 32767) rfl rfl (one_of HT_.out (by kernel_rfl)) (by decide) (fun K hK => ?_)
 refine goes_ Try.func33 (by kernel_rfl) rfl #[.slice Ao21 y154.length co21] (by rfl) rfl rfl (by (try simp only [List.map_toArray, List.map_cons, List.map_nil]); first | done | rfl | (simp only [List.length_drop, List.length_take]; rfl)) ?_
 with_reducible refine (sat_Add.calls k _ _ y154 t157 _ ?side1 ?side2 A10.1).mono ?_
 (case side1 => repeat (first | exact (Kd.R_reads' HO156.1).2.2 | (with_reducible refine Kd.C_alloc ?_ _) | (with_reducible refine Kd.C_drewN ?_ _) | (with_reducible refine Kd.C_drew ?_)))
 (case side2 => exact (Kd.R_reads' HO156.1).2.1)
 rintro e w' ⟨rfl, ⟨nd, rfl⟩⟩
 refine ⟨_, rfl, ?_⟩
 refine hK.out _ _ (c12 B0_.1) (fun hHeld => ?_)
 clear hK K
 refine norm_ (a' := ?_) ?_ ?_
 rotate_left
 ·show Act.put _ (some 21) _ = _
  simp only [Act.put, List.setIfInBounds_toArray, List.set_cons_zero, List.set_cons_succ, i64_w, i32_w]
  rfl
 refine pure_ (i := 15) (N := some 6) (v := ?_) (a' := ?_) (bs 16 65535) rfl rfl (any_of HT_.out (by kernel_rfl)) (fun _ _ _ h => h) (Or.inl ⟨by rfl, ?_⟩) ?_ ?_
 rotate_left
 ·intro w'
  go_simp
  with_reducible rfl
 rotate_left
 ·simp only [Act.put, List.setIfInBounds_toArray, List.set_cons_zero, List.set_cons_succ, i64_w, i32_w]
  rfl
 refine done_ (done_of HT_.out (by kernel_rfl)) ?_
 try go_wp2
 go_ret
 exact ⟨by first | rfl | (simp [errW_none, errW_some] <;> rfl) | (simp [*, errW_none, errW_some] <;> rfl), by repeat (first | (with_reducible first | exact HB.1 | apply bA | apply pD | apply b1 | apply bS E0_.1) | exact HB.1)⟩

end Go.Proofs.Ytigkjbaclpklpaa.Q
