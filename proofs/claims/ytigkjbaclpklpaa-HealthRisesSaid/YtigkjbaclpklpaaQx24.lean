/- The calls of these Go functions answer what the Lean functions beside them answer; written by a program (wip/pr2.py, out of the print of the loaded program); under no condition but those that stand in the theorems. -/
import Derived.Test.YtigkjbaclpklpaaQx0
import Derived.Test.YtigkjbaclpklpaaQx2
import Derived.Test.YtigkjbaclpklpaaQx5
import Derived.Test.YtigkjbaclpklpaaQx11
import Derived.Test.YtigkjbaclpklpaaQx13
import Derived.Test.YtigkjbaclpklpaaQx14
import Derived.Test.YtigkjbaclpklpaaQx23
namespace Go.Proofs.Ytigkjbaclpklpaa.Q
open Go.RowKit Go.Proofs.YtigkjbaclpklpaaW.PrintWords Go.Proofs.YtigkjbaclpklpaaW.PrintLast Go.Proofs.YtigkjbaclpklpaaW.PrintMore
attribute [local go_sem] max2_int min2_int max_two min_two max_three min_three max_four min_four   -- for this text's walks alone
set_option linter.unusedVariables false
set_option linter.unusedSimpArgs false

/-! Front.Stamp and Listen, by hand -/
attribute [local go_sem] hx.fl
set_option maxHeartbeats 8000000 in
set_option maxRecDepth 100000 in
theorem health_Front_Stamp.calls (k : Nat) (g : Nat) (p0 p1 p2 p3 p4 p5 p6 p7 p8 p9 p10 p11 : Int) (s0 s1 s2 : Int) (s3 : Bool) (s4 s5 : Int) (s6 : Bool) (sA : Option Addr) (sc : Nat) (sl : List S42) (s8 s9 s10 : Int) (a b : Int) (w : World) (hb : w.heap[g]? = some (.cells #[.int .i64 p0, .int .i64 p1, .int .i64 p2, .int .i64 p3, .int .i64 p4, .int .i64 p5, .int .i64 p6, .int .i64 p7, .int .i64 p8, .int .i64 p9, .int .i64 p10, .int .i64 p11, .int .i64 s0, .int .i64 s1, .int .i64 s2, .bool s3, .int .i64 s4, .int .i64 s5, .bool s6, .slice sA sl.length sc, .int .i64 s8, .int .i64 s9, .int .i64 s10] 39 (0, 0))) (h : hlc_Clock_Tick.f k s8 s9 s2 = some (a, b)) :
  Calls Try.prog 25 #[.pointer (some ⟨g, 0, none⟩)] w fun e w' => e = .returned (.tuple #[.agg #[.int .i64 a, .int .i64 b], .int .i64 0]) ∧ w.grownBy w' (some g) ∧ w'.heap[g]? = some (.cells #[.int .i64 p0, .int .i64 p1, .int .i64 p2, .int .i64 p3, .int .i64 p4, .int .i64 p5, .int .i64 p6, .int .i64 p7, .int .i64 p8, .int .i64 p9, .int .i64 p10, .int .i64 p11, .int .i64 s0, .int .i64 s1, .int .i64 s2, .bool s3, .int .i64 s4, .int .i64 s5, .bool s6, .slice sA sl.length sc, .int .i64 a, .int .i64 b, .int .i64 s10] 39 (0, 0)) := by
 have B_g := Aside0.mk hb
 have HF := Aside0.mk h
 clear hb h
 have HB := Aside0.mk (Below.refl w.heap.size w)
 go_enter Try.func25, Try.ntmps25
 go_upto_region 1 with (((with_reducible refine gate_dst (N := 2) rfl ?_); refine box_event ?hg (N := 2) ?hd (cs := #[.int .i64 0, .int .i64 0]) (t := 28) ?hr ?_; (case hd => rfl); (case hg => rfl); (case hr => first | (go_simp; done) | (go_simp; rfl)); intro q hg w1_ hbox hb; have N_g_q := nl hg B_g.out; have N_q_g := ng hg B_g.out; have E_q : Aside0 (w.heap.size ≤ q) := ⟨by rw [hg]; exact below_size HB.out⟩; have n0_ := Aside0.mk (blk_below B_g.out hb); have n1_ := Aside0.mk (below_step HB.out hb); clear B_g HB; have B_g := n0_; have HB := n1_; clear n0_ n1_; have B_q := Aside0.mk hbox; clear hb hbox hg))
 go_upto_region 3 with (fail)
 have n0_ := Aside0.mk (blk_drew B_g.out)
 have n1_ := Aside0.mk (blk_drew B_q.out)
 have n2_ := Aside0.mk (below_drew1 HB.out)
 clear B_g B_q HB
 have B_g := n0_
 have B_q := n1_
 have HB := n2_
 clear n0_ n1_ n2_
 refine start_ (n := 18) (S := fun w' => w'.heap[g]? = some (.cells #[.int .i64 p0, .int .i64 p1, .int .i64 p2, .int .i64 p3, .int .i64 p4, .int .i64 p5, .int .i64 p6, .int .i64 p7, .int .i64 p8, .int .i64 p9, .int .i64 p10, .int .i64 p11, .int .i64 s0, .int .i64 s1, .int .i64 s2, .bool s3, .int .i64 s4, .int .i64 s5, .bool s6, .slice sA sl.length sc, .int .i64 s8, .int .i64 s9, .int .i64 s10] 39 (0, 0))) (ds := [17]) (bs 18 0) (by kernel_rfl) rfl (by rfl) B_g.out (fun hHeld => ?_)
 generalize w1_.drew = w2_ at B_g B_q HB hHeld ⊢
 refine pure_ (i := 0) (N := some 7) (v := ?_) (a' := ?_) (bs 18 1) rfl rfl (by kernel_rfl) (fun _ _ _ h => h) (Or.inl ⟨by rfl, ?_⟩) ?_ ?_
 rotate_left
 ·intro w'
  go_simp
  with_reducible rfl
 rotate_left
 ·simp only [Act.put, List.setIfInBounds_toArray, List.set_cons_zero, List.set_cons_succ, i64_w, i32_w]
  rfl
 refine pure_ (i := 1) (N := some 8) (v := ?_) (a' := ?_) (bs 18 3) rfl rfl (by kernel_rfl) (fun _ _ _ h => h) (Or.inl ⟨by rfl, ?_⟩) ?_ ?_
 rotate_left
 ·intro w'
  go_simp
  with_reducible rfl
 rotate_left
 ·simp only [Act.put, List.setIfInBounds_toArray, List.set_cons_zero, List.set_cons_succ, i64_w, i32_w]
  rfl
 refine pure_ (i := 2) (N := some 9) (v := ?_) (a' := ?_) (bs 18 7) rfl rfl (by kernel_rfl) (fun _ _ _ h => h) (Or.inl ⟨by rfl, ?_⟩) ?_ ?_
 rotate_left
 ·intro w'
  go_simp
  with_reducible rfl
 rotate_left
 ·simp only [Act.put, List.setIfInBounds_toArray, List.set_cons_zero, List.set_cons_succ, i64_w, i32_w]
  rfl
 refine pure_ (i := 3) (N := some 10) (v := ?_) (a' := ?_) (bs 18 15) rfl rfl (by kernel_rfl) (fun _ _ _ h => h) (Or.inl ⟨by rfl, ?_⟩) ?_ ?_
 rotate_left
 ·intro w'
  go_simp
  with_reducible rfl
 rotate_left
 ·simp only [Act.put, List.setIfInBounds_toArray, List.set_cons_zero, List.set_cons_succ, i64_w, i32_w]
  rfl
 refine pure_ (i := 4) (N := some 11) (v := ?_) (a' := ?_) (bs 18 31) rfl rfl (by kernel_rfl) (fun _ _ _ h => h) (Or.inl ⟨by rfl, ?_⟩) ?_ ?_
 rotate_left
 ·intro w'
  go_simp
  with_reducible rfl
 rotate_left
 ·simp only [Act.put, List.setIfInBounds_toArray, List.set_cons_zero, List.set_cons_succ, i64_w, i32_w]
  rfl
 refine pure_ (i := 7) (N := some 14) (v := ?_) (a' := ?_) (bs 18 159) rfl rfl (by kernel_rfl) (fun _ _ _ h => h) (Or.inl ⟨by rfl, ?_⟩) ?_ ?_
 rotate_left
 ·intro w'
  go_simp
  with_reducible rfl
 rotate_left
 ·simp only [Act.put, List.setIfInBounds_toArray, List.set_cons_zero, List.set_cons_succ, i64_w, i32_w]
  rfl
 refine pure_ (i := 8) (N := some 15) (v := ?_) (a' := ?_) (bs 18 415) rfl rfl (by kernel_rfl) (fun _ _ _ h => h) (Or.inl ⟨by rfl, ?_⟩) ?_ ?_
 rotate_left
 ·intro w'
  go_simp
  with_reducible rfl
 rotate_left
 ·simp only [Act.put, List.setIfInBounds_toArray, List.set_cons_zero, List.set_cons_succ, i64_w, i32_w]
  rfl
 refine pure_ (i := 9) (N := some 16) (v := ?_) (a' := ?_) (bs 18 927) rfl rfl (by kernel_rfl) (fun _ _ _ h => h) (Or.inl ⟨by rfl, ?_⟩) ?_ ?_
 rotate_left
 ·intro w'
  go_simp
  with_reducible rfl
 rotate_left
 ·simp only [Act.put, List.setIfInBounds_toArray, List.set_cons_zero, List.set_cons_succ, i64_w, i32_w]
  rfl
 refine pure_ (i := 10) (N := some 17) (v := ?_) (a' := ?_) (bs 18 1951) rfl rfl (by kernel_rfl) (fun _ _ _ h => h) (Or.inl ⟨by rfl, ?_⟩) ?_ ?_
 rotate_left
 ·intro w'
  go_simp
  with_reducible rfl
 rotate_left
 ·simp only [Act.put, List.setIfInBounds_toArray, List.set_cons_zero, List.set_cons_succ, i64_w, i32_w]
  rfl
 refine take_ (i := 5) (N := some 12) (v := ?_) (a' := ?_) (bs 18 1983) rfl rfl (by kernel_rfl) (fun _ _ _ h => h) (Or.inl ⟨by rfl, ?_⟩) hHeld ?_ ?_
 rotate_left
 ·rintro w' s_g
  have c_20 : w'.cell? ⟨g, 20, none⟩ = some (.int .i64 s8) := (blk_cell s_g 20).trans rfl
  have c_21 : w'.cell? ⟨g, 21, none⟩ = some (.int .i64 s9) := (blk_cell s_g 21).trans rfl
  clear s_g
  go_simp
  with_reducible rfl
 rotate_left
 ·simp only [Act.put, List.setIfInBounds_toArray, List.set_cons_zero, List.set_cons_succ, i64_w, i32_w]
  rfl
 refine pure_ (i := 6) (N := some 13) (v := ?_) (a' := ?_) (bs 18 2047) rfl rfl (by kernel_rfl) (fun _ _ _ h => h) (Or.inl ⟨by rfl, ?_⟩) ?_ ?_
 rotate_left
 ·intro w'
  go_simp
  with_reducible rfl
 rotate_left
 ·simp only [Act.put, List.setIfInBounds_toArray, List.set_cons_zero, List.set_cons_succ, i64_w, i32_w]
  rfl
 refine take_ (i := 11) (N := some 18) (v := ?_) (a' := ?_) (bs 18 4095) rfl rfl (by kernel_rfl) (fun _ _ _ h => h) (Or.inl ⟨by rfl, ?_⟩) hHeld ?_ ?_
 rotate_left
 ·rintro w' s_g
  have c_14 : w'.cell? ⟨g, 14, none⟩ = some (.int .i64 s2) := (blk_cell s_g 14).trans rfl
  clear s_g
  go_simp
  with_reducible rfl
 rotate_left
 ·simp only [Act.put, List.setIfInBounds_toArray, List.set_cons_zero, List.set_cons_succ, i64_w, i32_w]
  rfl
 refine one_ (i := 12) (N := some 19) (bs 18 8191) rfl rfl (by kernel_rfl) (by decide) (fun K hK => ?_)
 refine goes_ Try.func54 (by kernel_rfl) rfl #[.agg #[.int .i64 s8, .int .i64 s9], .int .i64 s2] (by rfl) rfl rfl (by (try simp only [List.map_toArray, List.map_cons, List.map_nil]); first | done | rfl) ?_
 with_reducible refine (hlc_Clock_Tick.calls k s8 s9 s2 a b _ HF.out).mono ?_
 rintro e w3_ ⟨rfl, hb⟩
 have n0_ := Aside0.mk (blk_below B_g.out hb)
 have n1_ := Aside0.mk (blk_below B_q.out hb)
 have n2_ := Aside0.mk (below_step HB.out hb)
 clear B_g B_q HB
 have B_g := n0_
 have B_q := n1_
 have HB := n2_
 clear n0_ n1_ n2_
 clear hb
 refine ⟨_, rfl, ?_⟩
 refine hK.out _ _ B_g.out (fun hHeld => ?_)
 clear hK K
 refine norm_ (a' := ?_) ?_ ?_
 rotate_left
 ·show Act.put _ (some 19) _ = _
  simp only [Act.put, List.setIfInBounds_toArray, List.set_cons_zero, List.set_cons_succ, i64_w, i32_w]
  rfl
 refine pure_ (i := 13) (N := some 20) (v := ?_) (a' := ?_) (bs 18 16383) rfl rfl (by kernel_rfl) (fun _ _ _ h => h) (Or.inl ⟨by rfl, ?_⟩) ?_ ?_
 rotate_left
 ·intro w'
  go_simp
  with_reducible rfl
 rotate_left
 ·simp only [Act.put, List.setIfInBounds_toArray, List.set_cons_zero, List.set_cons_succ, i64_w, i32_w]
  rfl
 refine pure_ (i := 14) (N := some 21) (v := ?_) (a' := ?_) (bs 18 32767) rfl rfl (by kernel_rfl) (fun _ _ _ h => h) (Or.inl ⟨by rfl, ?_⟩) ?_ ?_
 rotate_left
 ·intro w'
  go_simp
  with_reducible rfl
 rotate_left
 ·simp only [Act.put, List.setIfInBounds_toArray, List.set_cons_zero, List.set_cons_succ, i64_w, i32_w]
  rfl
 refine pure_ (i := 15) (N := some 22) (v := ?_) (a' := ?_) (bs 18 65535) rfl rfl (by kernel_rfl) (fun _ _ _ h => h) (Or.inl ⟨by rfl, ?_⟩) ?_ ?_
 rotate_left
 ·intro w'
  go_simp
  with_reducible rfl
 rotate_left
 ·simp only [Act.put, List.setIfInBounds_toArray, List.set_cons_zero, List.set_cons_succ, i64_w, i32_w]
  rfl
 refine pure_ (i := 16) (N := some 23) (v := ?_) (a' := ?_) (bs 18 131071) rfl rfl (by kernel_rfl) (fun _ _ _ h => h) (Or.inl ⟨by rfl, ?_⟩) ?_ ?_
 rotate_left
 ·intro w'
  go_simp
  with_reducible rfl
 rotate_left
 ·simp only [Act.put, List.setIfInBounds_toArray, List.set_cons_zero, List.set_cons_succ, i64_w, i32_w]
  rfl
 refine last_ (i := 17) (N := none) (bs 18 262143) rfl rfl (by kernel_rfl) (by decide) (fun K hK => ?_)
 have hs_20 : w3_.cell? ⟨g, 20, none⟩ = some (.int .i64 s8) := (blk_cell B_g.out 20).trans rfl
 have hf_20 := blk_frozen B_g.out 20
 have hs_21 : w3_.cell? ⟨g, 21, none⟩ = some (.int .i64 s9) := (blk_cell B_g.out 21).trans rfl
 have hf_21 := blk_frozen B_g.out 21
 refine skip_ (w1 := ?_) (by rfl) rfl ?_ ?_
 rotate_left
 ·go_simp
  rfl
 refine hK.out _ _ ?_
 clear hK K hHeld hs_20 hf_20 hs_21 hf_21
 refine done_ (by kernel_rfl) ?_
 have n0_ : Aside0 (((w3_.setCell ⟨g, 20, none⟩ (.int .i64 a)).setCell ⟨g, 21, none⟩ (.int .i64 b)).heap[g]? = some (.cells #[.int .i64 p0, .int .i64 p1, .int .i64 p2, .int .i64 p3, .int .i64 p4, .int .i64 p5, .int .i64 p6, .int .i64 p7, .int .i64 p8, .int .i64 p9, .int .i64 p10, .int .i64 p11, .int .i64 s0, .int .i64 s1, .int .i64 s2, .bool s3, .int .i64 s4, .int .i64 s5, .bool s6, .slice sA sl.length sc, .int .i64 a, .int .i64 b, .int .i64 s10] 39 (0, 0))) := ⟨by have h_ := blk_set (blk_set (B_g.out) 20 (.int .i64 a)) 21 (.int .i64 b); simp only [List.setIfInBounds_toArray, List.set_cons_zero, List.set_cons_succ] at h_; exact h_⟩
 have n1_ : Aside0 (((w3_.setCell ⟨g, 20, none⟩ (.int .i64 a)).setCell ⟨g, 21, none⟩ (.int .i64 b)).heap[q]? = some (.cells #[.int .i64 0, .int .i64 0] 28 (0, 0))) := ⟨blk_far (blk_far (B_q.out) N_q_g.out _) N_q_g.out _⟩
 have n2_ : Aside0 (w.grownBy ((w3_.setCell ⟨g, 20, none⟩ (.int .i64 a)).setCell ⟨g, 21, none⟩ (.int .i64 b)) (some g)) := ⟨hx.gb_set (hx.gb_set ((grown_of_below HB.out (some g))))⟩
 clear B_g B_q HB
 have B_g := n0_
 have B_q := n1_
 have HG := n2_
 clear n0_ n1_ n2_
 generalize ((w3_.setCell ⟨g, 20, none⟩ (.int .i64 a)).setCell ⟨g, 21, none⟩ (.int .i64 b)) = w4_ at B_g B_q HG ⊢
 have hc_g_20 : w4_.cell? ⟨g, 20, none⟩ = some (.int .i64 a) := (blk_cell B_g.out 20).trans rfl
 have hc_g_21 : w4_.cell? ⟨g, 21, none⟩ = some (.int .i64 b) := (blk_cell B_g.out 21).trans rfl
 have hcf_q_0 := blk_frozen B_q.out 0
 have hc_q_0 : w4_.cell? ⟨q, 0, none⟩ = some (.int .i64 0) := (blk_cell B_q.out 0).trans rfl
 have hcf_q_1 := blk_frozen B_q.out 1
 have hc_q_1 : w4_.cell? ⟨q, 1, none⟩ = some (.int .i64 0) := (blk_cell B_q.out 1).trans rfl
 go_wp2_with (fail)
 clear hc_g_20 hc_g_21 hcf_q_0 hc_q_0 hcf_q_1 hc_q_1
 have n0_ : Aside0 (((w4_.setCell ⟨q, 0, none⟩ (.int .i64 a)).setCell ⟨q, 1, none⟩ (.int .i64 b)).heap[g]? = some (.cells #[.int .i64 p0, .int .i64 p1, .int .i64 p2, .int .i64 p3, .int .i64 p4, .int .i64 p5, .int .i64 p6, .int .i64 p7, .int .i64 p8, .int .i64 p9, .int .i64 p10, .int .i64 p11, .int .i64 s0, .int .i64 s1, .int .i64 s2, .bool s3, .int .i64 s4, .int .i64 s5, .bool s6, .slice sA sl.length sc, .int .i64 a, .int .i64 b, .int .i64 s10] 39 (0, 0))) := ⟨blk_far (blk_far (B_g.out) N_g_q.out _) N_g_q.out _⟩
 have n1_ : Aside0 (((w4_.setCell ⟨q, 0, none⟩ (.int .i64 a)).setCell ⟨q, 1, none⟩ (.int .i64 b)).heap[q]? = some (.cells #[.int .i64 a, .int .i64 b] 28 (0, 0))) := ⟨by have h_ := blk_set (blk_set (B_q.out) 0 (.int .i64 a)) 1 (.int .i64 b); simp only [List.setIfInBounds_toArray, List.set_cons_zero, List.set_cons_succ] at h_; exact h_⟩
 have n2_ : Aside0 (w.grownBy ((w4_.setCell ⟨q, 0, none⟩ (.int .i64 a)).setCell ⟨q, 1, none⟩ (.int .i64 b)) (some g)) := ⟨hx.gb_setl (hx.gb_setl (HG.out) E_q.out) E_q.out⟩
 clear B_g B_q HG
 have B_g := n0_
 have B_q := n1_
 have HG := n2_
 clear n0_ n1_ n2_
 generalize ((w4_.setCell ⟨q, 0, none⟩ (.int .i64 a)).setCell ⟨q, 1, none⟩ (.int .i64 b)) = w5_ at B_g B_q HG ⊢
 refine bodyPost_ret (results_ct rfl _ _ q 28 #[.int .i64 a, .int .i64 b] (0, 0) _ rfl B_q.out Try.underlying28 rfl (by kernel_rfl)) rfl ?_
 exact ⟨rfl, HG.out, B_g.out⟩

set_option maxHeartbeats 8000000 in
set_option maxRecDepth 100000 in
theorem health_Front_Listen.calls (k : Nat) (g : Nat) (p0 p1 p2 p3 p4 p5 p6 p7 p8 p9 p10 p11 : Int) (s0 s1 s2 : Int) (s3 : Bool) (s4 s5 : Int) (s6 : Bool) (sA : Option Addr) (sc : Nat) (sl : List S42) (s8 s9 s10 : Int) (x0 x1 f m a b : Int) (c : Bool) (w : World) (hb : w.heap[g]? = some (.cells #[.int .i64 p0, .int .i64 p1, .int .i64 p2, .int .i64 p3, .int .i64 p4, .int .i64 p5, .int .i64 p6, .int .i64 p7, .int .i64 p8, .int .i64 p9, .int .i64 p10, .int .i64 p11, .int .i64 s0, .int .i64 s1, .int .i64 s2, .bool s3, .int .i64 s4, .int .i64 s5, .bool s6, .slice sA sl.length sc, .int .i64 s8, .int .i64 s9, .int .i64 s10] 39 (0, 0))) (hf : health_Far.f k p0 p1 p2 p3 p4 p5 p6 p7 p8 p9 p10 p11 s4 = some f) (ha : sat_Add.f k [s1, f] = some m) (h : hlc_Clock_Hear.f k s8 s9 s2 x0 x1 m = some (a, b, c)) :
  Calls Try.prog 26 #[.pointer (some ⟨g, 0, none⟩), .agg #[.int .i64 x0, .int .i64 x1]] w fun e w' => e = .returned (.tuple #[]) ∧ w.grownBy w' (some g) ∧ w'.heap[g]? = some (.cells #[.int .i64 p0, .int .i64 p1, .int .i64 p2, .int .i64 p3, .int .i64 p4, .int .i64 p5, .int .i64 p6, .int .i64 p7, .int .i64 p8, .int .i64 p9, .int .i64 p10, .int .i64 p11, .int .i64 s0, .int .i64 s1, .int .i64 s2, .bool s3, .int .i64 s4, .int .i64 s5, .bool s6, .slice sA sl.length sc, .int .i64 a, .int .i64 b, .int .i64 s10] 39 (0, 0)) := by
 have B_g := Aside0.mk hb
 have HF := Aside0.mk hf
 have HA := Aside0.mk ha
 have HH := Aside0.mk h
 clear hb hf ha h
 have HB := Aside0.mk (Below.refl w.heap.size w)
 go_enter Try.func26, Try.ntmps26
 go_upto_region 1 with (((with_reducible refine gate_dst (N := 3) rfl ?_); refine box_event ?hg (N := 3) ?hd (cs := #[.int .i64 x0, .int .i64 x1]) (t := 28) ?hr ?_; (case hd => rfl); (case hg => rfl); (case hr => first | (go_simp; done) | (go_simp; rfl)); intro q hg w1_ hbox hb; have N_g_q := nl hg B_g.out; have N_q_g := ng hg B_g.out; have E_q : Aside0 (w.heap.size ≤ q) := ⟨by rw [hg]; exact below_size HB.out⟩; have n0_ := Aside0.mk (blk_below B_g.out hb); have n1_ := Aside0.mk (below_step HB.out hb); clear B_g HB; have B_g := n0_; have HB := n1_; clear n0_ n1_; have B_q := Aside0.mk hbox; clear hb hbox hg))
 go_upto_region 2 with (fail)
 have n0_ := Aside0.mk (blk_drew B_g.out)
 have n1_ := Aside0.mk (blk_drew B_q.out)
 have n2_ := Aside0.mk (below_drew1 HB.out)
 clear B_g B_q HB
 have B_g := n0_
 have B_q := n1_
 have HB := n2_
 clear n0_ n1_ n2_
 refine start_ (n := 21) (S := fun w' => w'.heap[g]? = some (.cells #[.int .i64 p0, .int .i64 p1, .int .i64 p2, .int .i64 p3, .int .i64 p4, .int .i64 p5, .int .i64 p6, .int .i64 p7, .int .i64 p8, .int .i64 p9, .int .i64 p10, .int .i64 p11, .int .i64 s0, .int .i64 s1, .int .i64 s2, .bool s3, .int .i64 s4, .int .i64 s5, .bool s6, .slice sA sl.length sc, .int .i64 s8, .int .i64 s9, .int .i64 s10] 39 (0, 0)) ∧ w'.heap[q]? = some (.cells #[.int .i64 x0, .int .i64 x1] 28 (0, 0))) (ds := []) (bs 21 0) (by kernel_rfl) rfl (by rfl) ⟨B_g.out, B_q.out⟩ (fun hHeld => ?_)
 generalize w1_.drew = w2_ at B_g B_q HB hHeld ⊢
 refine pure_ (i := 0) (N := some 9) (v := ?_) (a' := ?_) (bs 21 1) rfl rfl (by kernel_rfl) (fun _ _ _ h => h) (Or.inl ⟨by rfl, ?_⟩) ?_ ?_
 rotate_left
 ·intro w'
  go_simp
  with_reducible rfl
 rotate_left
 ·simp only [Act.put, List.setIfInBounds_toArray, List.set_cons_zero, List.set_cons_succ, i64_w, i32_w]
  rfl
 refine pure_ (i := 1) (N := some 10) (v := ?_) (a' := ?_) (bs 21 3) rfl rfl (by kernel_rfl) (fun _ _ _ h => h) (Or.inl ⟨by rfl, ?_⟩) ?_ ?_
 rotate_left
 ·intro w'
  go_simp
  with_reducible rfl
 rotate_left
 ·simp only [Act.put, List.setIfInBounds_toArray, List.set_cons_zero, List.set_cons_succ, i64_w, i32_w]
  rfl
 refine pure_ (i := 2) (N := some 11) (v := ?_) (a' := ?_) (bs 21 7) rfl rfl (by kernel_rfl) (fun _ _ _ h => h) (Or.inl ⟨by rfl, ?_⟩) ?_ ?_
 rotate_left
 ·intro w'
  go_simp
  with_reducible rfl
 rotate_left
 ·simp only [Act.put, List.setIfInBounds_toArray, List.set_cons_zero, List.set_cons_succ, i64_w, i32_w]
  rfl
 refine pure_ (i := 3) (N := some 12) (v := ?_) (a' := ?_) (bs 21 15) rfl rfl (by kernel_rfl) (fun _ _ _ h => h) (Or.inl ⟨by rfl, ?_⟩) ?_ ?_
 rotate_left
 ·intro w'
  go_simp
  with_reducible rfl
 rotate_left
 ·simp only [Act.put, List.setIfInBounds_toArray, List.set_cons_zero, List.set_cons_succ, i64_w, i32_w]
  rfl
 refine pure_ (i := 6) (N := some 15) (v := ?_) (a' := ?_) (bs 21 79) rfl rfl (by kernel_rfl) (fun _ _ _ h => h) (Or.inl ⟨by rfl, ?_⟩) ?_ ?_
 rotate_left
 ·intro w'
  go_simp
  with_reducible rfl
 rotate_left
 ·simp only [Act.put, List.setIfInBounds_toArray, List.set_cons_zero, List.set_cons_succ, i64_w, i32_w]
  rfl
 refine pure_ (i := 7) (N := some 16) (v := ?_) (a' := ?_) (bs 21 207) rfl rfl (by kernel_rfl) (fun _ _ _ h => h) (Or.inl ⟨by rfl, ?_⟩) ?_ ?_
 rotate_left
 ·intro w'
  go_simp
  with_reducible rfl
 rotate_left
 ·simp only [Act.put, List.setIfInBounds_toArray, List.set_cons_zero, List.set_cons_succ, i64_w, i32_w]
  rfl
 refine pure_ (i := 8) (N := some 17) (v := ?_) (a' := ?_) (bs 21 463) rfl rfl (by kernel_rfl) (fun _ _ _ h => h) (Or.inl ⟨by rfl, ?_⟩) ?_ ?_
 rotate_left
 ·intro w'
  go_simp
  with_reducible rfl
 rotate_left
 ·simp only [Act.put, List.setIfInBounds_toArray, List.set_cons_zero, List.set_cons_succ, i64_w, i32_w]
  rfl
 refine pure_ (i := 9) (N := some 18) (v := ?_) (a' := ?_) (bs 21 975) rfl rfl (by kernel_rfl) (fun _ _ _ h => h) (Or.inl ⟨by rfl, ?_⟩) ?_ ?_
 rotate_left
 ·intro w'
  go_simp
  with_reducible rfl
 rotate_left
 ·simp only [Act.put, List.setIfInBounds_toArray, List.set_cons_zero, List.set_cons_succ, i64_w, i32_w]
  rfl
 refine pure_ (i := 12) (N := some 21) (v := ?_) (a' := ?_) (bs 21 5071) rfl rfl (by kernel_rfl) (fun _ _ _ h => h) (Or.inl ⟨by rfl, ?_⟩) ?_ ?_
 rotate_left
 ·intro w'
  go_simp
  with_reducible rfl
 rotate_left
 ·simp only [Act.put, List.setIfInBounds_toArray, List.set_cons_zero, List.set_cons_succ, i64_w, i32_w]
  rfl
 refine take_ (i := 4) (N := some 13) (v := ?_) (a' := ?_) (bs 21 5087) rfl rfl (by kernel_rfl) (fun _ _ _ h => h) (Or.inl ⟨by rfl, ?_⟩) hHeld ?_ ?_
 rotate_left
 ·rintro w' ⟨s_g, s_q⟩
  have c_20 : w'.cell? ⟨g, 20, none⟩ = some (.int .i64 s8) := (blk_cell s_g 20).trans rfl
  have c_21 : w'.cell? ⟨g, 21, none⟩ = some (.int .i64 s9) := (blk_cell s_g 21).trans rfl
  clear s_g s_q
  go_simp
  with_reducible rfl
 rotate_left
 ·simp only [Act.put, List.setIfInBounds_toArray, List.set_cons_zero, List.set_cons_succ, i64_w, i32_w]
  rfl
 refine pure_ (i := 5) (N := some 14) (v := ?_) (a' := ?_) (bs 21 5119) rfl rfl (by kernel_rfl) (fun _ _ _ h => h) (Or.inl ⟨by rfl, ?_⟩) ?_ ?_
 rotate_left
 ·intro w'
  go_simp
  with_reducible rfl
 rotate_left
 ·simp only [Act.put, List.setIfInBounds_toArray, List.set_cons_zero, List.set_cons_succ, i64_w, i32_w]
  rfl
 refine take_ (i := 10) (N := some 19) (v := ?_) (a' := ?_) (bs 21 6143) rfl rfl (by kernel_rfl) (fun _ _ _ h => h) (Or.inl ⟨by rfl, ?_⟩) hHeld ?_ ?_
 rotate_left
 ·rintro w' ⟨s_g, s_q⟩
  have c_14 : w'.cell? ⟨g, 14, none⟩ = some (.int .i64 s2) := (blk_cell s_g 14).trans rfl
  clear s_g s_q
  go_simp
  with_reducible rfl
 rotate_left
 ·simp only [Act.put, List.setIfInBounds_toArray, List.set_cons_zero, List.set_cons_succ, i64_w, i32_w]
  rfl
 refine take_ (i := 11) (N := some 20) (v := ?_) (a' := ?_) (bs 21 8191) rfl rfl (by kernel_rfl) (fun _ _ _ h => h) (Or.inl ⟨by rfl, ?_⟩) hHeld ?_ ?_
 rotate_left
 ·rintro w' ⟨s_g, s_q⟩
  have c_0 : w'.cell? ⟨q, 0, none⟩ = some (.int .i64 x0) := (blk_cell s_q 0).trans rfl
  have c_1 : w'.cell? ⟨q, 1, none⟩ = some (.int .i64 x1) := (blk_cell s_q 1).trans rfl
  clear s_g s_q
  go_simp
  with_reducible rfl
 rotate_left
 ·simp only [Act.put, List.setIfInBounds_toArray, List.set_cons_zero, List.set_cons_succ, i64_w, i32_w]
  rfl
 refine join_ (σ := Nat) 2 (bs 21 524287) (fun s_ => [(4, .pointer (some ⟨s_, 0, none⟩)), (22, .int .i64 m), (23, .tuple #[.agg #[.int .i64 a, .int .i64 b], .bool c]), (8, .tuple #[.agg #[.int .i64 a, .int .i64 b], .bool c]), (24, .agg #[.int .i64 a, .int .i64 b]), (25, .bool c)]) (fun s_ w' => (w'.heap[g]? = some (.cells #[.int .i64 p0, .int .i64 p1, .int .i64 p2, .int .i64 p3, .int .i64 p4, .int .i64 p5, .int .i64 p6, .int .i64 p7, .int .i64 p8, .int .i64 p9, .int .i64 p10, .int .i64 p11, .int .i64 s0, .int .i64 s1, .int .i64 s2, .bool s3, .int .i64 s4, .int .i64 s5, .bool s6, .slice sA sl.length sc, .int .i64 s8, .int .i64 s9, .int .i64 s10] 39 (0, 0)) ∧ w'.heap[q]? = some (.cells #[.int .i64 x0, .int .i64 x1] 28 (0, 0))) ∧ (w'.heap[g]? = some (.cells #[.int .i64 p0, .int .i64 p1, .int .i64 p2, .int .i64 p3, .int .i64 p4, .int .i64 p5, .int .i64 p6, .int .i64 p7, .int .i64 p8, .int .i64 p9, .int .i64 p10, .int .i64 p11, .int .i64 s0, .int .i64 s1, .int .i64 s2, .bool s3, .int .i64 s4, .int .i64 s5, .bool s6, .slice sA sl.length sc, .int .i64 s8, .int .i64 s9, .int .i64 s10] 39 (0, 0))) ∧ (w'.heap[q]? = some (.cells #[.int .i64 x0, .int .i64 x1] 28 (0, 0))) ∧ (w'.heap[s_]? = some (.cells #[.int .i64 0, .int .i64 0] 78 (0, 0))) ∧ (Below w.heap.size w w') ∧ w.heap.size ≤ s_ ∧ g ≠ s_ ∧ s_ ≠ g ∧ q ≠ s_ ∧ s_ ≠ q) ?_ ?_
 rotate_left
 ·intro hCont
  refine two_ (i := 13) (j := 18) (Ni := some 22) (Nj := some 4) (bs 21 16383) (bs 21 270335) rfl rfl rfl rfl (by kernel_rfl) (by decide) (by decide) (fun K hK => ?_) (fun K hK => ?_)
  ·skip
   refine goes_ Try.func53 (by kernel_rfl) rfl #[.pointer (some ⟨g, 0, none⟩)] (by rfl) rfl rfl (by (try simp only [List.map_toArray, List.map_cons, List.map_nil]); first | done | rfl) ?_
   with_reducible refine (health_Front_most.calls k g p0 p1 p2 p3 p4 p5 p6 p7 p8 p9 p10 p11 s0 s1 s2 s3 s4 s5 s6 sA sc sl s8 s9 s10 f m _ B_g.out HF.out HA.out).mono ?_
   rintro e w3_ ⟨rfl, hb⟩
   have n0_ := Aside0.mk (blk_below B_g.out hb)
   have n1_ := Aside0.mk (blk_below B_q.out hb)
   have n2_ := Aside0.mk (below_step HB.out hb)
   clear B_g B_q HB
   have B_g := n0_
   have B_q := n1_
   have HB := n2_
   clear n0_ n1_ n2_
   clear hb
   refine ⟨_, rfl, ?_⟩
   refine hK.out _ _ ⟨B_g.out, B_q.out⟩ (fun hHeld => ?_)
   clear hK K
   refine norm_ (a' := ?_) ?_ ?_
   rotate_left
   ·show Act.put _ (some 22) _ = _
    simp only [Act.put, List.setIfInBounds_toArray, List.set_cons_zero, List.set_cons_succ, i64_w, i32_w]
    rfl
   refine two_ (i := 14) (j := 18) (Ni := some 23) (Nj := some 4) (bs 21 32767) (bs 21 278527) rfl rfl rfl rfl (by kernel_rfl) (by decide) (by decide) (fun K hK => ?_) (fun K hK => ?_)
   ·skip
    refine goes_ Try.func57 (by kernel_rfl) rfl #[.agg #[.int .i64 s8, .int .i64 s9], .int .i64 s2, .agg #[.int .i64 x0, .int .i64 x1], .int .i64 m] (by rfl) rfl rfl (by (try simp only [List.map_toArray, List.map_cons, List.map_nil]); first | done | rfl) ?_
    with_reducible refine (hlc_Clock_Hear.calls k s8 s9 s2 x0 x1 m a b c _ HH.out).mono ?_
    rintro e w4_ ⟨rfl, hb⟩
    have n0_ := Aside0.mk (blk_below B_g.out hb)
    have n1_ := Aside0.mk (blk_below B_q.out hb)
    have n2_ := Aside0.mk (below_step HB.out hb)
    clear B_g B_q HB
    have B_g := n0_
    have B_q := n1_
    have HB := n2_
    clear n0_ n1_ n2_
    clear hb
    refine ⟨_, rfl, ?_⟩
    refine hK.out _ _ ⟨B_g.out, B_q.out⟩ (fun hHeld => ?_)
    clear hK K
    refine norm_ (a' := ?_) ?_ ?_
    rotate_left
    ·show Act.put _ (some 23) _ = _
     simp only [Act.put, List.setIfInBounds_toArray, List.set_cons_zero, List.set_cons_succ, i64_w, i32_w]
     rfl
    refine pure_ (i := 15) (N := some 8) (v := ?_) (a' := ?_) (bs 21 65535) rfl rfl (by kernel_rfl) (fun _ _ _ h => h) (Or.inl ⟨by rfl, ?_⟩) ?_ ?_
    rotate_left
    ·intro w'
     go_simp
     with_reducible rfl
    rotate_left
    ·simp only [Act.put, List.setIfInBounds_toArray, List.set_cons_zero, List.set_cons_succ, i64_w, i32_w]
     rfl
    refine pure_ (i := 16) (N := some 24) (v := ?_) (a' := ?_) (bs 21 131071) rfl rfl (by kernel_rfl) (fun _ _ _ h => h) (Or.inl ⟨by rfl, ?_⟩) ?_ ?_
    rotate_left
    ·intro w'
     go_simp
     with_reducible rfl
    rotate_left
    ·simp only [Act.put, List.setIfInBounds_toArray, List.set_cons_zero, List.set_cons_succ, i64_w, i32_w]
     rfl
    refine pure_ (i := 17) (N := some 25) (v := ?_) (a' := ?_) (bs 21 262143) rfl rfl (by kernel_rfl) (fun _ _ _ h => h) (Or.inl ⟨by rfl, ?_⟩) ?_ ?_
    rotate_left
    ·intro w'
     go_simp
     with_reducible rfl
    rotate_left
    ·simp only [Act.put, List.setIfInBounds_toArray, List.set_cons_zero, List.set_cons_succ, i64_w, i32_w]
     rfl
    refine one_ (i := 18) (N := some 4) (bs 21 524287) rfl rfl (by kernel_rfl) (by decide) (fun K hK => ?_)
    refine box_step ?hg (N := 4) ?hd (cs := #[.int .i64 0, .int .i64 0]) (t := 78) ?hr ?_; (case hd => rfl); (case hg => rfl); (case hr => first | (go_simp; done) | (go_simp; rfl))
    intro q4 hg w5_ hbox hb
    have N_g_q4 := nl hg B_g.out
    have N_q_q4 := nl hg B_q.out
    have N_q4_g := ng hg B_g.out
    have N_q4_q := ng hg B_q.out
    have E_q4 : Aside0 (w.heap.size ≤ q4) := ⟨by rw [hg]; exact below_size HB.out⟩
    have n0_ := Aside0.mk (blk_below B_g.out hb)
    have n1_ := Aside0.mk (blk_below B_q.out hb)
    have n2_ := Aside0.mk (below_step HB.out hb)
    clear B_g B_q HB
    have B_g := n0_
    have B_q := n1_
    have HB := n2_
    clear n0_ n1_ n2_
    have B_q4 := Aside0.mk hbox
    clear hb hbox hg
    refine hK.out _ _ ⟨B_g.out, B_q.out⟩ (fun hHeld => ?_)
    clear hK K
    refine norm_ (a' := ?_) ?_ ?_
    rotate_left
    ·show Act.put _ (some 4) _ = _
     simp only [Act.put, List.setIfInBounds_toArray, List.set_cons_zero, List.set_cons_succ, i64_w, i32_w]
     rfl
    exact norm_ (by simp only [putAll, Act.put, List.setIfInBounds_toArray, List.set_cons_zero, List.set_cons_succ] <;> rfl) (hCont q4 _ ⟨hHeld, B_g.out, B_q.out, B_q4.out, HB.out, E_q4.out, N_g_q4.out, N_q4_g.out, N_q_q4.out, N_q4_q.out⟩)
   ·skip
    refine box_step ?hg (N := 4) ?hd (cs := #[.int .i64 0, .int .i64 0]) (t := 78) ?hr ?_; (case hd => rfl); (case hg => rfl); (case hr => first | (go_simp; done) | (go_simp; rfl))
    intro q4 hg w6_ hbox hb
    have N_g_q4 := nl hg B_g.out
    have N_q_q4 := nl hg B_q.out
    have N_q4_g := ng hg B_g.out
    have N_q4_q := ng hg B_q.out
    have E_q4 : Aside0 (w.heap.size ≤ q4) := ⟨by rw [hg]; exact below_size HB.out⟩
    have n0_ := Aside0.mk (blk_below B_g.out hb)
    have n1_ := Aside0.mk (blk_below B_q.out hb)
    have n2_ := Aside0.mk (below_step HB.out hb)
    clear B_g B_q HB
    have B_g := n0_
    have B_q := n1_
    have HB := n2_
    clear n0_ n1_ n2_
    have B_q4 := Aside0.mk hbox
    clear hb hbox hg
    refine hK.out _ _ ⟨B_g.out, B_q.out⟩ (fun hHeld => ?_)
    clear hK K
    refine norm_ (a' := ?_) ?_ ?_
    rotate_left
    ·show Act.put _ (some 4) _ = _
     simp only [Act.put, List.setIfInBounds_toArray, List.set_cons_zero, List.set_cons_succ, i64_w, i32_w]
     rfl
    refine one_ (i := 14) (N := some 23) (bs 21 294911) rfl rfl (by kernel_rfl) (by decide) (fun K hK => ?_)
    refine goes_ Try.func57 (by kernel_rfl) rfl #[.agg #[.int .i64 s8, .int .i64 s9], .int .i64 s2, .agg #[.int .i64 x0, .int .i64 x1], .int .i64 m] (by rfl) rfl rfl (by (try simp only [List.map_toArray, List.map_cons, List.map_nil]); first | done | rfl) ?_
    with_reducible refine (hlc_Clock_Hear.calls k s8 s9 s2 x0 x1 m a b c _ HH.out).mono ?_
    rintro e w7_ ⟨rfl, hb⟩
    have n0_ := Aside0.mk (blk_below B_g.out hb)
    have n1_ := Aside0.mk (blk_below B_q.out hb)
    have n2_ := Aside0.mk (blk_below B_q4.out hb)
    have n3_ := Aside0.mk (below_step HB.out hb)
    clear B_g B_q B_q4 HB
    have B_g := n0_
    have B_q := n1_
    have B_q4 := n2_
    have HB := n3_
    clear n0_ n1_ n2_ n3_
    clear hb
    refine ⟨_, rfl, ?_⟩
    refine hK.out _ _ ⟨B_g.out, B_q.out⟩ (fun hHeld => ?_)
    clear hK K
    refine norm_ (a' := ?_) ?_ ?_
    rotate_left
    ·show Act.put _ (some 23) _ = _
     simp only [Act.put, List.setIfInBounds_toArray, List.set_cons_zero, List.set_cons_succ, i64_w, i32_w]
     rfl
    refine pure_ (i := 15) (N := some 8) (v := ?_) (a' := ?_) (bs 21 327679) rfl rfl (by kernel_rfl) (fun _ _ _ h => h) (Or.inl ⟨by rfl, ?_⟩) ?_ ?_
    rotate_left
    ·intro w'
     go_simp
     with_reducible rfl
    rotate_left
    ·simp only [Act.put, List.setIfInBounds_toArray, List.set_cons_zero, List.set_cons_succ, i64_w, i32_w]
     rfl
    refine pure_ (i := 16) (N := some 24) (v := ?_) (a' := ?_) (bs 21 393215) rfl rfl (by kernel_rfl) (fun _ _ _ h => h) (Or.inl ⟨by rfl, ?_⟩) ?_ ?_
    rotate_left
    ·intro w'
     go_simp
     with_reducible rfl
    rotate_left
    ·simp only [Act.put, List.setIfInBounds_toArray, List.set_cons_zero, List.set_cons_succ, i64_w, i32_w]
     rfl
    refine pure_ (i := 17) (N := some 25) (v := ?_) (a' := ?_) (bs 21 524287) rfl rfl (by kernel_rfl) (fun _ _ _ h => h) (Or.inl ⟨by rfl, ?_⟩) ?_ ?_
    rotate_left
    ·intro w'
     go_simp
     with_reducible rfl
    rotate_left
    ·simp only [Act.put, List.setIfInBounds_toArray, List.set_cons_zero, List.set_cons_succ, i64_w, i32_w]
     rfl
    exact norm_ (by simp only [putAll, Act.put, List.setIfInBounds_toArray, List.set_cons_zero, List.set_cons_succ] <;> rfl) (hCont q4 _ ⟨hHeld, B_g.out, B_q.out, B_q4.out, HB.out, E_q4.out, N_g_q4.out, N_q4_g.out, N_q_q4.out, N_q4_q.out⟩)
  ·skip
   refine box_step ?hg (N := 4) ?hd (cs := #[.int .i64 0, .int .i64 0]) (t := 78) ?hr ?_; (case hd => rfl); (case hg => rfl); (case hr => first | (go_simp; done) | (go_simp; rfl))
   intro q4 hg w8_ hbox hb
   have N_g_q4 := nl hg B_g.out
   have N_q_q4 := nl hg B_q.out
   have N_q4_g := ng hg B_g.out
   have N_q4_q := ng hg B_q.out
   have E_q4 : Aside0 (w.heap.size ≤ q4) := ⟨by rw [hg]; exact below_size HB.out⟩
   have n0_ := Aside0.mk (blk_below B_g.out hb)
   have n1_ := Aside0.mk (blk_below B_q.out hb)
   have n2_ := Aside0.mk (below_step HB.out hb)
   clear B_g B_q HB
   have B_g := n0_
   have B_q := n1_
   have HB := n2_
   clear n0_ n1_ n2_
   have B_q4 := Aside0.mk hbox
   clear hb hbox hg
   refine hK.out _ _ ⟨B_g.out, B_q.out⟩ (fun hHeld => ?_)
   clear hK K
   refine norm_ (a' := ?_) ?_ ?_
   rotate_left
   ·show Act.put _ (some 4) _ = _
    simp only [Act.put, List.setIfInBounds_toArray, List.set_cons_zero, List.set_cons_succ, i64_w, i32_w]
    rfl
   refine one_ (i := 13) (N := some 22) (bs 21 278527) rfl rfl (by kernel_rfl) (by decide) (fun K hK => ?_)
   refine goes_ Try.func53 (by kernel_rfl) rfl #[.pointer (some ⟨g, 0, none⟩)] (by rfl) rfl rfl (by (try simp only [List.map_toArray, List.map_cons, List.map_nil]); first | done | rfl) ?_
   with_reducible refine (health_Front_most.calls k g p0 p1 p2 p3 p4 p5 p6 p7 p8 p9 p10 p11 s0 s1 s2 s3 s4 s5 s6 sA sc sl s8 s9 s10 f m _ B_g.out HF.out HA.out).mono ?_
   rintro e w9_ ⟨rfl, hb⟩
   have n0_ := Aside0.mk (blk_below B_g.out hb)
   have n1_ := Aside0.mk (blk_below B_q.out hb)
   have n2_ := Aside0.mk (blk_below B_q4.out hb)
   have n3_ := Aside0.mk (below_step HB.out hb)
   clear B_g B_q B_q4 HB
   have B_g := n0_
   have B_q := n1_
   have B_q4 := n2_
   have HB := n3_
   clear n0_ n1_ n2_ n3_
   clear hb
   refine ⟨_, rfl, ?_⟩
   refine hK.out _ _ ⟨B_g.out, B_q.out⟩ (fun hHeld => ?_)
   clear hK K
   refine norm_ (a' := ?_) ?_ ?_
   rotate_left
   ·show Act.put _ (some 22) _ = _
    simp only [Act.put, List.setIfInBounds_toArray, List.set_cons_zero, List.set_cons_succ, i64_w, i32_w]
    rfl
   refine one_ (i := 14) (N := some 23) (bs 21 294911) rfl rfl (by kernel_rfl) (by decide) (fun K hK => ?_)
   refine goes_ Try.func57 (by kernel_rfl) rfl #[.agg #[.int .i64 s8, .int .i64 s9], .int .i64 s2, .agg #[.int .i64 x0, .int .i64 x1], .int .i64 m] (by rfl) rfl rfl (by (try simp only [List.map_toArray, List.map_cons, List.map_nil]); first | done | rfl) ?_
   with_reducible refine (hlc_Clock_Hear.calls k s8 s9 s2 x0 x1 m a b c _ HH.out).mono ?_
   rintro e w10_ ⟨rfl, hb⟩
   have n0_ := Aside0.mk (blk_below B_g.out hb)
   have n1_ := Aside0.mk (blk_below B_q.out hb)
   have n2_ := Aside0.mk (blk_below B_q4.out hb)
   have n3_ := Aside0.mk (below_step HB.out hb)
   clear B_g B_q B_q4 HB
   have B_g := n0_
   have B_q := n1_
   have B_q4 := n2_
   have HB := n3_
   clear n0_ n1_ n2_ n3_
   clear hb
   refine ⟨_, rfl, ?_⟩
   refine hK.out _ _ ⟨B_g.out, B_q.out⟩ (fun hHeld => ?_)
   clear hK K
   refine norm_ (a' := ?_) ?_ ?_
   rotate_left
   ·show Act.put _ (some 23) _ = _
    simp only [Act.put, List.setIfInBounds_toArray, List.set_cons_zero, List.set_cons_succ, i64_w, i32_w]
    rfl
   refine pure_ (i := 15) (N := some 8) (v := ?_) (a' := ?_) (bs 21 327679) rfl rfl (by kernel_rfl) (fun _ _ _ h => h) (Or.inl ⟨by rfl, ?_⟩) ?_ ?_
   rotate_left
   ·intro w'
    go_simp
    with_reducible rfl
   rotate_left
   ·simp only [Act.put, List.setIfInBounds_toArray, List.set_cons_zero, List.set_cons_succ, i64_w, i32_w]
    rfl
   refine pure_ (i := 16) (N := some 24) (v := ?_) (a' := ?_) (bs 21 393215) rfl rfl (by kernel_rfl) (fun _ _ _ h => h) (Or.inl ⟨by rfl, ?_⟩) ?_ ?_
   rotate_left
   ·intro w'
    go_simp
    with_reducible rfl
   rotate_left
   ·simp only [Act.put, List.setIfInBounds_toArray, List.set_cons_zero, List.set_cons_succ, i64_w, i32_w]
    rfl
   refine pure_ (i := 17) (N := some 25) (v := ?_) (a' := ?_) (bs 21 524287) rfl rfl (by kernel_rfl) (fun _ _ _ h => h) (Or.inl ⟨by rfl, ?_⟩) ?_ ?_
   rotate_left
   ·intro w'
    go_simp
    with_reducible rfl
   rotate_left
   ·simp only [Act.put, List.setIfInBounds_toArray, List.set_cons_zero, List.set_cons_succ, i64_w, i32_w]
    rfl
   exact norm_ (by simp only [putAll, Act.put, List.setIfInBounds_toArray, List.set_cons_zero, List.set_cons_succ] <;> rfl) (hCont q4 _ ⟨hHeld, B_g.out, B_q.out, B_q4.out, HB.out, E_q4.out, N_g_q4.out, N_q4_g.out, N_q_q4.out, N_q4_q.out⟩)
 rintro q4 w11_ ⟨hS_, h0_, h1_, h2_, h3_, hE_, hN0_, hM0_, hN1_, hM1_⟩
 clear B_g B_q HB
 have B_g : Aside0 (w11_.heap[g]? = some (.cells #[.int .i64 p0, .int .i64 p1, .int .i64 p2, .int .i64 p3, .int .i64 p4, .int .i64 p5, .int .i64 p6, .int .i64 p7, .int .i64 p8, .int .i64 p9, .int .i64 p10, .int .i64 p11, .int .i64 s0, .int .i64 s1, .int .i64 s2, .bool s3, .int .i64 s4, .int .i64 s5, .bool s6, .slice sA sl.length sc, .int .i64 s8, .int .i64 s9, .int .i64 s10] 39 (0, 0))) := ⟨h0_⟩
 have B_q : Aside0 (w11_.heap[q]? = some (.cells #[.int .i64 x0, .int .i64 x1] 28 (0, 0))) := ⟨h1_⟩
 have B_q4 : Aside0 (w11_.heap[q4]? = some (.cells #[.int .i64 0, .int .i64 0] 78 (0, 0))) := ⟨h2_⟩
 have HB : Aside0 (Below w.heap.size w w11_) := ⟨h3_⟩
 have E_q4 := Aside0.mk hE_
 have N_g_q4 := Aside0.mk hN0_
 have N_q4_g := Aside0.mk hM0_
 have N_q_q4 := Aside0.mk hN1_
 have N_q4_q := Aside0.mk hM1_
 clear h0_ h1_ h2_ h3_ hE_ hN0_ hM0_ hN1_ hM1_
 have hHeld := hS_
 try dsimp only at hHeld
 clear hS_
 refine norm_ (a' := ?_) ?_ ?_
 rotate_left
 ·simp only [putAll, Act.put, List.setIfInBounds_toArray, List.set_cons_zero, List.set_cons_succ]
  rfl
 refine one_ (i := 19) (N := none) (bs 21 1048575) rfl rfl (by kernel_rfl) (by decide) (fun K hK => ?_)
 have hs_0 : w11_.cell? ⟨q4, 0, none⟩ = some (.int .i64 0) := (blk_cell B_q4.out 0).trans rfl
 have hf_0 := blk_frozen B_q4.out 0
 have hs_1 : w11_.cell? ⟨q4, 1, none⟩ = some (.int .i64 0) := (blk_cell B_q4.out 1).trans rfl
 have hf_1 := blk_frozen B_q4.out 1
 refine skip_ (w1 := ?_) (by rfl) rfl ?_ ?_
 rotate_left
 ·go_simp
  rfl
 have n0_ : Aside0 (((w11_.setCell ⟨q4, 0, none⟩ (.int .i64 a)).setCell ⟨q4, 1, none⟩ (.int .i64 b)).heap[g]? = some (.cells #[.int .i64 p0, .int .i64 p1, .int .i64 p2, .int .i64 p3, .int .i64 p4, .int .i64 p5, .int .i64 p6, .int .i64 p7, .int .i64 p8, .int .i64 p9, .int .i64 p10, .int .i64 p11, .int .i64 s0, .int .i64 s1, .int .i64 s2, .bool s3, .int .i64 s4, .int .i64 s5, .bool s6, .slice sA sl.length sc, .int .i64 s8, .int .i64 s9, .int .i64 s10] 39 (0, 0))) := ⟨blk_far (blk_far (B_g.out) N_g_q4.out _) N_g_q4.out _⟩
 have n1_ : Aside0 (((w11_.setCell ⟨q4, 0, none⟩ (.int .i64 a)).setCell ⟨q4, 1, none⟩ (.int .i64 b)).heap[q]? = some (.cells #[.int .i64 x0, .int .i64 x1] 28 (0, 0))) := ⟨blk_far (blk_far (B_q.out) N_q_q4.out _) N_q_q4.out _⟩
 have n2_ : Aside0 (((w11_.setCell ⟨q4, 0, none⟩ (.int .i64 a)).setCell ⟨q4, 1, none⟩ (.int .i64 b)).heap[q4]? = some (.cells #[.int .i64 a, .int .i64 b] 78 (0, 0))) := ⟨by have h_ := blk_set (blk_set (B_q4.out) 0 (.int .i64 a)) 1 (.int .i64 b); simp only [List.setIfInBounds_toArray, List.set_cons_zero, List.set_cons_succ] at h_; exact h_⟩
 have n3_ : Aside0 (Below w.heap.size w ((w11_.setCell ⟨q4, 0, none⟩ (.int .i64 a)).setCell ⟨q4, 1, none⟩ (.int .i64 b))) := ⟨below_set (below_set (HB.out) E_q4.out) E_q4.out⟩
 clear B_g B_q B_q4 HB
 have B_g := n0_
 have B_q := n1_
 have B_q4 := n2_
 have HB := n3_
 clear n0_ n1_ n2_ n3_
 refine hK.out _ _ ⟨B_g.out, B_q.out⟩ (fun hHeld => ?_)
 clear hK K hs_0 hf_0 hs_1 hf_1
 generalize ((w11_.setCell ⟨q4, 0, none⟩ (.int .i64 a)).setCell ⟨q4, 1, none⟩ (.int .i64 b)) = w12_ at B_g B_q B_q4 HB hHeld ⊢
 refine pure_ (i := 20) (N := some 5) (v := ?_) (a' := ?_) (bs 21 2097151) rfl rfl (by kernel_rfl) (fun _ _ _ h => h) (Or.inl ⟨by rfl, ?_⟩) ?_ ?_
 rotate_left
 ·intro w'
  go_simp
  with_reducible rfl
 rotate_left
 ·simp only [Act.put, List.setIfInBounds_toArray, List.set_cons_zero, List.set_cons_succ, i64_w, i32_w]
  rfl
 refine done_ (by kernel_rfl) ?_
 have hc_q4_0 : w12_.cell? ⟨q4, 0, none⟩ = some (.int .i64 a) := (blk_cell B_q4.out 0).trans rfl
 have hc_q4_1 : w12_.cell? ⟨q4, 1, none⟩ = some (.int .i64 b) := (blk_cell B_q4.out 1).trans rfl
 have hcf_g_20 := blk_frozen B_g.out 20
 have hc_g_20 : w12_.cell? ⟨g, 20, none⟩ = some (.int .i64 s8) := (blk_cell B_g.out 20).trans rfl
 have hcf_g_21 := blk_frozen B_g.out 21
 have hc_g_21 : w12_.cell? ⟨g, 21, none⟩ = some (.int .i64 s9) := (blk_cell B_g.out 21).trans rfl
 go_wp2_with (fail)
 clear hc_q4_0 hc_q4_1 hcf_g_20 hc_g_20 hcf_g_21 hc_g_21
 have n0_ : Aside0 (((w12_.setCell ⟨g, 20, none⟩ (.int .i64 a)).setCell ⟨g, 21, none⟩ (.int .i64 b)).heap[g]? = some (.cells #[.int .i64 p0, .int .i64 p1, .int .i64 p2, .int .i64 p3, .int .i64 p4, .int .i64 p5, .int .i64 p6, .int .i64 p7, .int .i64 p8, .int .i64 p9, .int .i64 p10, .int .i64 p11, .int .i64 s0, .int .i64 s1, .int .i64 s2, .bool s3, .int .i64 s4, .int .i64 s5, .bool s6, .slice sA sl.length sc, .int .i64 a, .int .i64 b, .int .i64 s10] 39 (0, 0))) := ⟨by have h_ := blk_set (blk_set (B_g.out) 20 (.int .i64 a)) 21 (.int .i64 b); simp only [List.setIfInBounds_toArray, List.set_cons_zero, List.set_cons_succ] at h_; exact h_⟩
 have n1_ : Aside0 (((w12_.setCell ⟨g, 20, none⟩ (.int .i64 a)).setCell ⟨g, 21, none⟩ (.int .i64 b)).heap[q]? = some (.cells #[.int .i64 x0, .int .i64 x1] 28 (0, 0))) := ⟨blk_far (blk_far (B_q.out) N_q_g.out _) N_q_g.out _⟩
 have n2_ : Aside0 (((w12_.setCell ⟨g, 20, none⟩ (.int .i64 a)).setCell ⟨g, 21, none⟩ (.int .i64 b)).heap[q4]? = some (.cells #[.int .i64 a, .int .i64 b] 78 (0, 0))) := ⟨blk_far (blk_far (B_q4.out) N_q4_g.out _) N_q4_g.out _⟩
 have n3_ : Aside0 (w.grownBy ((w12_.setCell ⟨g, 20, none⟩ (.int .i64 a)).setCell ⟨g, 21, none⟩ (.int .i64 b)) (some g)) := ⟨hx.gb_set (hx.gb_set ((grown_of_below HB.out (some g))))⟩
 clear B_g B_q B_q4 HB
 have B_g := n0_
 have B_q := n1_
 have B_q4 := n2_
 have HG := n3_
 clear n0_ n1_ n2_ n3_
 generalize ((w12_.setCell ⟨g, 20, none⟩ (.int .i64 a)).setCell ⟨g, 21, none⟩ (.int .i64 b)) = w13_ at B_g B_q B_q4 HG ⊢
 refine bodyPost_end (results_none rfl _ _ _) rfl ?_
 exact ⟨rfl, HG.out, B_g.out⟩

end Go.Proofs.Ytigkjbaclpklpaa.Q
