/- What a clock's methods answer on a nil receiver, and what Pulse and UTC answer: proofs by hand (generated in parts by my own program), step by step through the Go code; under the conditions that stand in each theorem. -/
import Derived.Test.YtigkjbaclpklpaaDoorQx0
import Derived.Test.YtigkjbaclpklpaaDoorQx4
import Derived.Test.YtigkjbaclpklpaaDoorQx9
import Derived.Test.YtigkjbaclpklpaaDoorQx12
import Derived.Test.YtigkjbaclpklpaaDoorQx15
import Derived.Test.YtigkjbaclpklpaaDoorQx16
import Derived.Test.YtigkjbaclpklpaaDoorQx17
import Derived.Test.YtigkjbaclpklpaaDoorQx20
import Derived.Test.YtigkjbaclpklpaaDoorQx26
import Derived.Test.YtigkjbaclpklpaaDoorQx27
namespace Go.Proofs.YtigkjbaclpklpaaDoor.Q
open Go.RowKit Go.Proofs.YtigkjbaclpklpaaDoorW.PrintWords Go.Proofs.YtigkjbaclpklpaaDoorW.PrintLast Go.Proofs.YtigkjbaclpklpaaDoorW.PrintMore
attribute [local go_sem] max2_int min2_int max_two min_two max_three min_three max_four min_four   -- for this text's walks alone
set_option linter.unusedVariables false
set_option linter.unusedSimpArgs false

/-! Front's methods on a nil receiver, by hand -/
attribute [local go_sem] hx.fl
set_option maxHeartbeats 8000000 in
set_option maxRecDepth 100000 in
theorem health_Front_Health.nil (w : World) :
  Calls Tryd.prog 13 #[.pointer none] w fun e w' => e = .returned (.int .i64 0) ∧ Below w.heap.size w w' := by
 have HB := Aside0.mk (Below.refl w.heap.size w)
 go_enter Tryd.func13, Tryd.ntmps13
 go_wp2_with (fail)
 go_ret
 exact ⟨rfl, HB.1⟩

set_option maxHeartbeats 8000000 in
set_option maxRecDepth 100000 in
theorem health_Front_synced.nil (w : World) :
  Calls Tryd.prog 19 #[.pointer none] w fun e w' => e = .returned (.int .i64 2) ∧ Below w.heap.size w w' := by
 have HB := Aside0.mk (Below.refl w.heap.size w)
 go_enter Tryd.func19, Tryd.ntmps19
 go_wp2_with (fail)
 go_ret
 exact ⟨rfl, HB.1⟩

set_option maxHeartbeats 8000000 in
set_option maxRecDepth 100000 in
theorem health_Front_Now.nil (w : World) :
  Calls Tryd.prog 7 #[.pointer none] w fun e w' => e = .returned (.tuple #[.int .i64 0, .int .i64 2]) ∧ Below w.heap.size w w' := by
 have HB := Aside0.mk (Below.refl w.heap.size w)
 go_enter Tryd.func7, Tryd.ntmps7
 go_upto_region 2 with ((go_at_call 19; (with_reducible refine (health_Front_synced.nil _).mono ?_); rintro e w1_ ⟨rfl, hb⟩; replace HB := Aside0.mk (below_step HB.1 hb); clear hb))
 go_wp2_with (fail)
 go_ret2
 exact ⟨rfl, HB.1⟩

set_option maxHeartbeats 8000000 in
set_option maxRecDepth 100000 in
theorem health_Front_Pulse.nil (w : World) :
  Calls Tryd.prog 11 #[.pointer none] w fun e w' => e = .returned (.tuple #[.int .i64 0, .int .i64 2]) ∧ Below w.heap.size w w' := by
 have HB := Aside0.mk (Below.refl w.heap.size w)
 go_enter Tryd.func11, Tryd.ntmps11
 go_upto_region 2 with ((go_at_call 19; (with_reducible refine (health_Front_synced.nil _).mono ?_); rintro e w1_ ⟨rfl, hb⟩; replace HB := Aside0.mk (below_step HB.1 hb); clear hb))
 go_wp2_with (fail)
 go_ret2
 exact ⟨rfl, HB.1⟩

set_option maxHeartbeats 8000000 in
set_option maxRecDepth 100000 in
theorem health_Front_Interval.nil (w : World) :
  Calls Tryd.prog 8 #[.pointer none] w fun e w' => e = .returned (.tuple #[.agg #[.int .i64 0, .int .i64 0], .int .i64 2]) ∧ Below w.heap.size w w' := by
 have HB := Aside0.mk (Below.refl w.heap.size w)
 go_enter Tryd.func8, Tryd.ntmps8
 go_upto_region 1 with (((with_reducible refine gate_dst (N := 2) rfl ?_); refine bx 2 #[.int .i64 0, .int .i64 0] 25 ?_; intro q hg w1_ hbox hb; have E_q : Aside0 (w.heap.size ≤ q) := ⟨by rw [hg]; exact below_size HB.1⟩; replace HB := Aside0.mk (below_step HB.1 hb); have B_q := Aside0.mk hbox; clear hb hbox hg))
 go_upto_region 2 with ((go_at_call 19; (with_reducible refine (health_Front_synced.nil _).mono ?_); rintro e w2_ ⟨rfl, hb⟩; replace B_q := bb hb B_q.1; replace HB := Aside0.mk (below_step HB.1 hb); clear hb))
 have hcf_q_0 := blk_frozen B_q.1 0
 have hc_q_0 : w2_.cell? ⟨q, 0, none⟩ = some (.int .i64 0) := (blk_cell B_q.1 0).trans rfl
 have hcf_q_1 := blk_frozen B_q.1 1
 have hc_q_1 : w2_.cell? ⟨q, 1, none⟩ = some (.int .i64 0) := (blk_cell B_q.1 1).trans rfl
 go_wp2_with (fail)
 clear hcf_q_0 hc_q_0 hcf_q_1 hc_q_1
 have n0_ : Aside0 (((w2_.setCell ⟨q, 0, none⟩ (.int .i64 0)).setCell ⟨q, 1, none⟩ (.int .i64 0)).heap[q]? = some (.cells #[.int .i64 0, .int .i64 0] 25 (0, 0))) := ⟨by have h_ := blk_set (blk_set (B_q.1) 0 (.int .i64 0)) 1 (.int .i64 0); simp only [List.setIfInBounds_toArray, List.set_cons_zero, List.set_cons_succ] at h_; exact h_⟩
 have n1_ : Aside0 (Below w.heap.size w ((w2_.setCell ⟨q, 0, none⟩ (.int .i64 0)).setCell ⟨q, 1, none⟩ (.int .i64 0))) := ⟨below_set (below_set (HB.1) E_q.1) E_q.1⟩
 clear B_q HB
 have B_q := n0_
 have HB := n1_
 clear n0_ n1_
 generalize ((w2_.setCell ⟨q, 0, none⟩ (.int .i64 0)).setCell ⟨q, 1, none⟩ (.int .i64 0)) = w3_ at B_q HB ⊢
 refine bodyPost_ret (results_ct rfl _ _ q 25 #[.int .i64 0, .int .i64 0] (0, 0) _ rfl B_q.1 Tryd.underlying25 rfl (by kernel_rfl)) rfl ?_
 exact ⟨rfl, HB.1⟩

set_option maxHeartbeats 8000000 in
set_option maxRecDepth 100000 in
theorem health_Front_UTC.nil (w : World) :
  Calls Tryd.prog 9 #[.pointer none] w fun e w' => e = .returned (.tuple #[.agg #[.int .i64 0, .int .i64 0, .int .i64 0, .int .i64 0, .int .i64 0, .int .i64 0], .int .i64 2]) ∧ Below w.heap.size w w' := by
 have HB := Aside0.mk (Below.refl w.heap.size w)
 go_enter Tryd.func9, Tryd.ntmps9
 go_upto_region 1 with (((with_reducible refine gate_dst (N := 2) rfl ?_); refine bx 2 #[.int .i64 0, .int .i64 0, .int .i64 0, .int .i64 0, .int .i64 0, .int .i64 0] 43 ?_; intro q hg w1_ hbox hb; have E_q : Aside0 (w.heap.size ≤ q) := ⟨by rw [hg]; exact below_size HB.1⟩; replace HB := Aside0.mk (below_step HB.1 hb); have B_q := Aside0.mk hbox; clear hb hbox hg))
 go_upto_region 2 with ((go_at_call 19; (with_reducible refine (health_Front_synced.nil _).mono ?_); rintro e w2_ ⟨rfl, hb⟩; replace B_q := bb hb B_q.1; replace HB := Aside0.mk (below_step HB.1 hb); clear hb))
 have hcf_q_0 := blk_frozen B_q.1 0
 have hc_q_0 : w2_.cell? ⟨q, 0, none⟩ = some (.int .i64 0) := (blk_cell B_q.1 0).trans rfl
 have hcf_q_1 := blk_frozen B_q.1 1
 have hc_q_1 : w2_.cell? ⟨q, 1, none⟩ = some (.int .i64 0) := (blk_cell B_q.1 1).trans rfl
 have hcf_q_2 := blk_frozen B_q.1 2
 have hc_q_2 : w2_.cell? ⟨q, 2, none⟩ = some (.int .i64 0) := (blk_cell B_q.1 2).trans rfl
 have hcf_q_3 := blk_frozen B_q.1 3
 have hc_q_3 : w2_.cell? ⟨q, 3, none⟩ = some (.int .i64 0) := (blk_cell B_q.1 3).trans rfl
 have hcf_q_4 := blk_frozen B_q.1 4
 have hc_q_4 : w2_.cell? ⟨q, 4, none⟩ = some (.int .i64 0) := (blk_cell B_q.1 4).trans rfl
 have hcf_q_5 := blk_frozen B_q.1 5
 have hc_q_5 : w2_.cell? ⟨q, 5, none⟩ = some (.int .i64 0) := (blk_cell B_q.1 5).trans rfl
 go_wp2_with (fail)
 clear hcf_q_0 hc_q_0 hcf_q_1 hc_q_1 hcf_q_2 hc_q_2 hcf_q_3 hc_q_3 hcf_q_4 hc_q_4 hcf_q_5 hc_q_5
 have n0_ : Aside0 (((((((w2_.setCell ⟨q, 0, none⟩ (.int .i64 0)).setCell ⟨q, 1, none⟩ (.int .i64 0)).setCell ⟨q, 2, none⟩ (.int .i64 0)).setCell ⟨q, 3, none⟩ (.int .i64 0)).setCell ⟨q, 4, none⟩ (.int .i64 0)).setCell ⟨q, 5, none⟩ (.int .i64 0)).heap[q]? = some (.cells #[.int .i64 0, .int .i64 0, .int .i64 0, .int .i64 0, .int .i64 0, .int .i64 0] 43 (0, 0))) := ⟨by have h_ := blk_set (blk_set (blk_set (blk_set (blk_set (blk_set (B_q.1) 0 (.int .i64 0)) 1 (.int .i64 0)) 2 (.int .i64 0)) 3 (.int .i64 0)) 4 (.int .i64 0)) 5 (.int .i64 0); simp only [List.setIfInBounds_toArray, List.set_cons_zero, List.set_cons_succ] at h_; exact h_⟩
 have n1_ : Aside0 (Below w.heap.size w ((((((w2_.setCell ⟨q, 0, none⟩ (.int .i64 0)).setCell ⟨q, 1, none⟩ (.int .i64 0)).setCell ⟨q, 2, none⟩ (.int .i64 0)).setCell ⟨q, 3, none⟩ (.int .i64 0)).setCell ⟨q, 4, none⟩ (.int .i64 0)).setCell ⟨q, 5, none⟩ (.int .i64 0))) := ⟨below_set (below_set (below_set (below_set (below_set (below_set (HB.1) E_q.1) E_q.1) E_q.1) E_q.1) E_q.1) E_q.1⟩
 clear B_q HB
 have B_q := n0_
 have HB := n1_
 clear n0_ n1_
 generalize ((((((w2_.setCell ⟨q, 0, none⟩ (.int .i64 0)).setCell ⟨q, 1, none⟩ (.int .i64 0)).setCell ⟨q, 2, none⟩ (.int .i64 0)).setCell ⟨q, 3, none⟩ (.int .i64 0)).setCell ⟨q, 4, none⟩ (.int .i64 0)).setCell ⟨q, 5, none⟩ (.int .i64 0)) = w3_ at B_q HB ⊢
 refine bodyPost_ret (results_ct rfl _ _ q 43 #[.int .i64 0, .int .i64 0, .int .i64 0, .int .i64 0, .int .i64 0, .int .i64 0] (0, 0) _ rfl B_q.1 Tryd.underlying43 rfl (by kernel_rfl)) rfl ?_
 exact ⟨rfl, HB.1⟩

set_option maxHeartbeats 8000000 in
set_option maxRecDepth 100000 in
theorem health_Front_Stamp.nil (w : World) :
  Calls Tryd.prog 15 #[.pointer none] w fun e w' => e = .returned (.tuple #[.agg #[.int .i64 0, .int .i64 0], .int .i64 2]) ∧ Below w.heap.size w w' := by
 have HB := Aside0.mk (Below.refl w.heap.size w)
 go_enter Tryd.func15, Tryd.ntmps15
 go_upto_region 1 with (((with_reducible refine gate_dst (N := 2) rfl ?_); refine bx 2 #[.int .i64 0, .int .i64 0] 28 ?_; intro q hg w1_ hbox hb; have E_q : Aside0 (w.heap.size ≤ q) := ⟨by rw [hg]; exact below_size HB.1⟩; replace HB := Aside0.mk (below_step HB.1 hb); have B_q := Aside0.mk hbox; clear hb hbox hg))
 have hcf_q_0 := blk_frozen B_q.1 0
 have hc_q_0 : w1_.cell? ⟨q, 0, none⟩ = some (.int .i64 0) := (blk_cell B_q.1 0).trans rfl
 have hcf_q_1 := blk_frozen B_q.1 1
 have hc_q_1 : w1_.cell? ⟨q, 1, none⟩ = some (.int .i64 0) := (blk_cell B_q.1 1).trans rfl
 go_wp2_with (fail)
 clear hcf_q_0 hc_q_0 hcf_q_1 hc_q_1
 have n0_ : Aside0 (((w1_.setCell ⟨q, 0, none⟩ (.int .i64 0)).setCell ⟨q, 1, none⟩ (.int .i64 0)).heap[q]? = some (.cells #[.int .i64 0, .int .i64 0] 28 (0, 0))) := ⟨by have h_ := blk_set (blk_set (B_q.1) 0 (.int .i64 0)) 1 (.int .i64 0); simp only [List.setIfInBounds_toArray, List.set_cons_zero, List.set_cons_succ] at h_; exact h_⟩
 have n1_ : Aside0 (Below w.heap.size w ((w1_.setCell ⟨q, 0, none⟩ (.int .i64 0)).setCell ⟨q, 1, none⟩ (.int .i64 0))) := ⟨below_set (below_set (HB.1) E_q.1) E_q.1⟩
 clear B_q HB
 have B_q := n0_
 have HB := n1_
 clear n0_ n1_
 generalize ((w1_.setCell ⟨q, 0, none⟩ (.int .i64 0)).setCell ⟨q, 1, none⟩ (.int .i64 0)) = w2_ at B_q HB ⊢
 refine bodyPost_ret (results_ct rfl _ _ q 28 #[.int .i64 0, .int .i64 0] (0, 0) _ rfl B_q.1 Tryd.underlying28 rfl (by kernel_rfl)) rfl ?_
 exact ⟨rfl, HB.1⟩

set_option maxHeartbeats 8000000 in
set_option maxRecDepth 100000 in
theorem health_Front_Listen.nil (x0 x1 : Int) (w : World) :
  Calls Tryd.prog 16 #[.pointer none, .agg #[.int .i64 x0, .int .i64 x1]] w fun e w' => e = .returned (.tuple #[]) ∧ Below w.heap.size w w' := by
 have HB := Aside0.mk (Below.refl w.heap.size w)
 go_enter Tryd.func16, Tryd.ntmps16
 go_upto_region 1 with (((with_reducible refine gate_dst (N := 3) rfl ?_); refine bx 3 #[.int .i64 x0, .int .i64 x1] 28 ?_; intro q hg w1_ hbox hb; have E_q : Aside0 (w.heap.size ≤ q) := ⟨by rw [hg]; exact below_size HB.1⟩; replace HB := Aside0.mk (below_step HB.1 hb); have B_q := Aside0.mk hbox; clear hb hbox hg))
 go_wp2_with (fail)
 refine bodyPost_end (results_none rfl _ _ _) rfl ?_
 exact ⟨rfl, HB.1⟩

set_option maxHeartbeats 8000000 in
set_option maxRecDepth 100000 in
theorem health_Front_Step.nil (tk : Int) (y0 y1 y2 : Int) (y3 : Bool) (y4 y5 : Int) (y6 : Bool) (yA : Option Addr) (yc : Nat) (yl : List S82) (y8 y9 y10 : Int) (w : World) :
  Calls Tryd.prog 17 #[.pointer none, .int .i64 tk, .agg #[.int .i64 y0, .int .i64 y1, .int .i64 y2, .bool y3, .int .i64 y4, .int .i64 y5, .bool y6, .slice yA yl.length yc, .int .i64 y8, .int .i64 y9, .int .i64 y10]] w fun e w' => e = .returned (.tuple #[]) ∧ Below w.heap.size w w' := by
 have HB := Aside0.mk (Below.refl w.heap.size w)
 go_enter Tryd.func17, Tryd.ntmps17
 go_upto_region 1 with (((with_reducible refine gate_dst (N := 5) rfl ?_); refine bx 5 #[.int .i64 y0, .int .i64 y1, .int .i64 y2, .bool y3, .int .i64 y4, .int .i64 y5, .bool y6, .slice yA yl.length yc, .int .i64 y8, .int .i64 y9, .int .i64 y10] 30 ?_; intro q hg w1_ hbox hb; have E_q : Aside0 (w.heap.size ≤ q) := ⟨by rw [hg]; exact below_size HB.1⟩; replace HB := Aside0.mk (below_step HB.1 hb); have B_q := Aside0.mk hbox; clear hb hbox hg))
 go_wp2_with (fail)
 refine bodyPost_ret (results_none rfl _ _ _) rfl ?_
 exact ⟨rfl, HB.1⟩

set_option maxHeartbeats 8000000 in
set_option maxRecDepth 100000 in
theorem health_Front_Pulse.boot (k : Nat) (g : Nat) (p0 p1 p2 p3 p4 p5 p6 p7 p8 p9 p10 p11 : Int) (s0 s1 s2 : Int) (s3 : Bool) (s4 s5 : Int) (s6 : Bool) (sA : Option Addr) (sc : Nat) (sl : List S82) (s8 s9 s10 : Int) (w : World) (hrs : Kd.C k82 w sA sl.length sl) (hcs : sl.length ≤ sc) (hb : w.heap[g]? = some (.cells #[.int .i64 p0, .int .i64 p1, .int .i64 p2, .int .i64 p3, .int .i64 p4, .int .i64 p5, .int .i64 p6, .int .i64 p7, .int .i64 p8, .int .i64 p9, .int .i64 p10, .int .i64 p11, .int .i64 s0, .int .i64 s1, .int .i64 s2, .bool s3, .int .i64 s4, .int .i64 s5, .bool s6, .slice sA sl.length sc, .int .i64 s8, .int .i64 s9, .int .i64 s10] 35 (0, 0))) (h : health_Of.f k p0 p1 p2 p3 p4 p5 p6 p7 p8 p9 p10 p11 s0 s1 s2 s3 s4 s5 s6 sl s8 s9 s10 = some 0) :
  Calls Tryd.prog 11 #[.pointer (some ⟨g, 0, none⟩)] w fun e w' => e = .returned (.tuple #[.int .i64 0, .int .i64 20]) ∧ Below w.heap.size w w' := by
 have HRs := Aside0.mk hrs
 have HCs := Aside0.mk hcs
 have B_g := Aside0.mk hb
 have HF := Aside0.mk h
 clear hrs hcs hb h
 have HB := Aside0.mk (Below.refl w.heap.size w)
 go_enter Tryd.func11, Tryd.ntmps11
 go_upto_region 2 with ((go_at_call 19; (with_reducible refine (health_Front_synced.boot k g p0 p1 p2 p3 p4 p5 p6 p7 p8 p9 p10 p11 s0 s1 s2 s3 s4 s5 s6 sA sc sl s8 s9 s10 _ (Kd.C_below HRs.1 HB.1) HCs.1 B_g.1 HF.1).mono ?_); rintro e w1_ ⟨rfl, hb⟩; replace B_g := bb hb B_g.1; replace HB := Aside0.mk (below_step HB.1 hb); clear hb))
 go_wp2_with (fail)
 go_ret2
 exact ⟨rfl, HB.1⟩

set_option maxHeartbeats 8000000 in
set_option maxRecDepth 100000 in
theorem health_Front_Pulse.ok (k : Nat) (g : Nat) (p0 p1 p2 p3 p4 p5 p6 p7 p8 p9 p10 p11 : Int) (s0 s1 s2 : Int) (s3 : Bool) (s4 s5 : Int) (s6 : Bool) (sA : Option Addr) (sc : Nat) (sl : List S82) (s8 s9 s10 : Int) (r : Int) (hr : r ≠ 0) (nb : Int) (w : World) (hrs : Kd.C k82 w sA sl.length sl) (hcs : sl.length ≤ sc) (hb : w.heap[g]? = some (.cells #[.int .i64 p0, .int .i64 p1, .int .i64 p2, .int .i64 p3, .int .i64 p4, .int .i64 p5, .int .i64 p6, .int .i64 p7, .int .i64 p8, .int .i64 p9, .int .i64 p10, .int .i64 p11, .int .i64 s0, .int .i64 s1, .int .i64 s2, .bool s3, .int .i64 s4, .int .i64 s5, .bool s6, .slice sA sl.length sc, .int .i64 s8, .int .i64 s9, .int .i64 s10] 35 (0, 0))) (h : health_Of.f k p0 p1 p2 p3 p4 p5 p6 p7 p8 p9 p10 p11 s0 s1 s2 s3 s4 s5 s6 sl s8 s9 s10 = some r) (hnb : pulse_Number.f k p0 p1 p2 p3 p4 p5 p6 p7 p8 p9 p10 p11 s2 = some nb) :
  Calls Tryd.prog 11 #[.pointer (some ⟨g, 0, none⟩)] w fun e w' => e = .returned (.tuple #[.int .i64 nb, .int .i64 0]) ∧ Below w.heap.size w w' := by
 have HRs := Aside0.mk hrs
 have HCs := Aside0.mk hcs
 have B_g := Aside0.mk hb
 have HF := Aside0.mk h
 have HNB := Aside0.mk hnb
 clear hrs hcs hb h hnb
 have HB := Aside0.mk (Below.refl w.heap.size w)
 have hr0 : decide (r = 0) = false := decide_eq_false hr
 go_enter Tryd.func11, Tryd.ntmps11
 go_upto_region 2 with ((go_at_call 19; (with_reducible refine (health_Front_synced.ok k g p0 p1 p2 p3 p4 p5 p6 p7 p8 p9 p10 p11 s0 s1 s2 s3 s4 s5 s6 sA sc sl s8 s9 s10 r hr _ (Kd.C_below HRs.1 HB.1) HCs.1 B_g.1 HF.1).mono ?_); rintro e w1_ ⟨rfl, hb⟩; replace B_g := bb hb B_g.1; replace HB := Aside0.mk (below_step HB.1 hb); clear hb))
 go_upto_region 4 with (fail)
 replace B_g := Aside0.mk (blk_drew B_g.1)
 replace HB := Aside0.mk (below_drew1 HB.1)
 refine start_ (n := 12) (S := fun w' => w'.heap[g]? = some (.cells #[.int .i64 p0, .int .i64 p1, .int .i64 p2, .int .i64 p3, .int .i64 p4, .int .i64 p5, .int .i64 p6, .int .i64 p7, .int .i64 p8, .int .i64 p9, .int .i64 p10, .int .i64 p11, .int .i64 s0, .int .i64 s1, .int .i64 s2, .bool s3, .int .i64 s4, .int .i64 s5, .bool s6, .slice sA sl.length sc, .int .i64 s8, .int .i64 s9, .int .i64 s10] 35 (0, 0))) (ds := []) (bs 12 0) (by kernel_rfl) rfl (by rfl) B_g.1 (fun hHeld => ?_)
 generalize w1_.drew = w2_ at B_g HB hHeld ⊢
 refine pu 0 10 1 ?_
 refine pu 1 11 3 ?_
 refine pu 2 12 7 ?_
 refine pu 4 14 23 ?_
 refine pu 5 15 55 ?_
 refine pu 6 16 119 ?_
 refine pu 7 17 247 ?_
 refine take_ (i := 3) (N := some 13) (v := ?_) (a' := ?_) (bs 12 255) rfl rfl (by kernel_rfl) (fun _ _ _ h => h) (Or.inl ⟨by rfl, ?_⟩) hHeld ?_ ?_
 rotate_left
 ·rintro w' s_g
  have c_0 : w'.cell? ⟨g, 0, none⟩ = some (.int .i64 p0) := (blk_cell s_g 0).trans rfl
  have c_1 : w'.cell? ⟨g, 1, none⟩ = some (.int .i64 p1) := (blk_cell s_g 1).trans rfl
  have c_2 : w'.cell? ⟨g, 2, none⟩ = some (.int .i64 p2) := (blk_cell s_g 2).trans rfl
  have c_3 : w'.cell? ⟨g, 3, none⟩ = some (.int .i64 p3) := (blk_cell s_g 3).trans rfl
  have c_4 : w'.cell? ⟨g, 4, none⟩ = some (.int .i64 p4) := (blk_cell s_g 4).trans rfl
  have c_5 : w'.cell? ⟨g, 5, none⟩ = some (.int .i64 p5) := (blk_cell s_g 5).trans rfl
  have c_6 : w'.cell? ⟨g, 6, none⟩ = some (.int .i64 p6) := (blk_cell s_g 6).trans rfl
  have c_7 : w'.cell? ⟨g, 7, none⟩ = some (.int .i64 p7) := (blk_cell s_g 7).trans rfl
  have c_8 : w'.cell? ⟨g, 8, none⟩ = some (.int .i64 p8) := (blk_cell s_g 8).trans rfl
  have c_9 : w'.cell? ⟨g, 9, none⟩ = some (.int .i64 p9) := (blk_cell s_g 9).trans rfl
  have c_10 : w'.cell? ⟨g, 10, none⟩ = some (.int .i64 p10) := (blk_cell s_g 10).trans rfl
  have c_11 : w'.cell? ⟨g, 11, none⟩ = some (.int .i64 p11) := (blk_cell s_g 11).trans rfl
  clear s_g
  go_simp
  with_reducible rfl
 rotate_left
 ·simp only [Act.put, List.setIfInBounds_toArray, List.set_cons_zero, List.set_cons_succ, i64_w, i32_w]
  rfl
 refine take_ (i := 8) (N := some 18) (v := ?_) (a' := ?_) (bs 12 511) rfl rfl (by kernel_rfl) (fun _ _ _ h => h) (Or.inl ⟨by rfl, ?_⟩) hHeld ?_ ?_
 rotate_left
 ·rintro w' s_g
  have c_14 : w'.cell? ⟨g, 14, none⟩ = some (.int .i64 s2) := (blk_cell s_g 14).trans rfl
  clear s_g
  go_simp
  with_reducible rfl
 rotate_left
 ·simp only [Act.put, List.setIfInBounds_toArray, List.set_cons_zero, List.set_cons_succ, i64_w, i32_w]
  rfl
 refine one_ (i := 9) (N := some 19) (bs 12 1023) rfl rfl (by kernel_rfl) (by decide) (fun K hK => ?_)
 refine goes_ Tryd.func25 (by kernel_rfl) rfl #[.agg #[.int .i64 p0, .int .i64 p1, .int .i64 p2, .int .i64 p3, .int .i64 p4, .int .i64 p5, .int .i64 p6, .int .i64 p7, .int .i64 p8, .int .i64 p9, .int .i64 p10, .int .i64 p11], .int .i64 s2] (by rfl) rfl rfl (by (try simp only [List.map_toArray, List.map_cons, List.map_nil]); first | done | rfl) ?_
 with_reducible refine (pulse_Number.calls k p0 p1 p2 p3 p4 p5 p6 p7 p8 p9 p10 p11 s2 nb _ HNB.1).mono ?_
 rintro e w3_ ⟨rfl, hb⟩
 replace B_g := bb hb B_g.1
 replace HB := Aside0.mk (below_step HB.1 hb)
 clear hb
 refine ⟨_, rfl, ?_⟩
 refine hK.out _ _ B_g.1 (fun hHeld => ?_)
 clear hK K
 refine nm 19 ?_
 refine pu 10 2 2047 ?_
 refine pu 11 3 4095 ?_
 refine done_ (by kernel_rfl) ?_
 go_wp2
 go_ret2
 exact ⟨rfl, HB.1⟩

set_option maxHeartbeats 8000000 in
set_option maxRecDepth 100000 in
theorem health_Front_UTC.boot (k : Nat) (g : Nat) (p0 p1 p2 p3 p4 p5 p6 p7 p8 p9 p10 p11 : Int) (s0 s1 s2 : Int) (s3 : Bool) (s4 s5 : Int) (s6 : Bool) (sA : Option Addr) (sc : Nat) (sl : List S82) (s8 s9 s10 : Int) (w : World) (hrs : Kd.C k82 w sA sl.length sl) (hcs : sl.length ≤ sc) (hb : w.heap[g]? = some (.cells #[.int .i64 p0, .int .i64 p1, .int .i64 p2, .int .i64 p3, .int .i64 p4, .int .i64 p5, .int .i64 p6, .int .i64 p7, .int .i64 p8, .int .i64 p9, .int .i64 p10, .int .i64 p11, .int .i64 s0, .int .i64 s1, .int .i64 s2, .bool s3, .int .i64 s4, .int .i64 s5, .bool s6, .slice sA sl.length sc, .int .i64 s8, .int .i64 s9, .int .i64 s10] 35 (0, 0))) (h : health_Of.f k p0 p1 p2 p3 p4 p5 p6 p7 p8 p9 p10 p11 s0 s1 s2 s3 s4 s5 s6 sl s8 s9 s10 = some 0) :
  Calls Tryd.prog 9 #[.pointer (some ⟨g, 0, none⟩)] w fun e w' => e = .returned (.tuple #[.agg #[.int .i64 0, .int .i64 0, .int .i64 0, .int .i64 0, .int .i64 0, .int .i64 0], .int .i64 20]) ∧ Below w.heap.size w w' := by
 have HRs := Aside0.mk hrs
 have HCs := Aside0.mk hcs
 have B_g := Aside0.mk hb
 have HF := Aside0.mk h
 clear hrs hcs hb h
 have HB := Aside0.mk (Below.refl w.heap.size w)
 go_enter Tryd.func9, Tryd.ntmps9
 go_upto_region 1 with (((with_reducible refine gate_dst (N := 2) rfl ?_); refine bx 2 #[.int .i64 0, .int .i64 0, .int .i64 0, .int .i64 0, .int .i64 0, .int .i64 0] 43 ?_; intro q hg w1_ hbox hb; have N_g_q := nl hg B_g.1; have N_q_g := ng hg B_g.1; have E_q : Aside0 (w.heap.size ≤ q) := ⟨by rw [hg]; exact below_size HB.1⟩; replace B_g := bb hb B_g.1; replace HB := Aside0.mk (below_step HB.1 hb); have B_q := Aside0.mk hbox; clear hb hbox hg))
 go_upto_region 2 with ((go_at_call 19; (with_reducible refine (health_Front_synced.boot k g p0 p1 p2 p3 p4 p5 p6 p7 p8 p9 p10 p11 s0 s1 s2 s3 s4 s5 s6 sA sc sl s8 s9 s10 _ (Kd.C_below HRs.1 HB.1) HCs.1 B_g.1 HF.1).mono ?_); rintro e w2_ ⟨rfl, hb⟩; replace B_g := bb hb B_g.1; replace B_q := bb hb B_q.1; replace HB := Aside0.mk (below_step HB.1 hb); clear hb))
 have hcf_q_0 := blk_frozen B_q.1 0
 have hc_q_0 : w2_.cell? ⟨q, 0, none⟩ = some (.int .i64 0) := (blk_cell B_q.1 0).trans rfl
 have hcf_q_1 := blk_frozen B_q.1 1
 have hc_q_1 : w2_.cell? ⟨q, 1, none⟩ = some (.int .i64 0) := (blk_cell B_q.1 1).trans rfl
 have hcf_q_2 := blk_frozen B_q.1 2
 have hc_q_2 : w2_.cell? ⟨q, 2, none⟩ = some (.int .i64 0) := (blk_cell B_q.1 2).trans rfl
 have hcf_q_3 := blk_frozen B_q.1 3
 have hc_q_3 : w2_.cell? ⟨q, 3, none⟩ = some (.int .i64 0) := (blk_cell B_q.1 3).trans rfl
 have hcf_q_4 := blk_frozen B_q.1 4
 have hc_q_4 : w2_.cell? ⟨q, 4, none⟩ = some (.int .i64 0) := (blk_cell B_q.1 4).trans rfl
 have hcf_q_5 := blk_frozen B_q.1 5
 have hc_q_5 : w2_.cell? ⟨q, 5, none⟩ = some (.int .i64 0) := (blk_cell B_q.1 5).trans rfl
 go_wp2_with (fail)
 clear hcf_q_0 hc_q_0 hcf_q_1 hc_q_1 hcf_q_2 hc_q_2 hcf_q_3 hc_q_3 hcf_q_4 hc_q_4 hcf_q_5 hc_q_5
 have n0_ : Aside0 (((((((w2_.setCell ⟨q, 0, none⟩ (.int .i64 0)).setCell ⟨q, 1, none⟩ (.int .i64 0)).setCell ⟨q, 2, none⟩ (.int .i64 0)).setCell ⟨q, 3, none⟩ (.int .i64 0)).setCell ⟨q, 4, none⟩ (.int .i64 0)).setCell ⟨q, 5, none⟩ (.int .i64 0)).heap[g]? = some (.cells #[.int .i64 p0, .int .i64 p1, .int .i64 p2, .int .i64 p3, .int .i64 p4, .int .i64 p5, .int .i64 p6, .int .i64 p7, .int .i64 p8, .int .i64 p9, .int .i64 p10, .int .i64 p11, .int .i64 s0, .int .i64 s1, .int .i64 s2, .bool s3, .int .i64 s4, .int .i64 s5, .bool s6, .slice sA sl.length sc, .int .i64 s8, .int .i64 s9, .int .i64 s10] 35 (0, 0))) := ⟨blk_far (blk_far (blk_far (blk_far (blk_far (blk_far (B_g.1) N_g_q.1 _) N_g_q.1 _) N_g_q.1 _) N_g_q.1 _) N_g_q.1 _) N_g_q.1 _⟩
 have n1_ : Aside0 (((((((w2_.setCell ⟨q, 0, none⟩ (.int .i64 0)).setCell ⟨q, 1, none⟩ (.int .i64 0)).setCell ⟨q, 2, none⟩ (.int .i64 0)).setCell ⟨q, 3, none⟩ (.int .i64 0)).setCell ⟨q, 4, none⟩ (.int .i64 0)).setCell ⟨q, 5, none⟩ (.int .i64 0)).heap[q]? = some (.cells #[.int .i64 0, .int .i64 0, .int .i64 0, .int .i64 0, .int .i64 0, .int .i64 0] 43 (0, 0))) := ⟨by have h_ := blk_set (blk_set (blk_set (blk_set (blk_set (blk_set (B_q.1) 0 (.int .i64 0)) 1 (.int .i64 0)) 2 (.int .i64 0)) 3 (.int .i64 0)) 4 (.int .i64 0)) 5 (.int .i64 0); simp only [List.setIfInBounds_toArray, List.set_cons_zero, List.set_cons_succ] at h_; exact h_⟩
 have n2_ : Aside0 (Below w.heap.size w ((((((w2_.setCell ⟨q, 0, none⟩ (.int .i64 0)).setCell ⟨q, 1, none⟩ (.int .i64 0)).setCell ⟨q, 2, none⟩ (.int .i64 0)).setCell ⟨q, 3, none⟩ (.int .i64 0)).setCell ⟨q, 4, none⟩ (.int .i64 0)).setCell ⟨q, 5, none⟩ (.int .i64 0))) := ⟨below_set (below_set (below_set (below_set (below_set (below_set (HB.1) E_q.1) E_q.1) E_q.1) E_q.1) E_q.1) E_q.1⟩
 clear B_g B_q HB
 have B_g := n0_
 have B_q := n1_
 have HB := n2_
 clear n0_ n1_ n2_
 generalize ((((((w2_.setCell ⟨q, 0, none⟩ (.int .i64 0)).setCell ⟨q, 1, none⟩ (.int .i64 0)).setCell ⟨q, 2, none⟩ (.int .i64 0)).setCell ⟨q, 3, none⟩ (.int .i64 0)).setCell ⟨q, 4, none⟩ (.int .i64 0)).setCell ⟨q, 5, none⟩ (.int .i64 0)) = w3_ at B_g B_q HB ⊢
 refine bodyPost_ret (results_ct rfl _ _ q 43 #[.int .i64 0, .int .i64 0, .int .i64 0, .int .i64 0, .int .i64 0, .int .i64 0] (0, 0) _ rfl B_q.1 Tryd.underlying43 rfl (by kernel_rfl)) rfl ?_
 exact ⟨rfl, HB.1⟩

set_option maxHeartbeats 8000000 in
set_option maxRecDepth 100000 in
theorem health_Front_UTC.ok (k : Nat) (g : Nat) (p0 p1 p2 p3 p4 p5 p6 p7 p8 p9 p10 p11 : Int) (s0 s1 s2 : Int) (s3 : Bool) (s4 s5 : Int) (s6 : Bool) (sA : Option Addr) (sc : Nat) (sl : List S82) (s8 s9 s10 : Int) (r : Int) (hr : r ≠ 0) (dc dr u1 u2 u3 u4 u5 u6 u7 : Int) (w : World) (hrs : Kd.C k82 w sA sl.length sl) (hcs : sl.length ≤ sc) (hb : w.heap[g]? = some (.cells #[.int .i64 p0, .int .i64 p1, .int .i64 p2, .int .i64 p3, .int .i64 p4, .int .i64 p5, .int .i64 p6, .int .i64 p7, .int .i64 p8, .int .i64 p9, .int .i64 p10, .int .i64 p11, .int .i64 s0, .int .i64 s1, .int .i64 s2, .bool s3, .int .i64 s4, .int .i64 s5, .bool s6, .slice sA sl.length sc, .int .i64 s8, .int .i64 s9, .int .i64 s10] 35 (0, 0))) (h : health_Of.f k p0 p1 p2 p3 p4 p5 p6 p7 p8 p9 p10 p11 s0 s1 s2 s3 s4 s5 s6 sl s8 s9 s10 = some r) (hdv : wide_Div.f k s2 p11 = some (dc, dr)) (hgm : GM w) (htl : leap_ToLabel.f k sl dc = some (u1, u2, u3, u4, u5, u6, u7)) :
  Calls Tryd.prog 9 #[.pointer (some ⟨g, 0, none⟩)] w fun e w' => e = .returned (.tuple #[.agg #[.int .i64 u1, .int .i64 u2, .int .i64 u3, .int .i64 u4, .int .i64 u5, .int .i64 u6], .int .i64 u7]) ∧ Below w.heap.size w w' := by
 have HRs := Aside0.mk hrs
 have HCs := Aside0.mk hcs
 have B_g := Aside0.mk hb
 have HF := Aside0.mk h
 have HDV := Aside0.mk hdv
 have HGM := Aside0.mk hgm
 have HTL := Aside0.mk htl
 clear hrs hcs hb h hdv hgm htl
 have HB := Aside0.mk (Below.refl w.heap.size w)
 have hr0 : decide (r = 0) = false := decide_eq_false hr
 go_enter Tryd.func9, Tryd.ntmps9
 go_upto_region 1 with (((with_reducible refine gate_dst (N := 2) rfl ?_); refine bx 2 #[.int .i64 0, .int .i64 0, .int .i64 0, .int .i64 0, .int .i64 0, .int .i64 0] 43 ?_; intro q hg w1_ hbox hb; have N_g_q := nl hg B_g.1; have N_q_g := ng hg B_g.1; have E_q : Aside0 (w.heap.size ≤ q) := ⟨by rw [hg]; exact below_size HB.1⟩; replace B_g := bb hb B_g.1; replace HB := Aside0.mk (below_step HB.1 hb); have B_q := Aside0.mk hbox; clear hb hbox hg))
 go_upto_region 2 with ((go_at_call 19; (with_reducible refine (health_Front_synced.ok k g p0 p1 p2 p3 p4 p5 p6 p7 p8 p9 p10 p11 s0 s1 s2 s3 s4 s5 s6 sA sc sl s8 s9 s10 r hr _ (Kd.C_below HRs.1 HB.1) HCs.1 B_g.1 HF.1).mono ?_); rintro e w2_ ⟨rfl, hb⟩; replace B_g := bb hb B_g.1; replace B_q := bb hb B_q.1; replace HB := Aside0.mk (below_step HB.1 hb); clear hb))
 go_upto_region 4 with (fail)
 replace B_g := Aside0.mk (blk_drew B_g.1)
 replace B_q := Aside0.mk (blk_drew B_q.1)
 replace HB := Aside0.mk (below_drew1 HB.1)
 refine start_ (n := 16) (S := fun w' => w'.heap[g]? = some (.cells #[.int .i64 p0, .int .i64 p1, .int .i64 p2, .int .i64 p3, .int .i64 p4, .int .i64 p5, .int .i64 p6, .int .i64 p7, .int .i64 p8, .int .i64 p9, .int .i64 p10, .int .i64 p11, .int .i64 s0, .int .i64 s1, .int .i64 s2, .bool s3, .int .i64 s4, .int .i64 s5, .bool s6, .slice sA sl.length sc, .int .i64 s8, .int .i64 s9, .int .i64 s10] 35 (0, 0))) (ds := []) (bs 16 0) (by kernel_rfl) rfl (by rfl) B_g.1 (fun hHeld => ?_)
 generalize w2_.drew = w3_ at B_g B_q HB hHeld ⊢
 refine pu 0 14 1 ?_
 refine pu 1 15 3 ?_
 refine pu 2 16 7 ?_
 refine pu 3 17 15 ?_
 refine pu 5 19 47 ?_
 refine pu 6 20 111 ?_
 refine pu 7 21 239 ?_
 refine pu 8 22 495 ?_
 refine take_ (i := 4) (N := some 18) (v := ?_) (a' := ?_) (bs 16 511) rfl rfl (by kernel_rfl) (fun _ _ _ h => h) (Or.inl ⟨by rfl, ?_⟩) hHeld ?_ ?_
 rotate_left
 ·rintro w' s_g
  have c_14 : w'.cell? ⟨g, 14, none⟩ = some (.int .i64 s2) := (blk_cell s_g 14).trans rfl
  clear s_g
  go_simp
  with_reducible rfl
 rotate_left
 ·simp only [Act.put, List.setIfInBounds_toArray, List.set_cons_zero, List.set_cons_succ, i64_w, i32_w]
  rfl
 refine take_ (i := 9) (N := some 23) (v := ?_) (a' := ?_) (bs 16 1023) rfl rfl (by kernel_rfl) (fun _ _ _ h => h) (Or.inl ⟨by rfl, ?_⟩) hHeld ?_ ?_
 rotate_left
 ·rintro w' s_g
  have c_11 : w'.cell? ⟨g, 11, none⟩ = some (.int .i64 p11) := (blk_cell s_g 11).trans rfl
  clear s_g
  go_simp
  with_reducible rfl
 rotate_left
 ·simp only [Act.put, List.setIfInBounds_toArray, List.set_cons_zero, List.set_cons_succ, i64_w, i32_w]
  rfl
 refine one_ (i := 10) (N := some 24) (bs 16 2047) rfl rfl (by kernel_rfl) (by decide) (fun K hK => ?_)
 refine goes_ Tryd.func20 (by kernel_rfl) rfl #[.int .i64 s2, .int .i64 p11] (by rfl) rfl rfl (by (try simp only [List.map_toArray, List.map_cons, List.map_nil]); first | done | rfl) ?_
 with_reducible refine (wide_Div.calls k s2 p11 dc dr _ HDV.1).mono ?_
 rintro e w4_ ⟨rfl, hb⟩
 replace B_g := bb hb B_g.1
 replace B_q := bb hb B_q.1
 replace HB := Aside0.mk (below_step HB.1 hb)
 clear hb
 refine ⟨_, rfl, ?_⟩
 refine hK.out _ _ B_g.1 (fun hHeld => ?_)
 clear hK K
 refine nm 24 ?_
 refine pu 11 13 4095 ?_
 refine pu 12 25 8191 ?_
 refine pu 13 26 16383 ?_
 refine pu 14 5 32767 ?_
 refine pu 15 6 65535 ?_
 refine done_ (by kernel_rfl) ?_
 go_upto_region 5 with (fail)
 have hc_g_19 : w4_.cell? ⟨g, 19, none⟩ = some (.slice sA sl.length sc) := (blk_cell B_g.1 19).trans rfl
 go_wp2_with ((go_at_call 21; (with_reducible refine (leap_ToLabel.calls k sA sc sl dc u1 u2 u3 u4 u5 u6 u7 _ (GM.below HGM.1 HB.1) (Kd.C_below HRs.1 HB.1) HCs.1 HTL.1).mono ?_); rintro e w5_ ⟨rfl, hb⟩; replace B_g := bb hb B_g.1; replace B_q := bb hb B_q.1; replace HB := Aside0.mk (below_step HB.1 hb); clear hb; have hr1f_q_0 := blk_frozen B_q.1 0; have hr1_q_0 : w5_.cell? ⟨q, 0, none⟩ = some (.int .i64 0) := (blk_cell B_q.1 0).trans rfl; have hr1f_q_1 := blk_frozen B_q.1 1; have hr1_q_1 : w5_.cell? ⟨q, 1, none⟩ = some (.int .i64 0) := (blk_cell B_q.1 1).trans rfl; have hr1f_q_2 := blk_frozen B_q.1 2; have hr1_q_2 : w5_.cell? ⟨q, 2, none⟩ = some (.int .i64 0) := (blk_cell B_q.1 2).trans rfl; have hr1f_q_3 := blk_frozen B_q.1 3; have hr1_q_3 : w5_.cell? ⟨q, 3, none⟩ = some (.int .i64 0) := (blk_cell B_q.1 3).trans rfl; have hr1f_q_4 := blk_frozen B_q.1 4; have hr1_q_4 : w5_.cell? ⟨q, 4, none⟩ = some (.int .i64 0) := (blk_cell B_q.1 4).trans rfl; have hr1f_q_5 := blk_frozen B_q.1 5; have hr1_q_5 : w5_.cell? ⟨q, 5, none⟩ = some (.int .i64 0) := (blk_cell B_q.1 5).trans rfl))
 clear hc_g_19 hr1f_q_0 hr1_q_0 hr1f_q_1 hr1_q_1 hr1f_q_2 hr1_q_2 hr1f_q_3 hr1_q_3 hr1f_q_4 hr1_q_4 hr1f_q_5 hr1_q_5
 have n0_ : Aside0 (((((((w5_.setCell ⟨q, 0, none⟩ (.int .i64 u1)).setCell ⟨q, 1, none⟩ (.int .i64 u2)).setCell ⟨q, 2, none⟩ (.int .i64 u3)).setCell ⟨q, 3, none⟩ (.int .i64 u4)).setCell ⟨q, 4, none⟩ (.int .i64 u5)).setCell ⟨q, 5, none⟩ (.int .i64 u6)).heap[g]? = some (.cells #[.int .i64 p0, .int .i64 p1, .int .i64 p2, .int .i64 p3, .int .i64 p4, .int .i64 p5, .int .i64 p6, .int .i64 p7, .int .i64 p8, .int .i64 p9, .int .i64 p10, .int .i64 p11, .int .i64 s0, .int .i64 s1, .int .i64 s2, .bool s3, .int .i64 s4, .int .i64 s5, .bool s6, .slice sA sl.length sc, .int .i64 s8, .int .i64 s9, .int .i64 s10] 35 (0, 0))) := ⟨blk_far (blk_far (blk_far (blk_far (blk_far (blk_far (B_g.1) N_g_q.1 _) N_g_q.1 _) N_g_q.1 _) N_g_q.1 _) N_g_q.1 _) N_g_q.1 _⟩
 have n1_ : Aside0 (((((((w5_.setCell ⟨q, 0, none⟩ (.int .i64 u1)).setCell ⟨q, 1, none⟩ (.int .i64 u2)).setCell ⟨q, 2, none⟩ (.int .i64 u3)).setCell ⟨q, 3, none⟩ (.int .i64 u4)).setCell ⟨q, 4, none⟩ (.int .i64 u5)).setCell ⟨q, 5, none⟩ (.int .i64 u6)).heap[q]? = some (.cells #[.int .i64 u1, .int .i64 u2, .int .i64 u3, .int .i64 u4, .int .i64 u5, .int .i64 u6] 43 (0, 0))) := ⟨by have h_ := blk_set (blk_set (blk_set (blk_set (blk_set (blk_set (B_q.1) 0 (.int .i64 u1)) 1 (.int .i64 u2)) 2 (.int .i64 u3)) 3 (.int .i64 u4)) 4 (.int .i64 u5)) 5 (.int .i64 u6); simp only [List.setIfInBounds_toArray, List.set_cons_zero, List.set_cons_succ] at h_; exact h_⟩
 have n2_ : Aside0 (Below w.heap.size w ((((((w5_.setCell ⟨q, 0, none⟩ (.int .i64 u1)).setCell ⟨q, 1, none⟩ (.int .i64 u2)).setCell ⟨q, 2, none⟩ (.int .i64 u3)).setCell ⟨q, 3, none⟩ (.int .i64 u4)).setCell ⟨q, 4, none⟩ (.int .i64 u5)).setCell ⟨q, 5, none⟩ (.int .i64 u6))) := ⟨below_set (below_set (below_set (below_set (below_set (below_set (HB.1) E_q.1) E_q.1) E_q.1) E_q.1) E_q.1) E_q.1⟩
 clear B_g B_q HB
 have B_g := n0_
 have B_q := n1_
 have HB := n2_
 clear n0_ n1_ n2_
 generalize ((((((w5_.setCell ⟨q, 0, none⟩ (.int .i64 u1)).setCell ⟨q, 1, none⟩ (.int .i64 u2)).setCell ⟨q, 2, none⟩ (.int .i64 u3)).setCell ⟨q, 3, none⟩ (.int .i64 u4)).setCell ⟨q, 4, none⟩ (.int .i64 u5)).setCell ⟨q, 5, none⟩ (.int .i64 u6)) = w6_ at B_g B_q HB ⊢
 refine bodyPost_ret (results_ct rfl _ _ q 43 #[.int .i64 u1, .int .i64 u2, .int .i64 u3, .int .i64 u4, .int .i64 u5, .int .i64 u6] (0, 0) _ rfl B_q.1 Tryd.underlying43 rfl (by kernel_rfl)) rfl ?_
 exact ⟨rfl, HB.1⟩

end Go.Proofs.YtigkjbaclpklpaaDoor.Q
