/- The calls of these Go functions answer what the Lean functions beside them answer; written by a program (wip/pr2.py, out of the print of the loaded program); under no condition but those that stand in the theorems. -/
import Derived.Test.YtigkjbaclpklpaaDoorQx0
import Derived.Test.YtigkjbaclpklpaaDoorQx4
import Derived.Test.YtigkjbaclpklpaaDoorQx5
import Derived.Test.YtigkjbaclpklpaaDoorQx6
import Derived.Test.YtigkjbaclpklpaaDoorQx9
import Derived.Test.YtigkjbaclpklpaaDoorQx10
import Derived.Test.YtigkjbaclpklpaaDoorQx12
import Derived.Test.YtigkjbaclpklpaaDoorQx13
import Derived.Test.YtigkjbaclpklpaaDoorQx14
import Derived.Test.YtigkjbaclpklpaaDoorQx15
namespace Go.Proofs.YtigkjbaclpklpaaDoor.Q
open Go.RowKit Go.Proofs.YtigkjbaclpklpaaDoorW.PrintWords Go.Proofs.YtigkjbaclpklpaaDoorW.PrintLast Go.Proofs.YtigkjbaclpklpaaDoorW.PrintMore
attribute [local go_sem] max2_int min2_int max_two min_two max_three min_three max_four min_four   -- for this text's walks alone
set_option linter.unusedVariables false
set_option linter.unusedSimpArgs false

/-! Front.Step, by hand -/
attribute [local go_sem] hx.fl
set_option maxHeartbeats 8000000 in
set_option maxRecDepth 100000 in
theorem health_Front_Step.calls (k : Nat) (g : Nat) (p0 p1 p2 p3 p4 p5 p6 p7 p8 p9 p10 p11 : Int) (s0 s1 s2 : Int) (s3 : Bool) (s4 s5 : Int) (s6 : Bool) (sA : Option Addr) (sc : Nat) (sl : List S82) (s8 s9 s10 : Int) (tk : Int) (y0 y1 y2 : Int) (y3 : Bool) (y4 y5 : Int) (y6 : Bool) (yA : Option Addr) (yc : Nat) (yl : List S82) (y8 y9 y10 : Int) (tz ad sb off hh : Int) (j : Bool) (ct : Int) (cs : Bool) (m0 m1 m2 : Int) (m3 : Bool) (m4 m5 : Int) (m6 : Bool) (ml : List S82) (m8 m9 m10 lf f2 mo h0 h1 : Int) (an : Bool) (u0 u1 ln : Int) (w : World) (hrs : Kd.C k82 w sA sl.length sl) (hcs : sl.length ≤ sc) (hry : Kd.C k82 w yA yl.length yl) (hcy : yl.length ≤ yc) (hb : w.heap[g]? = some (.cells #[.int .i64 p0, .int .i64 p1, .int .i64 p2, .int .i64 p3, .int .i64 p4, .int .i64 p5, .int .i64 p6, .int .i64 p7, .int .i64 p8, .int .i64 p9, .int .i64 p10, .int .i64 p11, .int .i64 s0, .int .i64 s1, .int .i64 s2, .bool s3, .int .i64 s4, .int .i64 s5, .bool s6, .slice sA sl.length sc, .int .i64 s8, .int .i64 s9, .int .i64 s10] 35 (0, 0)))
  (hto : span_Mid.f k y0 y1 = some tz) (had : sat_Add.f k [s2, tk] = some ad) (hsb : sat_Sub.f k tz ad = some sb) (hoff : sat_Abs.f k sb = some off) (hhf : health_Of.f k p0 p1 p2 p3 p4 p5 p6 p7 p8 p9 p10 p11 s0 s1 s2 s3 s4 s5 s6 sl s8 s9 s10 = some hh) (hj : (hh = 0 ∧ j = true) ∨ (hh ≠ 0 ∧ ∃ fa, health_Far.f k p0 p1 p2 p3 p4 p5 p6 p7 p8 p9 p10 p11 y4 = some fa ∧ j = decide (fa < off)))
  (hcl : slew_Clock_Step.f k s2 s3 p0 p1 p2 p3 p4 p5 p6 p7 p8 p9 p10 p11 tk tz j = some (ct, cs)) (hsa : health_Sane.f k p0 p1 p2 p3 p4 p5 p6 p7 p8 p9 p10 p11 y0 y1 y2 y3 y4 y5 y6 yl y8 y9 y10 = some (m0, m1, m2, m3, m4, m5, m6, ml, m8, m9, m10)) (hlf : sat_Bound.f k s10 0 2305843009213693952 = some lf) (hf2 : health_Far.f k p0 p1 p2 p3 p4 p5 p6 p7 p8 p9 p10 p11 m4 = some f2) (hmo : sat_Add.f k [m1, f2] = some mo) (hme : hlc_Clock_Mend.f k s8 s9 ct mo = some (h0, h1, an)) (htk : hlc_Clock_Tick.f k h0 h1 ct = some (u0, u1))
  (hln : ((an = true ∨ ct < s2) ∧ ∃ a1, sat_Add.f k [lf, 1] = some a1 ∧ sat_Bound.f k a1 0 2305843009213693952 = some ln) ∨ (an = false ∧ ¬ ct < s2 ∧ ln = lf)) :
  Calls Tryd.prog 17 #[.pointer (some ⟨g, 0, none⟩), .int .i64 tk, .agg #[.int .i64 y0, .int .i64 y1, .int .i64 y2, .bool y3, .int .i64 y4, .int .i64 y5, .bool y6, .slice yA yl.length yc, .int .i64 y8, .int .i64 y9, .int .i64 y10]] w fun e w' => ∃ (mA : Option Addr) (mc : Nat), e = .returned (.tuple #[]) ∧ w.grownBy w' (some g) ∧ w'.heap[g]? = some (.cells #[.int .i64 p0, .int .i64 p1, .int .i64 p2, .int .i64 p3, .int .i64 p4, .int .i64 p5, .int .i64 p6, .int .i64 p7, .int .i64 p8, .int .i64 p9, .int .i64 p10, .int .i64 p11, .int .i64 m0, .int .i64 m1, .int .i64 ct, .bool cs, .int .i64 m4, .int .i64 m5, .bool m6, .slice mA ml.length mc, .int .i64 u0, .int .i64 u1, .int .i64 ln] 35 (0, 0)) ∧ Kd.R k82 82 w' w.heap.size (fun k_ => some k_ = (Value.slice mA ml.length mc).ownBlock) (.slice mA ml.length mc) ml := by
 have HRs := Aside0.mk hrs
 have HCs := Aside0.mk hcs
 have HRy := Aside0.mk hry
 have HCy := Aside0.mk hcy
 have B_g := Aside0.mk hb
 have HTO := Aside0.mk hto
 have HAD := Aside0.mk had
 have HSB := Aside0.mk hsb
 have HOFF := Aside0.mk hoff
 have HHF := Aside0.mk hhf
 have HJ := Aside0.mk hj
 have HCL := Aside0.mk hcl
 have HSA := Aside0.mk hsa
 have HLF := Aside0.mk hlf
 have HF2 := Aside0.mk hf2
 have HMO := Aside0.mk hmo
 have HME := Aside0.mk hme
 have HTK := Aside0.mk htk
 have HLN := Aside0.mk hln
 clear hrs hcs hry hcy hb hto had hsb hoff hhf hj hcl hsa hlf hf2 hmo hme htk hln
 have HB := Aside0.mk (Below.refl w.heap.size w)
 go_enter Tryd.func17, Tryd.ntmps17
 go_upto_region 1 with (((with_reducible refine gate_dst (N := 5) rfl ?_); refine bx 5 #[.int .i64 y0, .int .i64 y1, .int .i64 y2, .bool y3, .int .i64 y4, .int .i64 y5, .bool y6, .slice yA yl.length yc, .int .i64 y8, .int .i64 y9, .int .i64 y10] 30 ?_; intro qn hg w1_ hbox hb; have N_g_qn := nl hg B_g.1; have N_qn_g := ng hg B_g.1; have E_qn : Aside0 (w.heap.size ≤ qn) := ⟨by rw [hg]; exact below_size HB.1⟩; replace B_g := bb hb B_g.1; replace HB := Aside0.mk (below_step HB.1 hb); have B_qn := Aside0.mk hbox; clear hb hbox hg))
 go_upto_region 2 with (fail)
 have hc_g_12 : w1_.cell? ⟨g, 12, none⟩ = some (.int .i64 s0) := (blk_cell B_g.1 12).trans rfl
 have hc_g_13 : w1_.cell? ⟨g, 13, none⟩ = some (.int .i64 s1) := (blk_cell B_g.1 13).trans rfl
 have hc_g_14 : w1_.cell? ⟨g, 14, none⟩ = some (.int .i64 s2) := (blk_cell B_g.1 14).trans rfl
 have hc_g_15 : w1_.cell? ⟨g, 15, none⟩ = some (.bool s3) := (blk_cell B_g.1 15).trans rfl
 have hc_g_16 : w1_.cell? ⟨g, 16, none⟩ = some (.int .i64 s4) := (blk_cell B_g.1 16).trans rfl
 have hc_g_17 : w1_.cell? ⟨g, 17, none⟩ = some (.int .i64 s5) := (blk_cell B_g.1 17).trans rfl
 have hc_g_18 : w1_.cell? ⟨g, 18, none⟩ = some (.bool s6) := (blk_cell B_g.1 18).trans rfl
 have hc_g_19 : w1_.cell? ⟨g, 19, none⟩ = some (.slice sA sl.length sc) := (blk_cell B_g.1 19).trans rfl
 have hc_g_20 : w1_.cell? ⟨g, 20, none⟩ = some (.int .i64 s8) := (blk_cell B_g.1 20).trans rfl
 have hc_g_21 : w1_.cell? ⟨g, 21, none⟩ = some (.int .i64 s9) := (blk_cell B_g.1 21).trans rfl
 have hc_g_22 : w1_.cell? ⟨g, 22, none⟩ = some (.int .i64 s10) := (blk_cell B_g.1 22).trans rfl
 go_upto_region 3 with (((with_reducible refine gate_dst (N := 6) rfl ?_); refine bx 6 #[.int .i64 0, .int .i64 0, .int .i64 0, .bool false, .int .i64 0, .int .i64 0, .bool false, .slice none 0 0, .int .i64 0, .int .i64 0, .int .i64 0] 30 ?_; intro qw hg w2_ hbox hb; have N_g_qw := nl hg B_g.1; have N_qn_qw := nl hg B_qn.1; have N_qw_g := ng hg B_g.1; have N_qw_qn := ng hg B_qn.1; have E_qw : Aside0 (w.heap.size ≤ qw) := ⟨by rw [hg]; exact below_size HB.1⟩; replace B_g := bb hb B_g.1; replace B_qn := bb hb B_qn.1; replace HB := Aside0.mk (below_step HB.1 hb); have B_qw := Aside0.mk hbox; clear hb hbox hg; have hr1f_qw_0 := blk_frozen B_qw.1 0; have hr1_qw_0 : w2_.cell? ⟨qw, 0, none⟩ = some (.int .i64 0) := (blk_cell B_qw.1 0).trans rfl; have hr1f_qw_1 := blk_frozen B_qw.1 1; have hr1_qw_1 : w2_.cell? ⟨qw, 1, none⟩ = some (.int .i64 0) := (blk_cell B_qw.1 1).trans rfl; have hr1f_qw_2 := blk_frozen B_qw.1 2; have hr1_qw_2 : w2_.cell? ⟨qw, 2, none⟩ = some (.int .i64 0) := (blk_cell B_qw.1 2).trans rfl; have hr1f_qw_3 := blk_frozen B_qw.1 3; have hr1_qw_3 : w2_.cell? ⟨qw, 3, none⟩ = some (.bool false) := (blk_cell B_qw.1 3).trans rfl; have hr1f_qw_4 := blk_frozen B_qw.1 4; have hr1_qw_4 : w2_.cell? ⟨qw, 4, none⟩ = some (.int .i64 0) := (blk_cell B_qw.1 4).trans rfl; have hr1f_qw_5 := blk_frozen B_qw.1 5; have hr1_qw_5 : w2_.cell? ⟨qw, 5, none⟩ = some (.int .i64 0) := (blk_cell B_qw.1 5).trans rfl; have hr1f_qw_6 := blk_frozen B_qw.1 6; have hr1_qw_6 : w2_.cell? ⟨qw, 6, none⟩ = some (.bool false) := (blk_cell B_qw.1 6).trans rfl; have hr1f_qw_7 := blk_frozen B_qw.1 7; have hr1_qw_7 : w2_.cell? ⟨qw, 7, none⟩ = some (.slice none 0 0) := (blk_cell B_qw.1 7).trans rfl; have hr1f_qw_8 := blk_frozen B_qw.1 8; have hr1_qw_8 : w2_.cell? ⟨qw, 8, none⟩ = some (.int .i64 0) := (blk_cell B_qw.1 8).trans rfl; have hr1f_qw_9 := blk_frozen B_qw.1 9; have hr1_qw_9 : w2_.cell? ⟨qw, 9, none⟩ = some (.int .i64 0) := (blk_cell B_qw.1 9).trans rfl; have hr1f_qw_10 := blk_frozen B_qw.1 10; have hr1_qw_10 : w2_.cell? ⟨qw, 10, none⟩ = some (.int .i64 0) := (blk_cell B_qw.1 10).trans rfl))
 clear hc_g_12 hc_g_13 hc_g_14 hc_g_15 hc_g_16 hc_g_17 hc_g_18 hc_g_19 hc_g_20 hc_g_21 hc_g_22 hr1f_qw_0 hr1_qw_0 hr1f_qw_1 hr1_qw_1 hr1f_qw_2 hr1_qw_2 hr1f_qw_3 hr1_qw_3 hr1f_qw_4 hr1_qw_4 hr1f_qw_5 hr1_qw_5 hr1f_qw_6 hr1_qw_6 hr1f_qw_7 hr1_qw_7 hr1f_qw_8 hr1_qw_8 hr1f_qw_9 hr1_qw_9 hr1f_qw_10 hr1_qw_10
 have n0_ : Aside0 ((((((((((((w2_.setCell ⟨qw, 0, none⟩ (.int .i64 s0)).setCell ⟨qw, 1, none⟩ (.int .i64 s1)).setCell ⟨qw, 2, none⟩ (.int .i64 s2)).setCell ⟨qw, 3, none⟩ (.bool s3)).setCell ⟨qw, 4, none⟩ (.int .i64 s4)).setCell ⟨qw, 5, none⟩ (.int .i64 s5)).setCell ⟨qw, 6, none⟩ (.bool s6)).setCell ⟨qw, 7, none⟩ (.slice sA sl.length sc)).setCell ⟨qw, 8, none⟩ (.int .i64 s8)).setCell ⟨qw, 9, none⟩ (.int .i64 s9)).setCell ⟨qw, 10, none⟩ (.int .i64 s10)).heap[g]? = some (.cells #[.int .i64 p0, .int .i64 p1, .int .i64 p2, .int .i64 p3, .int .i64 p4, .int .i64 p5, .int .i64 p6, .int .i64 p7, .int .i64 p8, .int .i64 p9, .int .i64 p10, .int .i64 p11, .int .i64 s0, .int .i64 s1, .int .i64 s2, .bool s3, .int .i64 s4, .int .i64 s5, .bool s6, .slice sA sl.length sc, .int .i64 s8, .int .i64 s9, .int .i64 s10] 35 (0, 0))) := ⟨blk_far (blk_far (blk_far (blk_far (blk_far (blk_far (blk_far (blk_far (blk_far (blk_far (blk_far (B_g.1) N_g_qw.1 _) N_g_qw.1 _) N_g_qw.1 _) N_g_qw.1 _) N_g_qw.1 _) N_g_qw.1 _) N_g_qw.1 _) N_g_qw.1 _) N_g_qw.1 _) N_g_qw.1 _) N_g_qw.1 _⟩
 have n1_ : Aside0 ((((((((((((w2_.setCell ⟨qw, 0, none⟩ (.int .i64 s0)).setCell ⟨qw, 1, none⟩ (.int .i64 s1)).setCell ⟨qw, 2, none⟩ (.int .i64 s2)).setCell ⟨qw, 3, none⟩ (.bool s3)).setCell ⟨qw, 4, none⟩ (.int .i64 s4)).setCell ⟨qw, 5, none⟩ (.int .i64 s5)).setCell ⟨qw, 6, none⟩ (.bool s6)).setCell ⟨qw, 7, none⟩ (.slice sA sl.length sc)).setCell ⟨qw, 8, none⟩ (.int .i64 s8)).setCell ⟨qw, 9, none⟩ (.int .i64 s9)).setCell ⟨qw, 10, none⟩ (.int .i64 s10)).heap[qn]? = some (.cells #[.int .i64 y0, .int .i64 y1, .int .i64 y2, .bool y3, .int .i64 y4, .int .i64 y5, .bool y6, .slice yA yl.length yc, .int .i64 y8, .int .i64 y9, .int .i64 y10] 30 (0, 0))) := ⟨blk_far (blk_far (blk_far (blk_far (blk_far (blk_far (blk_far (blk_far (blk_far (blk_far (blk_far (B_qn.1) N_qn_qw.1 _) N_qn_qw.1 _) N_qn_qw.1 _) N_qn_qw.1 _) N_qn_qw.1 _) N_qn_qw.1 _) N_qn_qw.1 _) N_qn_qw.1 _) N_qn_qw.1 _) N_qn_qw.1 _) N_qn_qw.1 _⟩
 have n2_ : Aside0 ((((((((((((w2_.setCell ⟨qw, 0, none⟩ (.int .i64 s0)).setCell ⟨qw, 1, none⟩ (.int .i64 s1)).setCell ⟨qw, 2, none⟩ (.int .i64 s2)).setCell ⟨qw, 3, none⟩ (.bool s3)).setCell ⟨qw, 4, none⟩ (.int .i64 s4)).setCell ⟨qw, 5, none⟩ (.int .i64 s5)).setCell ⟨qw, 6, none⟩ (.bool s6)).setCell ⟨qw, 7, none⟩ (.slice sA sl.length sc)).setCell ⟨qw, 8, none⟩ (.int .i64 s8)).setCell ⟨qw, 9, none⟩ (.int .i64 s9)).setCell ⟨qw, 10, none⟩ (.int .i64 s10)).heap[qw]? = some (.cells #[.int .i64 s0, .int .i64 s1, .int .i64 s2, .bool s3, .int .i64 s4, .int .i64 s5, .bool s6, .slice sA sl.length sc, .int .i64 s8, .int .i64 s9, .int .i64 s10] 30 (0, 0))) := ⟨by have h_ := blk_set (blk_set (blk_set (blk_set (blk_set (blk_set (blk_set (blk_set (blk_set (blk_set (blk_set (B_qw.1) 0 (.int .i64 s0)) 1 (.int .i64 s1)) 2 (.int .i64 s2)) 3 (.bool s3)) 4 (.int .i64 s4)) 5 (.int .i64 s5)) 6 (.bool s6)) 7 (.slice sA sl.length sc)) 8 (.int .i64 s8)) 9 (.int .i64 s9)) 10 (.int .i64 s10); simp only [zA, zB, zC] at h_; exact h_⟩
 have n3_ : Aside0 (Below w.heap.size w (((((((((((w2_.setCell ⟨qw, 0, none⟩ (.int .i64 s0)).setCell ⟨qw, 1, none⟩ (.int .i64 s1)).setCell ⟨qw, 2, none⟩ (.int .i64 s2)).setCell ⟨qw, 3, none⟩ (.bool s3)).setCell ⟨qw, 4, none⟩ (.int .i64 s4)).setCell ⟨qw, 5, none⟩ (.int .i64 s5)).setCell ⟨qw, 6, none⟩ (.bool s6)).setCell ⟨qw, 7, none⟩ (.slice sA sl.length sc)).setCell ⟨qw, 8, none⟩ (.int .i64 s8)).setCell ⟨qw, 9, none⟩ (.int .i64 s9)).setCell ⟨qw, 10, none⟩ (.int .i64 s10))) := ⟨below_set (below_set (below_set (below_set (below_set (below_set (below_set (below_set (below_set (below_set (below_set (HB.1) E_qw.1) E_qw.1) E_qw.1) E_qw.1) E_qw.1) E_qw.1) E_qw.1) E_qw.1) E_qw.1) E_qw.1) E_qw.1⟩
 clear B_g B_qn B_qw HB
 have B_g := n0_
 have B_qn := n1_
 have B_qw := n2_
 have HB := n3_
 clear n0_ n1_ n2_ n3_
 generalize (((((((((((w2_.setCell ⟨qw, 0, none⟩ (.int .i64 s0)).setCell ⟨qw, 1, none⟩ (.int .i64 s1)).setCell ⟨qw, 2, none⟩ (.int .i64 s2)).setCell ⟨qw, 3, none⟩ (.bool s3)).setCell ⟨qw, 4, none⟩ (.int .i64 s4)).setCell ⟨qw, 5, none⟩ (.int .i64 s5)).setCell ⟨qw, 6, none⟩ (.bool s6)).setCell ⟨qw, 7, none⟩ (.slice sA sl.length sc)).setCell ⟨qw, 8, none⟩ (.int .i64 s8)).setCell ⟨qw, 9, none⟩ (.int .i64 s9)).setCell ⟨qw, 10, none⟩ (.int .i64 s10)) = w3_ at B_g B_qn B_qw HB ⊢
 obtain ⟨hc_qn_0, hc_qn_1⟩ := cc2 B_qn.1
 go_upto_region 4 with ((go_at_call 31; (with_reducible refine (span_Mid.calls k y0 y1 tz _ HTO.1).mono ?_); rintro e w4_ ⟨rfl, hb⟩; replace B_g := bb hb B_g.1; replace B_qn := bb hb B_qn.1; replace B_qw := bb hb B_qw.1; replace HB := Aside0.mk (below_step HB.1 hb); clear hb))
 clear hc_qn_0 hc_qn_1
 have hc_qw_2 : w4_.cell? ⟨qw, 2, none⟩ = some (.int .i64 s2) := (blk_cell B_qw.1 2).trans rfl
 go_upto_region 5 with (first | ((with_reducible refine gate_dst (N := 26) rfl ?_); refine Kd.R_lit (Kd.int .i64) _ 3 ?hg (N := 26) ?hd (xs := ([s2, tk] : List Int)) (inner := [.int .i64 s2, .int .i64 tk]) (ok := fun _ => True) (okp := fun _ => True) ?hr ?hp (fun _ hk => hk) trivial (Below.refl _ _) (Nat.le_refl _) (by simp) ?_; (case hd => rfl); (case hg => rfl); (case hr => first | (go_simp; done) | (go_simp; rfl)); (case hp => exact (Reps.one (show Kd.M (Kd.int .i64) _ _ _ (s2) [.int .i64 (s2)] from rfl) (Reps.one (show Kd.M (Kd.int .i64) _ _ _ (tk) [.int .i64 (tk)] from rfl) (Reps.none _ _)))); intro v_y w5_ ho hb hg_ hnew_; clear hg_ hnew_; replace B_g := bb hb B_g.1; replace B_qn := bb hb B_qn.1; replace B_qw := bb hb B_qw.1; replace HB := Aside0.mk (below_step HB.1 hb); have R0_y := Aside0.mk ho; obtain ⟨A_y, c_y, e_y⟩ := Kd.R_slice R0_y.1; subst e_y; clear ho hb) | (go_at_call 34; (with_reducible refine (hx.add2 k A_y c_y s2 tk ad _ (Kd.R_reads' R0_y.1).2.2 (Kd.R_reads' R0_y.1).2.1 HAD.1).mono ?_); rintro e w6_ ⟨rfl, hd_⟩; have hb := hd_.below; clear hd_; replace B_g := bb hb B_g.1; replace B_qn := bb hb B_qn.1; replace B_qw := bb hb B_qw.1; replace HB := Aside0.mk (below_step HB.1 hb); clear hb) | (go_at_call 33; (with_reducible refine (sat_Sub.calls k tz ad sb _ HSB.1).mono ?_); rintro e w7_ ⟨rfl, hd_⟩; have hb := hd_.below; clear hd_; replace B_g := bb hb B_g.1; replace B_qn := bb hb B_qn.1; replace B_qw := bb hb B_qw.1; replace HB := Aside0.mk (below_step HB.1 hb); clear hb) | (go_at_call 32; (with_reducible refine (sat_Abs.calls k sb off _ HOFF.1).mono ?_); rintro e w8_ ⟨rfl, hd_⟩; have hb := hd_.below; clear hd_; replace B_g := bb hb B_g.1; replace B_qn := bb hb B_qn.1; replace B_qw := bb hb B_qw.1; replace HB := Aside0.mk (below_step HB.1 hb); clear hb))
 clear hc_qw_2
 go_cut [9] (fun v9 wc => v9 = .bool j ∧ Aside0 (wc.heap[g]? = some (.cells #[.int .i64 p0, .int .i64 p1, .int .i64 p2, .int .i64 p3, .int .i64 p4, .int .i64 p5, .int .i64 p6, .int .i64 p7, .int .i64 p8, .int .i64 p9, .int .i64 p10, .int .i64 p11, .int .i64 s0, .int .i64 s1, .int .i64 s2, .bool s3, .int .i64 s4, .int .i64 s5, .bool s6, .slice sA sl.length sc, .int .i64 s8, .int .i64 s9, .int .i64 s10] 35 (0, 0))) ∧ Aside0 (wc.heap[qn]? = some (.cells #[.int .i64 y0, .int .i64 y1, .int .i64 y2, .bool y3, .int .i64 y4, .int .i64 y5, .bool y6, .slice yA yl.length yc, .int .i64 y8, .int .i64 y9, .int .i64 y10] 30 (0, 0))) ∧ Aside0 (wc.heap[qw]? = some (.cells #[.int .i64 s0, .int .i64 s1, .int .i64 s2, .bool s3, .int .i64 s4, .int .i64 s5, .bool s6, .slice sA sl.length sc, .int .i64 s8, .int .i64 s9, .int .i64 s10] 30 (0, 0))) ∧ Aside0 (Below w.heap.size w wc))
 case first =>
  rcases HJ.1 with ⟨ha, hb⟩ | ⟨ha, fa, hfa, hb⟩
  ·subst hb
   have HHA := Aside0.mk ha
   clear ha
   replace B_g := Aside0.mk (blk_drew B_g.1)
   replace B_qn := Aside0.mk (blk_drew B_qn.1)
   replace B_qw := Aside0.mk (blk_drew B_qw.1)
   replace HB := Aside0.mk (below_drew1 HB.1)
   refine start_ (n := 19) (S := fun w' => w'.heap[g]? = some (.cells #[.int .i64 p0, .int .i64 p1, .int .i64 p2, .int .i64 p3, .int .i64 p4, .int .i64 p5, .int .i64 p6, .int .i64 p7, .int .i64 p8, .int .i64 p9, .int .i64 p10, .int .i64 p11, .int .i64 s0, .int .i64 s1, .int .i64 s2, .bool s3, .int .i64 s4, .int .i64 s5, .bool s6, .slice sA sl.length sc, .int .i64 s8, .int .i64 s9, .int .i64 s10] 35 (0, 0)) ∧ w'.heap[qn]? = some (.cells #[.int .i64 y0, .int .i64 y1, .int .i64 y2, .bool y3, .int .i64 y4, .int .i64 y5, .bool y6, .slice yA yl.length yc, .int .i64 y8, .int .i64 y9, .int .i64 y10] 30 (0, 0)) ∧ w'.heap[qw]? = some (.cells #[.int .i64 s0, .int .i64 s1, .int .i64 s2, .bool s3, .int .i64 s4, .int .i64 s5, .bool s6, .slice sA sl.length sc, .int .i64 s8, .int .i64 s9, .int .i64 s10] 30 (0, 0))) (ds := []) (bs 19 0) (by kernel_rfl) rfl (by rfl) ⟨B_g.1, B_qn.1, B_qw.1⟩ (fun hHeld => ?_)
   generalize w8_.drew = w9_ at B_g B_qn B_qw HB hHeld ⊢
   refine pu 0 30 1 ?_
   refine pu 1 31 3 ?_
   refine pu 2 32 7 ?_
   refine take_ (i := 3) (N := some 33) (v := ?_) (a' := ?_) (bs 19 15) rfl rfl (by kernel_rfl) (fun _ _ _ h => h) (Or.inl ⟨by rfl, ?_⟩) hHeld ?_ ?_
   rotate_left
   ·rintro w' ⟨s_g, s_qn, s_qw⟩
    have c_0 : w'.cell? ⟨g, 0, none⟩ = some (.int .i64 p0) := (blk_cell s_g 0).trans rfl
    have c_1 : w'.cell? ⟨g, 1, none⟩ = some (.int .i64 p1) := (blk_cell s_g 1).trans rfl
    have c_2 : w'.cell? ⟨g, 2, none⟩ = some (.int .i64 p2) := (blk_cell s_g 2).trans rfl
    have c_3 : w'.cell? ⟨g, 3, none⟩ = some (.int .i64 p3) := (blk_cell s_g 3).trans rfl
    have c_4 : w'.cell? ⟨g, 4, none⟩ = some (.int .i64 p4) := (blk_cell s_g 4).trans rfl
    have c_5 : w'.cell? ⟨g, 5, none⟩ = some (.int .i64 p5) := (blk_cell s_g 5).trans rfl
    have c_6 : w'.cell? ⟨g, 6, none⟩ = some (.int .i64 p6) := (blk_cell s_g 6).trans rfl
    have c_7 : w'.cell? ⟨g, 7, none⟩ = some (.int .i64 p7) := (blk_cell s_g 7).trans rfl
    have c_8 : w'.cell? ⟨g, 8, none⟩ = some (.int .i64 p8) := (blk_cell s_g 8).trans rfl
    have c_9 : w'.cell? ⟨g, 9, none⟩ = some (.int .i64 p9) := (blk_cell s_g 9).trans rfl
    have c_10 : w'.cell? ⟨g, 10, none⟩ = some (.int .i64 p10) := (blk_cell s_g 10).trans rfl
    have c_11 : w'.cell? ⟨g, 11, none⟩ = some (.int .i64 p11) := (blk_cell s_g 11).trans rfl
    clear s_g s_qn s_qw
    go_simp
    with_reducible rfl
   rotate_left
   ·simp only [Act.put, zA, zB, zC, i64_w, i32_w]
    rfl
   refine take_ (i := 4) (N := some 34) (v := ?_) (a' := ?_) (bs 19 31) rfl rfl (by kernel_rfl) (fun _ _ _ h => h) (Or.inl ⟨by rfl, ?_⟩) hHeld ?_ ?_
   rotate_left
   ·rintro w' ⟨s_g, s_qn, s_qw⟩
    have c_0 : w'.cell? ⟨qw, 0, none⟩ = some (.int .i64 s0) := (blk_cell s_qw 0).trans rfl
    have c_1 : w'.cell? ⟨qw, 1, none⟩ = some (.int .i64 s1) := (blk_cell s_qw 1).trans rfl
    have c_2 : w'.cell? ⟨qw, 2, none⟩ = some (.int .i64 s2) := (blk_cell s_qw 2).trans rfl
    have c_3 : w'.cell? ⟨qw, 3, none⟩ = some (.bool s3) := (blk_cell s_qw 3).trans rfl
    have c_4 : w'.cell? ⟨qw, 4, none⟩ = some (.int .i64 s4) := (blk_cell s_qw 4).trans rfl
    have c_5 : w'.cell? ⟨qw, 5, none⟩ = some (.int .i64 s5) := (blk_cell s_qw 5).trans rfl
    have c_6 : w'.cell? ⟨qw, 6, none⟩ = some (.bool s6) := (blk_cell s_qw 6).trans rfl
    have c_7 : w'.cell? ⟨qw, 7, none⟩ = some (.slice sA sl.length sc) := (blk_cell s_qw 7).trans rfl
    have c_8 : w'.cell? ⟨qw, 8, none⟩ = some (.int .i64 s8) := (blk_cell s_qw 8).trans rfl
    have c_9 : w'.cell? ⟨qw, 9, none⟩ = some (.int .i64 s9) := (blk_cell s_qw 9).trans rfl
    have c_10 : w'.cell? ⟨qw, 10, none⟩ = some (.int .i64 s10) := (blk_cell s_qw 10).trans rfl
    clear s_g s_qn s_qw
    go_simp
    with_reducible rfl
   rotate_left
   ·simp only [Act.put, zA, zB, zC, i64_w, i32_w]
    rfl
   refine one_ (i := 5) (N := some 35) (bs 19 63) rfl rfl (by kernel_rfl) (by decide) (fun K hK => ?_)
   refine goes_ Tryd.func26 (by kernel_rfl) rfl #[.agg #[.int .i64 p0, .int .i64 p1, .int .i64 p2, .int .i64 p3, .int .i64 p4, .int .i64 p5, .int .i64 p6, .int .i64 p7, .int .i64 p8, .int .i64 p9, .int .i64 p10, .int .i64 p11], .agg #[.int .i64 s0, .int .i64 s1, .int .i64 s2, .bool s3, .int .i64 s4, .int .i64 s5, .bool s6, .slice sA sl.length sc, .int .i64 s8, .int .i64 s9, .int .i64 s10]] (by rfl) rfl rfl (by (try simp only [List.map_toArray, List.map_cons, List.map_nil]); first | done | rfl) ?_
   with_reducible refine (health_Of.calls k p0 p1 p2 p3 p4 p5 p6 p7 p8 p9 p10 p11 s0 s1 s2 s3 s4 s5 s6 sA sc sl s8 s9 s10 hh _ (Kd.C_below HRs.1 HB.1) HCs.1 HHF.1).mono ?_
   rintro e w10_ ⟨rfl, hb⟩
   replace B_g := bb hb B_g.1
   replace B_qn := bb hb B_qn.1
   replace B_qw := bb hb B_qw.1
   replace HB := Aside0.mk (below_step HB.1 hb)
   clear hb
   refine ⟨_, rfl, ?_⟩
   refine hK.out _ _ ⟨B_g.1, B_qn.1, B_qw.1⟩ (fun hHeld => ?_)
   clear hK K
   refine nm 35 ?_
   refine pure_ (i := 6) (N := some 36) (v := .bool true) (a' := ?_) (bs 19 127) rfl rfl (by kernel_rfl) (fun _ _ _ h => h) (Or.inl ⟨by rfl, ?_⟩) ?_ ?_
   ·intro w'
    go_simp
    simp [HHA.1]
   rotate_left
   ·simp only [Act.put, zA, zB, zC, i64_w, i32_w]
    rfl
   refine pu 7 37 255 ?_
   refine pn 8 38 511 ?_
   refine pn 9 39 1023 ?_
   refine pn 10 40 2047 ?_
   refine pn 11 41 4095 ?_
   refine pn 12 42 8191 ?_
   refine pn 13 43 16383 ?_
   refine pn 14 44 32767 ?_
   refine pn 15 45 65535 ?_
   refine pn 16 46 131071 ?_
   refine pu 17 47 262143 ?_
   refine pu 18 9 524287 ?_
   refine done_ (by kernel_rfl) ?_
   try go_wp2
   go_meet
   case rel => exact ⟨rfl, B_g, B_qn, B_qw, HB⟩
  ·subst hb
   have HHA := Aside0.mk ha
   have HFA := Aside0.mk hfa
   clear hfa
   clear ha
   replace B_g := Aside0.mk (blk_drew B_g.1)
   replace B_qn := Aside0.mk (blk_drew B_qn.1)
   replace B_qw := Aside0.mk (blk_drew B_qw.1)
   replace HB := Aside0.mk (below_drew1 HB.1)
   refine start_ (n := 19) (S := fun w' => w'.heap[g]? = some (.cells #[.int .i64 p0, .int .i64 p1, .int .i64 p2, .int .i64 p3, .int .i64 p4, .int .i64 p5, .int .i64 p6, .int .i64 p7, .int .i64 p8, .int .i64 p9, .int .i64 p10, .int .i64 p11, .int .i64 s0, .int .i64 s1, .int .i64 s2, .bool s3, .int .i64 s4, .int .i64 s5, .bool s6, .slice sA sl.length sc, .int .i64 s8, .int .i64 s9, .int .i64 s10] 35 (0, 0)) ∧ w'.heap[qn]? = some (.cells #[.int .i64 y0, .int .i64 y1, .int .i64 y2, .bool y3, .int .i64 y4, .int .i64 y5, .bool y6, .slice yA yl.length yc, .int .i64 y8, .int .i64 y9, .int .i64 y10] 30 (0, 0)) ∧ w'.heap[qw]? = some (.cells #[.int .i64 s0, .int .i64 s1, .int .i64 s2, .bool s3, .int .i64 s4, .int .i64 s5, .bool s6, .slice sA sl.length sc, .int .i64 s8, .int .i64 s9, .int .i64 s10] 30 (0, 0))) (ds := []) (bs 19 0) (by kernel_rfl) rfl (by rfl) ⟨B_g.1, B_qn.1, B_qw.1⟩ (fun hHeld => ?_)
   generalize w8_.drew = w11_ at B_g B_qn B_qw HB hHeld ⊢
   refine pu 0 30 1 ?_
   refine pu 1 31 3 ?_
   refine pu 2 32 7 ?_
   refine take_ (i := 3) (N := some 33) (v := ?_) (a' := ?_) (bs 19 15) rfl rfl (by kernel_rfl) (fun _ _ _ h => h) (Or.inl ⟨by rfl, ?_⟩) hHeld ?_ ?_
   rotate_left
   ·rintro w' ⟨s_g, s_qn, s_qw⟩
    have c_0 : w'.cell? ⟨g, 0, none⟩ = some (.int .i64 p0) := (blk_cell s_g 0).trans rfl
    have c_1 : w'.cell? ⟨g, 1, none⟩ = some (.int .i64 p1) := (blk_cell s_g 1).trans rfl
    have c_2 : w'.cell? ⟨g, 2, none⟩ = some (.int .i64 p2) := (blk_cell s_g 2).trans rfl
    have c_3 : w'.cell? ⟨g, 3, none⟩ = some (.int .i64 p3) := (blk_cell s_g 3).trans rfl
    have c_4 : w'.cell? ⟨g, 4, none⟩ = some (.int .i64 p4) := (blk_cell s_g 4).trans rfl
    have c_5 : w'.cell? ⟨g, 5, none⟩ = some (.int .i64 p5) := (blk_cell s_g 5).trans rfl
    have c_6 : w'.cell? ⟨g, 6, none⟩ = some (.int .i64 p6) := (blk_cell s_g 6).trans rfl
    have c_7 : w'.cell? ⟨g, 7, none⟩ = some (.int .i64 p7) := (blk_cell s_g 7).trans rfl
    have c_8 : w'.cell? ⟨g, 8, none⟩ = some (.int .i64 p8) := (blk_cell s_g 8).trans rfl
    have c_9 : w'.cell? ⟨g, 9, none⟩ = some (.int .i64 p9) := (blk_cell s_g 9).trans rfl
    have c_10 : w'.cell? ⟨g, 10, none⟩ = some (.int .i64 p10) := (blk_cell s_g 10).trans rfl
    have c_11 : w'.cell? ⟨g, 11, none⟩ = some (.int .i64 p11) := (blk_cell s_g 11).trans rfl
    clear s_g s_qn s_qw
    go_simp
    with_reducible rfl
   rotate_left
   ·simp only [Act.put, zA, zB, zC, i64_w, i32_w]
    rfl
   refine take_ (i := 4) (N := some 34) (v := ?_) (a' := ?_) (bs 19 31) rfl rfl (by kernel_rfl) (fun _ _ _ h => h) (Or.inl ⟨by rfl, ?_⟩) hHeld ?_ ?_
   rotate_left
   ·rintro w' ⟨s_g, s_qn, s_qw⟩
    have c_0 : w'.cell? ⟨qw, 0, none⟩ = some (.int .i64 s0) := (blk_cell s_qw 0).trans rfl
    have c_1 : w'.cell? ⟨qw, 1, none⟩ = some (.int .i64 s1) := (blk_cell s_qw 1).trans rfl
    have c_2 : w'.cell? ⟨qw, 2, none⟩ = some (.int .i64 s2) := (blk_cell s_qw 2).trans rfl
    have c_3 : w'.cell? ⟨qw, 3, none⟩ = some (.bool s3) := (blk_cell s_qw 3).trans rfl
    have c_4 : w'.cell? ⟨qw, 4, none⟩ = some (.int .i64 s4) := (blk_cell s_qw 4).trans rfl
    have c_5 : w'.cell? ⟨qw, 5, none⟩ = some (.int .i64 s5) := (blk_cell s_qw 5).trans rfl
    have c_6 : w'.cell? ⟨qw, 6, none⟩ = some (.bool s6) := (blk_cell s_qw 6).trans rfl
    have c_7 : w'.cell? ⟨qw, 7, none⟩ = some (.slice sA sl.length sc) := (blk_cell s_qw 7).trans rfl
    have c_8 : w'.cell? ⟨qw, 8, none⟩ = some (.int .i64 s8) := (blk_cell s_qw 8).trans rfl
    have c_9 : w'.cell? ⟨qw, 9, none⟩ = some (.int .i64 s9) := (blk_cell s_qw 9).trans rfl
    have c_10 : w'.cell? ⟨qw, 10, none⟩ = some (.int .i64 s10) := (blk_cell s_qw 10).trans rfl
    clear s_g s_qn s_qw
    go_simp
    with_reducible rfl
   rotate_left
   ·simp only [Act.put, zA, zB, zC, i64_w, i32_w]
    rfl
   refine one_ (i := 5) (N := some 35) (bs 19 63) rfl rfl (by kernel_rfl) (by decide) (fun K hK => ?_)
   refine goes_ Tryd.func26 (by kernel_rfl) rfl #[.agg #[.int .i64 p0, .int .i64 p1, .int .i64 p2, .int .i64 p3, .int .i64 p4, .int .i64 p5, .int .i64 p6, .int .i64 p7, .int .i64 p8, .int .i64 p9, .int .i64 p10, .int .i64 p11], .agg #[.int .i64 s0, .int .i64 s1, .int .i64 s2, .bool s3, .int .i64 s4, .int .i64 s5, .bool s6, .slice sA sl.length sc, .int .i64 s8, .int .i64 s9, .int .i64 s10]] (by rfl) rfl rfl (by (try simp only [List.map_toArray, List.map_cons, List.map_nil]); first | done | rfl) ?_
   with_reducible refine (health_Of.calls k p0 p1 p2 p3 p4 p5 p6 p7 p8 p9 p10 p11 s0 s1 s2 s3 s4 s5 s6 sA sc sl s8 s9 s10 hh _ (Kd.C_below HRs.1 HB.1) HCs.1 HHF.1).mono ?_
   rintro e w12_ ⟨rfl, hb⟩
   replace B_g := bb hb B_g.1
   replace B_qn := bb hb B_qn.1
   replace B_qw := bb hb B_qw.1
   replace HB := Aside0.mk (below_step HB.1 hb)
   clear hb
   refine ⟨_, rfl, ?_⟩
   refine hK.out _ _ ⟨B_g.1, B_qn.1, B_qw.1⟩ (fun hHeld => ?_)
   clear hK K
   refine nm 35 ?_
   refine pure_ (i := 6) (N := some 36) (v := .bool false) (a' := ?_) (bs 19 127) rfl rfl (by kernel_rfl) (fun _ _ _ h => h) (Or.inl ⟨by rfl, ?_⟩) ?_ ?_
   ·intro w'
    go_simp
    simp [HHA.1]
   rotate_left
   ·simp only [Act.put, zA, zB, zC, i64_w, i32_w]
    rfl
   refine pu 7 37 255 ?_
   refine pu 8 38 511 ?_
   refine pu 9 39 1023 ?_
   refine pu 10 40 2047 ?_
   refine pu 11 41 4095 ?_
   refine pu 13 43 12287 ?_
   refine take_ (i := 12) (N := some 42) (v := ?_) (a' := ?_) (bs 19 16383) rfl rfl (by kernel_rfl) (fun _ _ _ h => h) (Or.inl ⟨by rfl, ?_⟩) hHeld ?_ ?_
   rotate_left
   ·rintro w' ⟨s_g, s_qn, s_qw⟩
    have c_0 : w'.cell? ⟨g, 0, none⟩ = some (.int .i64 p0) := (blk_cell s_g 0).trans rfl
    have c_1 : w'.cell? ⟨g, 1, none⟩ = some (.int .i64 p1) := (blk_cell s_g 1).trans rfl
    have c_2 : w'.cell? ⟨g, 2, none⟩ = some (.int .i64 p2) := (blk_cell s_g 2).trans rfl
    have c_3 : w'.cell? ⟨g, 3, none⟩ = some (.int .i64 p3) := (blk_cell s_g 3).trans rfl
    have c_4 : w'.cell? ⟨g, 4, none⟩ = some (.int .i64 p4) := (blk_cell s_g 4).trans rfl
    have c_5 : w'.cell? ⟨g, 5, none⟩ = some (.int .i64 p5) := (blk_cell s_g 5).trans rfl
    have c_6 : w'.cell? ⟨g, 6, none⟩ = some (.int .i64 p6) := (blk_cell s_g 6).trans rfl
    have c_7 : w'.cell? ⟨g, 7, none⟩ = some (.int .i64 p7) := (blk_cell s_g 7).trans rfl
    have c_8 : w'.cell? ⟨g, 8, none⟩ = some (.int .i64 p8) := (blk_cell s_g 8).trans rfl
    have c_9 : w'.cell? ⟨g, 9, none⟩ = some (.int .i64 p9) := (blk_cell s_g 9).trans rfl
    have c_10 : w'.cell? ⟨g, 10, none⟩ = some (.int .i64 p10) := (blk_cell s_g 10).trans rfl
    have c_11 : w'.cell? ⟨g, 11, none⟩ = some (.int .i64 p11) := (blk_cell s_g 11).trans rfl
    clear s_g s_qn s_qw
    go_simp
    with_reducible rfl
   rotate_left
   ·simp only [Act.put, zA, zB, zC, i64_w, i32_w]
    rfl
   refine take_ (i := 14) (N := some 44) (v := ?_) (a' := ?_) (bs 19 32767) rfl rfl (by kernel_rfl) (fun _ _ _ h => h) (Or.inl ⟨by rfl, ?_⟩) hHeld ?_ ?_
   rotate_left
   ·rintro w' ⟨s_g, s_qn, s_qw⟩
    have c_4 : w'.cell? ⟨qn, 4, none⟩ = some (.int .i64 y4) := (blk_cell s_qn 4).trans rfl
    clear s_g s_qn s_qw
    go_simp
    with_reducible rfl
   rotate_left
   ·simp only [Act.put, zA, zB, zC, i64_w, i32_w]
    rfl
   refine one_ (i := 15) (N := some 45) (bs 19 65535) rfl rfl (by kernel_rfl) (by decide) (fun K hK => ?_)
   refine goes_ Tryd.func35 (by kernel_rfl) rfl #[.agg #[.int .i64 p0, .int .i64 p1, .int .i64 p2, .int .i64 p3, .int .i64 p4, .int .i64 p5, .int .i64 p6, .int .i64 p7, .int .i64 p8, .int .i64 p9, .int .i64 p10, .int .i64 p11], .int .i64 y4] (by rfl) rfl rfl (by (try simp only [List.map_toArray, List.map_cons, List.map_nil]); first | done | rfl) ?_
   with_reducible refine (health_Far.calls k p0 p1 p2 p3 p4 p5 p6 p7 p8 p9 p10 p11 y4 fa _ HFA.1).mono ?_
   rintro e w13_ ⟨rfl, hb⟩
   replace B_g := bb hb B_g.1
   replace B_qn := bb hb B_qn.1
   replace B_qw := bb hb B_qw.1
   replace HB := Aside0.mk (below_step HB.1 hb)
   clear hb
   refine ⟨_, rfl, ?_⟩
   refine hK.out _ _ ⟨B_g.1, B_qn.1, B_qw.1⟩ (fun hHeld => ?_)
   clear hK K
   refine nm 45 ?_
   refine pu 16 46 131071 ?_
   refine pu 17 47 262143 ?_
   refine pu 18 9 524287 ?_
   refine done_ (by kernel_rfl) ?_
   try go_wp2
   go_meet
   case rel => exact ⟨rfl, B_g, B_qn, B_qw, HB⟩
 case rest =>
  clear B_g B_qn B_qw HB
  obtain ⟨w14_, ew_⟩ : ∃ x, x = wc := ⟨_, rfl⟩
  subst ew_
  obtain ⟨e9_, B_g, B_qn, B_qw, HB⟩ := hcut
  subst e9_
  clear HJ
  go_upto_region 6 with (fail)
  replace B_g := Aside0.mk (blk_drew B_g.1)
  replace B_qn := Aside0.mk (blk_drew B_qn.1)
  replace B_qw := Aside0.mk (blk_drew B_qw.1)
  replace HB := Aside0.mk (below_drew1 HB.1)
  refine start_ (n := 15) (S := fun w' => w'.heap[g]? = some (.cells #[.int .i64 p0, .int .i64 p1, .int .i64 p2, .int .i64 p3, .int .i64 p4, .int .i64 p5, .int .i64 p6, .int .i64 p7, .int .i64 p8, .int .i64 p9, .int .i64 p10, .int .i64 p11, .int .i64 s0, .int .i64 s1, .int .i64 s2, .bool s3, .int .i64 s4, .int .i64 s5, .bool s6, .slice sA sl.length sc, .int .i64 s8, .int .i64 s9, .int .i64 s10] 35 (0, 0)) ∧ w'.heap[qn]? = some (.cells #[.int .i64 y0, .int .i64 y1, .int .i64 y2, .bool y3, .int .i64 y4, .int .i64 y5, .bool y6, .slice yA yl.length yc, .int .i64 y8, .int .i64 y9, .int .i64 y10] 30 (0, 0)) ∧ w'.heap[qw]? = some (.cells #[.int .i64 s0, .int .i64 s1, .int .i64 s2, .bool s3, .int .i64 s4, .int .i64 s5, .bool s6, .slice sA sl.length sc, .int .i64 s8, .int .i64 s9, .int .i64 s10] 30 (0, 0))) (ds := []) (bs 15 0) (by kernel_rfl) rfl (by rfl) ⟨B_g.1, B_qn.1, B_qw.1⟩ (fun hHeld => ?_)
  generalize w14_.drew = w15_ at B_g B_qn B_qw HB hHeld ⊢
  refine pu 0 48 1 ?_
  refine pu 2 50 5 ?_
  refine pu 5 53 37 ?_
  refine pu 6 54 101 ?_
  refine pu 7 55 229 ?_
  refine pu 9 57 741 ?_
  refine pu 10 58 1765 ?_
  refine pu 11 59 3813 ?_
  refine take_ (i := 1) (N := some 49) (v := ?_) (a' := ?_) (bs 15 3815) rfl rfl (by kernel_rfl) (fun _ _ _ h => h) (Or.inl ⟨by rfl, ?_⟩) hHeld ?_ ?_
  rotate_left
  ·rintro w' ⟨s_g, s_qn, s_qw⟩
   have c_2 : w'.cell? ⟨qw, 2, none⟩ = some (.int .i64 s2) := (blk_cell s_qw 2).trans rfl
   clear s_g s_qn s_qw
   go_simp
   with_reducible rfl
  rotate_left
  ·simp only [Act.put, zA, zB, zC, i64_w, i32_w]
   rfl
  refine take_ (i := 3) (N := some 51) (v := ?_) (a' := ?_) (bs 15 3823) rfl rfl (by kernel_rfl) (fun _ _ _ h => h) (Or.inl ⟨by rfl, ?_⟩) hHeld ?_ ?_
  rotate_left
  ·rintro w' ⟨s_g, s_qn, s_qw⟩
   have c_3 : w'.cell? ⟨qw, 3, none⟩ = some (.bool s3) := (blk_cell s_qw 3).trans rfl
   clear s_g s_qn s_qw
   go_simp
   with_reducible rfl
  rotate_left
  ·simp only [Act.put, zA, zB, zC, i64_w, i32_w]
   rfl
  refine pu 4 52 3839 ?_
  refine take_ (i := 8) (N := some 56) (v := ?_) (a' := ?_) (bs 15 4095) rfl rfl (by kernel_rfl) (fun _ _ _ h => h) (Or.inl ⟨by rfl, ?_⟩) hHeld ?_ ?_
  rotate_left
  ·rintro w' ⟨s_g, s_qn, s_qw⟩
   have c_0 : w'.cell? ⟨g, 0, none⟩ = some (.int .i64 p0) := (blk_cell s_g 0).trans rfl
   have c_1 : w'.cell? ⟨g, 1, none⟩ = some (.int .i64 p1) := (blk_cell s_g 1).trans rfl
   have c_2 : w'.cell? ⟨g, 2, none⟩ = some (.int .i64 p2) := (blk_cell s_g 2).trans rfl
   have c_3 : w'.cell? ⟨g, 3, none⟩ = some (.int .i64 p3) := (blk_cell s_g 3).trans rfl
   have c_4 : w'.cell? ⟨g, 4, none⟩ = some (.int .i64 p4) := (blk_cell s_g 4).trans rfl
   have c_5 : w'.cell? ⟨g, 5, none⟩ = some (.int .i64 p5) := (blk_cell s_g 5).trans rfl
   have c_6 : w'.cell? ⟨g, 6, none⟩ = some (.int .i64 p6) := (blk_cell s_g 6).trans rfl
   have c_7 : w'.cell? ⟨g, 7, none⟩ = some (.int .i64 p7) := (blk_cell s_g 7).trans rfl
   have c_8 : w'.cell? ⟨g, 8, none⟩ = some (.int .i64 p8) := (blk_cell s_g 8).trans rfl
   have c_9 : w'.cell? ⟨g, 9, none⟩ = some (.int .i64 p9) := (blk_cell s_g 9).trans rfl
   have c_10 : w'.cell? ⟨g, 10, none⟩ = some (.int .i64 p10) := (blk_cell s_g 10).trans rfl
   have c_11 : w'.cell? ⟨g, 11, none⟩ = some (.int .i64 p11) := (blk_cell s_g 11).trans rfl
   clear s_g s_qn s_qw
   go_simp
   with_reducible rfl
  rotate_left
  ·simp only [Act.put, zA, zB, zC, i64_w, i32_w]
   rfl
  refine join_ (σ := Nat) 1 (bs 15 16383) (fun s_ => [(60, .agg #[.int .i64 ct, .bool cs]), (10, .pointer (some ⟨s_, 0, none⟩))]) (fun s_ w' => (w'.heap[g]? = some (.cells #[.int .i64 p0, .int .i64 p1, .int .i64 p2, .int .i64 p3, .int .i64 p4, .int .i64 p5, .int .i64 p6, .int .i64 p7, .int .i64 p8, .int .i64 p9, .int .i64 p10, .int .i64 p11, .int .i64 s0, .int .i64 s1, .int .i64 s2, .bool s3, .int .i64 s4, .int .i64 s5, .bool s6, .slice sA sl.length sc, .int .i64 s8, .int .i64 s9, .int .i64 s10] 35 (0, 0)) ∧ w'.heap[qn]? = some (.cells #[.int .i64 y0, .int .i64 y1, .int .i64 y2, .bool y3, .int .i64 y4, .int .i64 y5, .bool y6, .slice yA yl.length yc, .int .i64 y8, .int .i64 y9, .int .i64 y10] 30 (0, 0)) ∧ w'.heap[qw]? = some (.cells #[.int .i64 s0, .int .i64 s1, .int .i64 s2, .bool s3, .int .i64 s4, .int .i64 s5, .bool s6, .slice sA sl.length sc, .int .i64 s8, .int .i64 s9, .int .i64 s10] 30 (0, 0))) ∧ (w'.heap[g]? = some (.cells #[.int .i64 p0, .int .i64 p1, .int .i64 p2, .int .i64 p3, .int .i64 p4, .int .i64 p5, .int .i64 p6, .int .i64 p7, .int .i64 p8, .int .i64 p9, .int .i64 p10, .int .i64 p11, .int .i64 s0, .int .i64 s1, .int .i64 s2, .bool s3, .int .i64 s4, .int .i64 s5, .bool s6, .slice sA sl.length sc, .int .i64 s8, .int .i64 s9, .int .i64 s10] 35 (0, 0))) ∧ (w'.heap[qn]? = some (.cells #[.int .i64 y0, .int .i64 y1, .int .i64 y2, .bool y3, .int .i64 y4, .int .i64 y5, .bool y6, .slice yA yl.length yc, .int .i64 y8, .int .i64 y9, .int .i64 y10] 30 (0, 0))) ∧ (w'.heap[qw]? = some (.cells #[.int .i64 s0, .int .i64 s1, .int .i64 s2, .bool s3, .int .i64 s4, .int .i64 s5, .bool s6, .slice sA sl.length sc, .int .i64 s8, .int .i64 s9, .int .i64 s10] 30 (0, 0))) ∧ (w'.heap[s_]? = some (.cells #[.int .i64 0, .bool false] 72 (0, 0))) ∧ (Below w.heap.size w w') ∧ w.heap.size ≤ s_ ∧ g ≠ s_ ∧ s_ ≠ g ∧ qn ≠ s_ ∧ s_ ≠ qn ∧ qw ≠ s_ ∧ s_ ≠ qw) ?_ ?_
  rotate_left
  ·intro hCont
   refine two_ (i := 12) (j := 13) (Ni := some 60) (Nj := some 10) (bs 15 8191) (bs 15 12287) rfl rfl rfl rfl (by kernel_rfl) (by decide) (by decide) (fun K hK => ?_) (fun K hK => ?_)
   ·skip
    refine goes_ Tryd.func36 (by kernel_rfl) rfl #[.agg #[.int .i64 s2, .bool s3], .agg #[.int .i64 p0, .int .i64 p1, .int .i64 p2, .int .i64 p3, .int .i64 p4, .int .i64 p5, .int .i64 p6, .int .i64 p7, .int .i64 p8, .int .i64 p9, .int .i64 p10, .int .i64 p11], .int .i64 tk, .int .i64 tz, .bool j] (by rfl) rfl rfl (by (try simp only [List.map_toArray, List.map_cons, List.map_nil]); first | done | rfl) ?_
    with_reducible refine (slew_Clock_Step.calls k s2 s3 p0 p1 p2 p3 p4 p5 p6 p7 p8 p9 p10 p11 tk tz j ct cs _ HCL.1).mono ?_
    rintro e w16_ ⟨rfl, hb⟩
    replace B_g := bb hb B_g.1
    replace B_qn := bb hb B_qn.1
    replace B_qw := bb hb B_qw.1
    replace HB := Aside0.mk (below_step HB.1 hb)
    clear hb
    refine ⟨_, rfl, ?_⟩
    refine hK.out _ _ ⟨B_g.1, B_qn.1, B_qw.1⟩ (fun hHeld => ?_)
    clear hK K
    refine nm 60 ?_
    refine one_ (i := 13) (N := some 10) (bs 15 16383) rfl rfl (by kernel_rfl) (by decide) (fun K hK => ?_)
    refine box_step ?hg (N := 10) ?hd (cs := #[.int .i64 0, .bool false]) (t := 72) ?hr ?_; (case hd => rfl); (case hg => rfl); (case hr => first | (go_simp; done) | (go_simp; rfl))
    intro qc hg w17_ hbox hb
    have N_g_qc := nl hg B_g.1
    have N_qn_qc := nl hg B_qn.1
    have N_qw_qc := nl hg B_qw.1
    have N_qc_g := ng hg B_g.1
    have N_qc_qn := ng hg B_qn.1
    have N_qc_qw := ng hg B_qw.1
    have E_qc : Aside0 (w.heap.size ≤ qc) := ⟨by rw [hg]; exact below_size HB.1⟩
    replace B_g := bb hb B_g.1
    replace B_qn := bb hb B_qn.1
    replace B_qw := bb hb B_qw.1
    replace HB := Aside0.mk (below_step HB.1 hb)
    have B_qc := Aside0.mk hbox
    clear hb hbox hg
    refine hK.out _ _ ⟨B_g.1, B_qn.1, B_qw.1⟩ (fun hHeld => ?_)
    clear hK K
    refine nm 10 ?_
    exact norm_ (by simp only [putAll, Act.put, zA, zB, zC] <;> rfl) (hCont qc _ ⟨hHeld, B_g.1, B_qn.1, B_qw.1, B_qc.1, HB.1, E_qc.1, N_g_qc.1, N_qc_g.1, N_qn_qc.1, N_qc_qn.1, N_qw_qc.1, N_qc_qw.1⟩)
   ·skip
    refine box_step ?hg (N := 10) ?hd (cs := #[.int .i64 0, .bool false]) (t := 72) ?hr ?_; (case hd => rfl); (case hg => rfl); (case hr => first | (go_simp; done) | (go_simp; rfl))
    intro qc hg w18_ hbox hb
    have N_g_qc := nl hg B_g.1
    have N_qn_qc := nl hg B_qn.1
    have N_qw_qc := nl hg B_qw.1
    have N_qc_g := ng hg B_g.1
    have N_qc_qn := ng hg B_qn.1
    have N_qc_qw := ng hg B_qw.1
    have E_qc : Aside0 (w.heap.size ≤ qc) := ⟨by rw [hg]; exact below_size HB.1⟩
    replace B_g := bb hb B_g.1
    replace B_qn := bb hb B_qn.1
    replace B_qw := bb hb B_qw.1
    replace HB := Aside0.mk (below_step HB.1 hb)
    have B_qc := Aside0.mk hbox
    clear hb hbox hg
    refine hK.out _ _ ⟨B_g.1, B_qn.1, B_qw.1⟩ (fun hHeld => ?_)
    clear hK K
    refine nm 10 ?_
    refine one_ (i := 12) (N := some 60) (bs 15 16383) rfl rfl (by kernel_rfl) (by decide) (fun K hK => ?_)
    refine goes_ Tryd.func36 (by kernel_rfl) rfl #[.agg #[.int .i64 s2, .bool s3], .agg #[.int .i64 p0, .int .i64 p1, .int .i64 p2, .int .i64 p3, .int .i64 p4, .int .i64 p5, .int .i64 p6, .int .i64 p7, .int .i64 p8, .int .i64 p9, .int .i64 p10, .int .i64 p11], .int .i64 tk, .int .i64 tz, .bool j] (by rfl) rfl rfl (by (try simp only [List.map_toArray, List.map_cons, List.map_nil]); first | done | rfl) ?_
    with_reducible refine (slew_Clock_Step.calls k s2 s3 p0 p1 p2 p3 p4 p5 p6 p7 p8 p9 p10 p11 tk tz j ct cs _ HCL.1).mono ?_
    rintro e w19_ ⟨rfl, hb⟩
    replace B_g := bb hb B_g.1
    replace B_qn := bb hb B_qn.1
    replace B_qw := bb hb B_qw.1
    replace B_qc := bb hb B_qc.1
    replace HB := Aside0.mk (below_step HB.1 hb)
    clear hb
    refine ⟨_, rfl, ?_⟩
    refine hK.out _ _ ⟨B_g.1, B_qn.1, B_qw.1⟩ (fun hHeld => ?_)
    clear hK K
    refine nm 60 ?_
    exact norm_ (by simp only [putAll, Act.put, zA, zB, zC] <;> rfl) (hCont qc _ ⟨hHeld, B_g.1, B_qn.1, B_qw.1, B_qc.1, HB.1, E_qc.1, N_g_qc.1, N_qc_g.1, N_qn_qc.1, N_qc_qn.1, N_qw_qc.1, N_qc_qw.1⟩)
  rintro qc w20_ ⟨hS_, h0_, h1_, h2_, h3_, h4_, hE_, hN0_, hM0_, hN1_, hM1_, hN2_, hM2_⟩
  clear B_g B_qn B_qw HB
  have B_g : Aside0 (w20_.heap[g]? = some (.cells #[.int .i64 p0, .int .i64 p1, .int .i64 p2, .int .i64 p3, .int .i64 p4, .int .i64 p5, .int .i64 p6, .int .i64 p7, .int .i64 p8, .int .i64 p9, .int .i64 p10, .int .i64 p11, .int .i64 s0, .int .i64 s1, .int .i64 s2, .bool s3, .int .i64 s4, .int .i64 s5, .bool s6, .slice sA sl.length sc, .int .i64 s8, .int .i64 s9, .int .i64 s10] 35 (0, 0))) := ⟨h0_⟩
  have B_qn : Aside0 (w20_.heap[qn]? = some (.cells #[.int .i64 y0, .int .i64 y1, .int .i64 y2, .bool y3, .int .i64 y4, .int .i64 y5, .bool y6, .slice yA yl.length yc, .int .i64 y8, .int .i64 y9, .int .i64 y10] 30 (0, 0))) := ⟨h1_⟩
  have B_qw : Aside0 (w20_.heap[qw]? = some (.cells #[.int .i64 s0, .int .i64 s1, .int .i64 s2, .bool s3, .int .i64 s4, .int .i64 s5, .bool s6, .slice sA sl.length sc, .int .i64 s8, .int .i64 s9, .int .i64 s10] 30 (0, 0))) := ⟨h2_⟩
  have B_qc : Aside0 (w20_.heap[qc]? = some (.cells #[.int .i64 0, .bool false] 72 (0, 0))) := ⟨h3_⟩
  have HB : Aside0 (Below w.heap.size w w20_) := ⟨h4_⟩
  have E_qc := Aside0.mk hE_
  have N_g_qc := Aside0.mk hN0_
  have N_qc_g := Aside0.mk hM0_
  have N_qn_qc := Aside0.mk hN1_
  have N_qc_qn := Aside0.mk hM1_
  have N_qw_qc := Aside0.mk hN2_
  have N_qc_qw := Aside0.mk hM2_
  clear h0_ h1_ h2_ h3_ h4_ hE_ hN0_ hM0_ hN1_ hM1_ hN2_ hM2_
  have hHeld := hS_
  try dsimp only at hHeld
  clear hS_
  refine norm_ (a' := ?_) ?_ ?_
  rotate_left
  ·simp only [putAll, Act.put, zA, zB, zC]
   rfl
  refine one_ (i := 14) (N := none) (bs 15 32767) rfl rfl (by kernel_rfl) (by decide) (fun K hK => ?_)
  have hs_0 : w20_.cell? ⟨qc, 0, none⟩ = some (.int .i64 0) := (blk_cell B_qc.1 0).trans rfl
  have hf_0 := blk_frozen B_qc.1 0
  have hs_1 : w20_.cell? ⟨qc, 1, none⟩ = some (.bool false) := (blk_cell B_qc.1 1).trans rfl
  have hf_1 := blk_frozen B_qc.1 1
  refine skip_ (w1 := ?_) (by rfl) rfl ?_ ?_
  rotate_left
  ·go_simp
   rfl
  have n0_ : Aside0 (((w20_.setCell ⟨qc, 0, none⟩ (.int .i64 ct)).setCell ⟨qc, 1, none⟩ (.bool cs)).heap[g]? = some (.cells #[.int .i64 p0, .int .i64 p1, .int .i64 p2, .int .i64 p3, .int .i64 p4, .int .i64 p5, .int .i64 p6, .int .i64 p7, .int .i64 p8, .int .i64 p9, .int .i64 p10, .int .i64 p11, .int .i64 s0, .int .i64 s1, .int .i64 s2, .bool s3, .int .i64 s4, .int .i64 s5, .bool s6, .slice sA sl.length sc, .int .i64 s8, .int .i64 s9, .int .i64 s10] 35 (0, 0))) := ⟨blk_far (blk_far (B_g.1) N_g_qc.1 _) N_g_qc.1 _⟩
  have n1_ : Aside0 (((w20_.setCell ⟨qc, 0, none⟩ (.int .i64 ct)).setCell ⟨qc, 1, none⟩ (.bool cs)).heap[qn]? = some (.cells #[.int .i64 y0, .int .i64 y1, .int .i64 y2, .bool y3, .int .i64 y4, .int .i64 y5, .bool y6, .slice yA yl.length yc, .int .i64 y8, .int .i64 y9, .int .i64 y10] 30 (0, 0))) := ⟨blk_far (blk_far (B_qn.1) N_qn_qc.1 _) N_qn_qc.1 _⟩
  have n2_ : Aside0 (((w20_.setCell ⟨qc, 0, none⟩ (.int .i64 ct)).setCell ⟨qc, 1, none⟩ (.bool cs)).heap[qw]? = some (.cells #[.int .i64 s0, .int .i64 s1, .int .i64 s2, .bool s3, .int .i64 s4, .int .i64 s5, .bool s6, .slice sA sl.length sc, .int .i64 s8, .int .i64 s9, .int .i64 s10] 30 (0, 0))) := ⟨blk_far (blk_far (B_qw.1) N_qw_qc.1 _) N_qw_qc.1 _⟩
  have n3_ : Aside0 (((w20_.setCell ⟨qc, 0, none⟩ (.int .i64 ct)).setCell ⟨qc, 1, none⟩ (.bool cs)).heap[qc]? = some (.cells #[.int .i64 ct, .bool cs] 72 (0, 0))) := ⟨by have h_ := blk_set (blk_set (B_qc.1) 0 (.int .i64 ct)) 1 (.bool cs); simp only [zA, zB, zC] at h_; exact h_⟩
  have n4_ : Aside0 (Below w.heap.size w ((w20_.setCell ⟨qc, 0, none⟩ (.int .i64 ct)).setCell ⟨qc, 1, none⟩ (.bool cs))) := ⟨below_set (below_set (HB.1) E_qc.1) E_qc.1⟩
  clear B_g B_qn B_qw B_qc HB
  have B_g := n0_
  have B_qn := n1_
  have B_qw := n2_
  have B_qc := n3_
  have HB := n4_
  clear n0_ n1_ n2_ n3_ n4_
  refine hK.out _ _ ⟨B_g.1, B_qn.1, B_qw.1⟩ (fun hHeld => ?_)
  clear hK K hs_0 hf_0 hs_1 hf_1
  generalize ((w20_.setCell ⟨qc, 0, none⟩ (.int .i64 ct)).setCell ⟨qc, 1, none⟩ (.bool cs)) = w21_ at B_g B_qn B_qw B_qc HB hHeld ⊢
  refine done_ (by kernel_rfl) ?_
  go_upto_region 7 with (fail)
  replace B_g := Aside0.mk (blk_drew B_g.1)
  replace B_qn := Aside0.mk (blk_drew B_qn.1)
  replace B_qw := Aside0.mk (blk_drew B_qw.1)
  replace B_qc := Aside0.mk (blk_drew B_qc.1)
  replace HB := Aside0.mk (below_drew1 HB.1)
  refine start_ (n := 10) (S := fun w' => w'.heap[g]? = some (.cells #[.int .i64 p0, .int .i64 p1, .int .i64 p2, .int .i64 p3, .int .i64 p4, .int .i64 p5, .int .i64 p6, .int .i64 p7, .int .i64 p8, .int .i64 p9, .int .i64 p10, .int .i64 p11, .int .i64 s0, .int .i64 s1, .int .i64 s2, .bool s3, .int .i64 s4, .int .i64 s5, .bool s6, .slice sA sl.length sc, .int .i64 s8, .int .i64 s9, .int .i64 s10] 35 (0, 0)) ∧ w'.heap[qn]? = some (.cells #[.int .i64 y0, .int .i64 y1, .int .i64 y2, .bool y3, .int .i64 y4, .int .i64 y5, .bool y6, .slice yA yl.length yc, .int .i64 y8, .int .i64 y9, .int .i64 y10] 30 (0, 0))) (ds := [9]) (bs 10 0) (by kernel_rfl) rfl (by rfl) ⟨B_g.1, B_qn.1⟩ (fun hHeld => ?_)
  generalize w21_.drew = w22_ at B_g B_qn B_qw B_qc HB hHeld ⊢
  refine pu 0 61 1 ?_
  refine pu 1 62 3 ?_
  refine pu 2 63 7 ?_
  refine pu 3 64 15 ?_
  refine take_ (i := 4) (N := some 65) (v := ?_) (a' := ?_) (bs 10 31) rfl rfl (by kernel_rfl) (fun _ _ _ h => h) (Or.inl ⟨by rfl, ?_⟩) hHeld ?_ ?_
  rotate_left
  ·rintro w' ⟨s_g, s_qn⟩
   have c_0 : w'.cell? ⟨g, 0, none⟩ = some (.int .i64 p0) := (blk_cell s_g 0).trans rfl
   have c_1 : w'.cell? ⟨g, 1, none⟩ = some (.int .i64 p1) := (blk_cell s_g 1).trans rfl
   have c_2 : w'.cell? ⟨g, 2, none⟩ = some (.int .i64 p2) := (blk_cell s_g 2).trans rfl
   have c_3 : w'.cell? ⟨g, 3, none⟩ = some (.int .i64 p3) := (blk_cell s_g 3).trans rfl
   have c_4 : w'.cell? ⟨g, 4, none⟩ = some (.int .i64 p4) := (blk_cell s_g 4).trans rfl
   have c_5 : w'.cell? ⟨g, 5, none⟩ = some (.int .i64 p5) := (blk_cell s_g 5).trans rfl
   have c_6 : w'.cell? ⟨g, 6, none⟩ = some (.int .i64 p6) := (blk_cell s_g 6).trans rfl
   have c_7 : w'.cell? ⟨g, 7, none⟩ = some (.int .i64 p7) := (blk_cell s_g 7).trans rfl
   have c_8 : w'.cell? ⟨g, 8, none⟩ = some (.int .i64 p8) := (blk_cell s_g 8).trans rfl
   have c_9 : w'.cell? ⟨g, 9, none⟩ = some (.int .i64 p9) := (blk_cell s_g 9).trans rfl
   have c_10 : w'.cell? ⟨g, 10, none⟩ = some (.int .i64 p10) := (blk_cell s_g 10).trans rfl
   have c_11 : w'.cell? ⟨g, 11, none⟩ = some (.int .i64 p11) := (blk_cell s_g 11).trans rfl
   clear s_g s_qn
   go_simp
   with_reducible rfl
  rotate_left
  ·simp only [Act.put, zA, zB, zC, i64_w, i32_w]
   rfl
  refine take_ (i := 5) (N := some 66) (v := ?_) (a' := ?_) (bs 10 63) rfl rfl (by kernel_rfl) (fun _ _ _ h => h) (Or.inl ⟨by rfl, ?_⟩) hHeld ?_ ?_
  rotate_left
  ·rintro w' ⟨s_g, s_qn⟩
   have c_0 : w'.cell? ⟨qn, 0, none⟩ = some (.int .i64 y0) := (blk_cell s_qn 0).trans rfl
   have c_1 : w'.cell? ⟨qn, 1, none⟩ = some (.int .i64 y1) := (blk_cell s_qn 1).trans rfl
   have c_2 : w'.cell? ⟨qn, 2, none⟩ = some (.int .i64 y2) := (blk_cell s_qn 2).trans rfl
   have c_3 : w'.cell? ⟨qn, 3, none⟩ = some (.bool y3) := (blk_cell s_qn 3).trans rfl
   have c_4 : w'.cell? ⟨qn, 4, none⟩ = some (.int .i64 y4) := (blk_cell s_qn 4).trans rfl
   have c_5 : w'.cell? ⟨qn, 5, none⟩ = some (.int .i64 y5) := (blk_cell s_qn 5).trans rfl
   have c_6 : w'.cell? ⟨qn, 6, none⟩ = some (.bool y6) := (blk_cell s_qn 6).trans rfl
   have c_7 : w'.cell? ⟨qn, 7, none⟩ = some (.slice yA yl.length yc) := (blk_cell s_qn 7).trans rfl
   have c_8 : w'.cell? ⟨qn, 8, none⟩ = some (.int .i64 y8) := (blk_cell s_qn 8).trans rfl
   have c_9 : w'.cell? ⟨qn, 9, none⟩ = some (.int .i64 y9) := (blk_cell s_qn 9).trans rfl
   have c_10 : w'.cell? ⟨qn, 10, none⟩ = some (.int .i64 y10) := (blk_cell s_qn 10).trans rfl
   clear s_g s_qn
   go_simp
   with_reducible rfl
  rotate_left
  ·simp only [Act.put, zA, zB, zC, i64_w, i32_w]
   rfl
  refine one_ (i := 6) (N := some 67) (bs 10 127) rfl rfl (by kernel_rfl) (by decide) (fun K hK => ?_)
  refine goes_ Tryd.func37 (by kernel_rfl) rfl #[.agg #[.int .i64 p0, .int .i64 p1, .int .i64 p2, .int .i64 p3, .int .i64 p4, .int .i64 p5, .int .i64 p6, .int .i64 p7, .int .i64 p8, .int .i64 p9, .int .i64 p10, .int .i64 p11], .agg #[.int .i64 y0, .int .i64 y1, .int .i64 y2, .bool y3, .int .i64 y4, .int .i64 y5, .bool y6, .slice yA yl.length yc, .int .i64 y8, .int .i64 y9, .int .i64 y10]] (by rfl) rfl rfl (by (try simp only [List.map_toArray, List.map_cons, List.map_nil]); first | done | rfl) ?_
  with_reducible refine (health_Sane.calls k p0 p1 p2 p3 p4 p5 p6 p7 p8 p9 p10 p11 y0 y1 y2 y3 y4 y5 y6 yA yc yl y8 y9 y10 m0 m1 m2 m3 m4 m5 m6 ml m8 m9 m10 _ (Kd.C_below HRy.1 HB.1) HCy.1 HSA.1).mono ?_
  rintro e w23_ ⟨v_m, rfl, ho_, hb⟩
  have R0_m := Aside0.mk (Kd.R_lower ho_ (below_size HB.1))
  clear ho_
  replace B_g := bb hb B_g.1
  replace B_qn := bb hb B_qn.1
  replace B_qw := bb hb B_qw.1
  replace B_qc := bb hb B_qc.1
  replace HB := Aside0.mk (below_step HB.1 hb)
  clear hb
  obtain ⟨mA, mc, ev_⟩ := Kd.R_slice R0_m.1
  subst ev_
  have R_m := Aside0.mk (hx.tight rfl R0_m.1)
  clear R0_m
  refine ⟨_, rfl, ?_⟩
  refine hK.out _ _ ⟨B_g.1, B_qn.1⟩ (fun hHeld => ?_)
  clear hK K
  refine nm 67 ?_
  refine pu 7 68 255 ?_
  refine pu 8 69 511 ?_
  refine last_ (i := 9) (N := none) (bs 10 1023) rfl rfl (by kernel_rfl) (by decide) (fun K hK => ?_)
  have hs_12 : w23_.cell? ⟨g, 12, none⟩ = some (.int .i64 s0) := (blk_cell B_g.1 12).trans rfl
  have hf_12 := blk_frozen B_g.1 12
  have hs_13 : w23_.cell? ⟨g, 13, none⟩ = some (.int .i64 s1) := (blk_cell B_g.1 13).trans rfl
  have hf_13 := blk_frozen B_g.1 13
  have hs_14 : w23_.cell? ⟨g, 14, none⟩ = some (.int .i64 s2) := (blk_cell B_g.1 14).trans rfl
  have hf_14 := blk_frozen B_g.1 14
  have hs_15 : w23_.cell? ⟨g, 15, none⟩ = some (.bool s3) := (blk_cell B_g.1 15).trans rfl
  have hf_15 := blk_frozen B_g.1 15
  have hs_16 : w23_.cell? ⟨g, 16, none⟩ = some (.int .i64 s4) := (blk_cell B_g.1 16).trans rfl
  have hf_16 := blk_frozen B_g.1 16
  have hs_17 : w23_.cell? ⟨g, 17, none⟩ = some (.int .i64 s5) := (blk_cell B_g.1 17).trans rfl
  have hf_17 := blk_frozen B_g.1 17
  have hs_18 : w23_.cell? ⟨g, 18, none⟩ = some (.bool s6) := (blk_cell B_g.1 18).trans rfl
  have hf_18 := blk_frozen B_g.1 18
  have hs_19 : w23_.cell? ⟨g, 19, none⟩ = some (.slice sA sl.length sc) := (blk_cell B_g.1 19).trans rfl
  have hf_19 := blk_frozen B_g.1 19
  have hs_20 : w23_.cell? ⟨g, 20, none⟩ = some (.int .i64 s8) := (blk_cell B_g.1 20).trans rfl
  have hf_20 := blk_frozen B_g.1 20
  have hs_21 : w23_.cell? ⟨g, 21, none⟩ = some (.int .i64 s9) := (blk_cell B_g.1 21).trans rfl
  have hf_21 := blk_frozen B_g.1 21
  have hs_22 : w23_.cell? ⟨g, 22, none⟩ = some (.int .i64 s10) := (blk_cell B_g.1 22).trans rfl
  have hf_22 := blk_frozen B_g.1 22
  refine skip_ (w1 := ?_) (by rfl) rfl ?_ ?_
  rotate_left
  ·go_simp
   rfl
  refine hK.out _ _ ?_
  clear hK K hHeld hs_12 hf_12 hs_13 hf_13 hs_14 hf_14 hs_15 hf_15 hs_16 hf_16 hs_17 hf_17 hs_18 hf_18 hs_19 hf_19 hs_20 hf_20 hs_21 hf_21 hs_22 hf_22
  refine done_ (by kernel_rfl) ?_
  have n0_ : Aside0 ((((((((((((w23_.setCell ⟨g, 12, none⟩ (.int .i64 m0)).setCell ⟨g, 13, none⟩ (.int .i64 m1)).setCell ⟨g, 14, none⟩ (.int .i64 m2)).setCell ⟨g, 15, none⟩ (.bool m3)).setCell ⟨g, 16, none⟩ (.int .i64 m4)).setCell ⟨g, 17, none⟩ (.int .i64 m5)).setCell ⟨g, 18, none⟩ (.bool m6)).setCell ⟨g, 19, none⟩ (.slice mA ml.length mc)).setCell ⟨g, 20, none⟩ (.int .i64 m8)).setCell ⟨g, 21, none⟩ (.int .i64 m9)).setCell ⟨g, 22, none⟩ (.int .i64 m10)).heap[g]? = some (.cells #[.int .i64 p0, .int .i64 p1, .int .i64 p2, .int .i64 p3, .int .i64 p4, .int .i64 p5, .int .i64 p6, .int .i64 p7, .int .i64 p8, .int .i64 p9, .int .i64 p10, .int .i64 p11, .int .i64 m0, .int .i64 m1, .int .i64 m2, .bool m3, .int .i64 m4, .int .i64 m5, .bool m6, .slice mA ml.length mc, .int .i64 m8, .int .i64 m9, .int .i64 m10] 35 (0, 0))) := ⟨by have h_ := blk_set (blk_set (blk_set (blk_set (blk_set (blk_set (blk_set (blk_set (blk_set (blk_set (blk_set (B_g.1) 12 (.int .i64 m0)) 13 (.int .i64 m1)) 14 (.int .i64 m2)) 15 (.bool m3)) 16 (.int .i64 m4)) 17 (.int .i64 m5)) 18 (.bool m6)) 19 (.slice mA ml.length mc)) 20 (.int .i64 m8)) 21 (.int .i64 m9)) 22 (.int .i64 m10); simp only [zA, zB, zC] at h_; exact h_⟩
  have n1_ : Aside0 ((((((((((((w23_.setCell ⟨g, 12, none⟩ (.int .i64 m0)).setCell ⟨g, 13, none⟩ (.int .i64 m1)).setCell ⟨g, 14, none⟩ (.int .i64 m2)).setCell ⟨g, 15, none⟩ (.bool m3)).setCell ⟨g, 16, none⟩ (.int .i64 m4)).setCell ⟨g, 17, none⟩ (.int .i64 m5)).setCell ⟨g, 18, none⟩ (.bool m6)).setCell ⟨g, 19, none⟩ (.slice mA ml.length mc)).setCell ⟨g, 20, none⟩ (.int .i64 m8)).setCell ⟨g, 21, none⟩ (.int .i64 m9)).setCell ⟨g, 22, none⟩ (.int .i64 m10)).heap[qn]? = some (.cells #[.int .i64 y0, .int .i64 y1, .int .i64 y2, .bool y3, .int .i64 y4, .int .i64 y5, .bool y6, .slice yA yl.length yc, .int .i64 y8, .int .i64 y9, .int .i64 y10] 30 (0, 0))) := ⟨blk_far (blk_far (blk_far (blk_far (blk_far (blk_far (blk_far (blk_far (blk_far (blk_far (blk_far (B_qn.1) N_qn_g.1 _) N_qn_g.1 _) N_qn_g.1 _) N_qn_g.1 _) N_qn_g.1 _) N_qn_g.1 _) N_qn_g.1 _) N_qn_g.1 _) N_qn_g.1 _) N_qn_g.1 _) N_qn_g.1 _⟩
  have n2_ : Aside0 ((((((((((((w23_.setCell ⟨g, 12, none⟩ (.int .i64 m0)).setCell ⟨g, 13, none⟩ (.int .i64 m1)).setCell ⟨g, 14, none⟩ (.int .i64 m2)).setCell ⟨g, 15, none⟩ (.bool m3)).setCell ⟨g, 16, none⟩ (.int .i64 m4)).setCell ⟨g, 17, none⟩ (.int .i64 m5)).setCell ⟨g, 18, none⟩ (.bool m6)).setCell ⟨g, 19, none⟩ (.slice mA ml.length mc)).setCell ⟨g, 20, none⟩ (.int .i64 m8)).setCell ⟨g, 21, none⟩ (.int .i64 m9)).setCell ⟨g, 22, none⟩ (.int .i64 m10)).heap[qw]? = some (.cells #[.int .i64 s0, .int .i64 s1, .int .i64 s2, .bool s3, .int .i64 s4, .int .i64 s5, .bool s6, .slice sA sl.length sc, .int .i64 s8, .int .i64 s9, .int .i64 s10] 30 (0, 0))) := ⟨blk_far (blk_far (blk_far (blk_far (blk_far (blk_far (blk_far (blk_far (blk_far (blk_far (blk_far (B_qw.1) N_qw_g.1 _) N_qw_g.1 _) N_qw_g.1 _) N_qw_g.1 _) N_qw_g.1 _) N_qw_g.1 _) N_qw_g.1 _) N_qw_g.1 _) N_qw_g.1 _) N_qw_g.1 _) N_qw_g.1 _⟩
  have n3_ : Aside0 ((((((((((((w23_.setCell ⟨g, 12, none⟩ (.int .i64 m0)).setCell ⟨g, 13, none⟩ (.int .i64 m1)).setCell ⟨g, 14, none⟩ (.int .i64 m2)).setCell ⟨g, 15, none⟩ (.bool m3)).setCell ⟨g, 16, none⟩ (.int .i64 m4)).setCell ⟨g, 17, none⟩ (.int .i64 m5)).setCell ⟨g, 18, none⟩ (.bool m6)).setCell ⟨g, 19, none⟩ (.slice mA ml.length mc)).setCell ⟨g, 20, none⟩ (.int .i64 m8)).setCell ⟨g, 21, none⟩ (.int .i64 m9)).setCell ⟨g, 22, none⟩ (.int .i64 m10)).heap[qc]? = some (.cells #[.int .i64 ct, .bool cs] 72 (0, 0))) := ⟨blk_far (blk_far (blk_far (blk_far (blk_far (blk_far (blk_far (blk_far (blk_far (blk_far (blk_far (B_qc.1) N_qc_g.1 _) N_qc_g.1 _) N_qc_g.1 _) N_qc_g.1 _) N_qc_g.1 _) N_qc_g.1 _) N_qc_g.1 _) N_qc_g.1 _) N_qc_g.1 _) N_qc_g.1 _) N_qc_g.1 _⟩
  have n4_ : Aside0 (Kd.R k82 82 (((((((((((w23_.setCell ⟨g, 12, none⟩ (.int .i64 m0)).setCell ⟨g, 13, none⟩ (.int .i64 m1)).setCell ⟨g, 14, none⟩ (.int .i64 m2)).setCell ⟨g, 15, none⟩ (.bool m3)).setCell ⟨g, 16, none⟩ (.int .i64 m4)).setCell ⟨g, 17, none⟩ (.int .i64 m5)).setCell ⟨g, 18, none⟩ (.bool m6)).setCell ⟨g, 19, none⟩ (.slice mA ml.length mc)).setCell ⟨g, 20, none⟩ (.int .i64 m8)).setCell ⟨g, 21, none⟩ (.int .i64 m9)).setCell ⟨g, 22, none⟩ (.int .i64 m10)) w.heap.size (fun k_ => some k_ = ((.slice mA ml.length mc) : Value).ownBlock) (.slice mA ml.length mc) ml) := ⟨Kd.R_far (Kd.R_far (Kd.R_far (Kd.R_far (Kd.R_far (Kd.R_far (Kd.R_far (Kd.R_far (Kd.R_far (Kd.R_far (Kd.R_far (R_m.1) (hx.away R_m.1 B_g.1 (by decide)) _) (hx.away R_m.1 B_g.1 (by decide)) _) (hx.away R_m.1 B_g.1 (by decide)) _) (hx.away R_m.1 B_g.1 (by decide)) _) (hx.away R_m.1 B_g.1 (by decide)) _) (hx.away R_m.1 B_g.1 (by decide)) _) (hx.away R_m.1 B_g.1 (by decide)) _) (hx.away R_m.1 B_g.1 (by decide)) _) (hx.away R_m.1 B_g.1 (by decide)) _) (hx.away R_m.1 B_g.1 (by decide)) _) (hx.away R_m.1 B_g.1 (by decide)) _⟩
  have n5_ : Aside0 (w.grownBy (((((((((((w23_.setCell ⟨g, 12, none⟩ (.int .i64 m0)).setCell ⟨g, 13, none⟩ (.int .i64 m1)).setCell ⟨g, 14, none⟩ (.int .i64 m2)).setCell ⟨g, 15, none⟩ (.bool m3)).setCell ⟨g, 16, none⟩ (.int .i64 m4)).setCell ⟨g, 17, none⟩ (.int .i64 m5)).setCell ⟨g, 18, none⟩ (.bool m6)).setCell ⟨g, 19, none⟩ (.slice mA ml.length mc)).setCell ⟨g, 20, none⟩ (.int .i64 m8)).setCell ⟨g, 21, none⟩ (.int .i64 m9)).setCell ⟨g, 22, none⟩ (.int .i64 m10)) (some g)) := ⟨hx.gb_set (hx.gb_set (hx.gb_set (hx.gb_set (hx.gb_set (hx.gb_set (hx.gb_set (hx.gb_set (hx.gb_set (hx.gb_set (hx.gb_set ((grown_of_below HB.1 (some g)))))))))))))⟩
  clear B_g B_qn B_qw B_qc R_m HB
  have B_g := n0_
  have B_qn := n1_
  have B_qw := n2_
  have B_qc := n3_
  have R_m := n4_
  have HG := n5_
  clear n0_ n1_ n2_ n3_ n4_ n5_
  generalize (((((((((((w23_.setCell ⟨g, 12, none⟩ (.int .i64 m0)).setCell ⟨g, 13, none⟩ (.int .i64 m1)).setCell ⟨g, 14, none⟩ (.int .i64 m2)).setCell ⟨g, 15, none⟩ (.bool m3)).setCell ⟨g, 16, none⟩ (.int .i64 m4)).setCell ⟨g, 17, none⟩ (.int .i64 m5)).setCell ⟨g, 18, none⟩ (.bool m6)).setCell ⟨g, 19, none⟩ (.slice mA ml.length mc)).setCell ⟨g, 20, none⟩ (.int .i64 m8)).setCell ⟨g, 21, none⟩ (.int .i64 m9)).setCell ⟨g, 22, none⟩ (.int .i64 m10)) = w24_ at B_g B_qn B_qw B_qc R_m HG ⊢
  go_upto_region 8 with (fail)
  replace B_g := Aside0.mk (blk_drew B_g.1)
  replace B_qn := Aside0.mk (blk_drew B_qn.1)
  replace B_qw := Aside0.mk (blk_drew B_qw.1)
  replace B_qc := Aside0.mk (blk_drew B_qc.1)
  replace R_m := Aside0.mk (Kd.R_drew R_m.1)
  replace HG := Aside0.mk (hx.gb_drew HG.1)
  refine start_ (n := 29) (S := fun w' => w'.heap[qc]? = some (.cells #[.int .i64 ct, .bool cs] 72 (0, 0)) ∧ w'.heap[qw]? = some (.cells #[.int .i64 s0, .int .i64 s1, .int .i64 s2, .bool s3, .int .i64 s4, .int .i64 s5, .bool s6, .slice sA sl.length sc, .int .i64 s8, .int .i64 s9, .int .i64 s10] 30 (0, 0))) (ds := []) (bs 29 0) (by kernel_rfl) rfl (by rfl) ⟨B_qc.1, B_qw.1⟩ (fun hHeld => ?_)
  generalize w24_.drew = w25_ at B_g B_qn B_qw B_qc R_m HG hHeld ⊢
  refine pu 0 70 1 ?_
  refine pu 1 71 3 ?_
  refine pu 2 72 7 ?_
  refine pu 3 73 15 ?_
  refine pu 4 74 31 ?_
  refine pu 6 76 95 ?_
  refine pu 8 78 351 ?_
  refine pu 10 80 1375 ?_
  refine take_ (i := 5) (N := some 75) (v := ?_) (a' := ?_) (bs 29 1407) rfl rfl (by kernel_rfl) (fun _ _ _ h => h) (Or.inl ⟨by rfl, ?_⟩) hHeld ?_ ?_
  rotate_left
  ·rintro w' ⟨s_qc, s_qw⟩
   have c_0 : w'.cell? ⟨qc, 0, none⟩ = some (.int .i64 ct) := (blk_cell s_qc 0).trans rfl
   clear s_qc s_qw
   go_simp
   with_reducible rfl
  rotate_left
  ·simp only [Act.put, zA, zB, zC, i64_w, i32_w]
   rfl
  refine take_ (i := 7) (N := some 77) (v := ?_) (a' := ?_) (bs 29 1535) rfl rfl (by kernel_rfl) (fun _ _ _ h => h) (Or.inl ⟨by rfl, ?_⟩) hHeld ?_ ?_
  rotate_left
  ·rintro w' ⟨s_qc, s_qw⟩
   have c_1 : w'.cell? ⟨qc, 1, none⟩ = some (.bool cs) := (blk_cell s_qc 1).trans rfl
   clear s_qc s_qw
   go_simp
   with_reducible rfl
  rotate_left
  ·simp only [Act.put, zA, zB, zC, i64_w, i32_w]
   rfl
  refine take_ (i := 9) (N := some 79) (v := ?_) (a' := ?_) (bs 29 2047) rfl rfl (by kernel_rfl) (fun _ _ _ h => h) (Or.inl ⟨by rfl, ?_⟩) hHeld ?_ ?_
  rotate_left
  ·rintro w' ⟨s_qc, s_qw⟩
   have c_8 : w'.cell? ⟨qw, 8, none⟩ = some (.int .i64 s8) := (blk_cell s_qw 8).trans rfl
   have c_9 : w'.cell? ⟨qw, 9, none⟩ = some (.int .i64 s9) := (blk_cell s_qw 9).trans rfl
   clear s_qc s_qw
   go_simp
   with_reducible rfl
  rotate_left
  ·simp only [Act.put, zA, zB, zC, i64_w, i32_w]
   rfl
  refine take_ (i := 11) (N := some 81) (v := ?_) (a' := ?_) (bs 29 4095) rfl rfl (by kernel_rfl) (fun _ _ _ h => h) (Or.inl ⟨by rfl, ?_⟩) hHeld ?_ ?_
  rotate_left
  ·rintro w' ⟨s_qc, s_qw⟩
   have c_10 : w'.cell? ⟨qw, 10, none⟩ = some (.int .i64 s10) := (blk_cell s_qw 10).trans rfl
   clear s_qc s_qw
   go_simp
   with_reducible rfl
  rotate_left
  ·simp only [Act.put, zA, zB, zC, i64_w, i32_w]
   rfl
  refine one_ (i := 12) (N := some 82) (bs 29 8191) rfl rfl (by kernel_rfl) (by decide) (fun K hK => ?_)
  refine goes_ Tryd.func38 (by kernel_rfl) rfl #[.int .i64 s10, .int .i64 0, .int .i64 2305843009213693952] (by rfl) rfl rfl (by (try simp only [List.map_toArray, List.map_cons, List.map_nil]); first | done | rfl) ?_
  with_reducible refine (sat_Bound.calls k s10 0 2305843009213693952 lf _ HLF.1).mono ?_
  rintro e w26_ ⟨rfl, hd_⟩
  have hb := hd_.below
  clear hd_
  replace B_g := bb hb B_g.1
  replace B_qn := bb hb B_qn.1
  replace B_qw := bb hb B_qw.1
  replace B_qc := bb hb B_qc.1
  replace R_m := Aside0.mk (Kd.R_below R_m.1 hb)
  replace HG := Aside0.mk (hx.gb_below HG.1 hb)
  clear hb
  refine ⟨_, rfl, ?_⟩
  refine hK.out _ _ ⟨B_qc.1, B_qw.1⟩ (fun hHeld => ?_)
  clear hK K
  refine nm 82 ?_
  refine pu 13 83 16383 ?_
  refine pu 14 84 32767 ?_
  refine pu 15 85 65535 ?_
  refine one_ (i := 16) (N := none) (bs 29 131071) rfl rfl (by kernel_rfl) (by decide) (fun K hK => ?_)
  have hs_14 : w26_.cell? ⟨g, 14, none⟩ = some (.int .i64 m2) := (blk_cell B_g.1 14).trans rfl
  have hf_14 := blk_frozen B_g.1 14
  refine skip_ (w1 := ?_) (by rfl) rfl ?_ ?_
  rotate_left
  ·go_simp
   rfl
  have n0_ : Aside0 ((w26_.setCell ⟨g, 14, none⟩ (.int .i64 ct)).heap[g]? = some (.cells #[.int .i64 p0, .int .i64 p1, .int .i64 p2, .int .i64 p3, .int .i64 p4, .int .i64 p5, .int .i64 p6, .int .i64 p7, .int .i64 p8, .int .i64 p9, .int .i64 p10, .int .i64 p11, .int .i64 m0, .int .i64 m1, .int .i64 ct, .bool m3, .int .i64 m4, .int .i64 m5, .bool m6, .slice mA ml.length mc, .int .i64 m8, .int .i64 m9, .int .i64 m10] 35 (0, 0))) := ⟨by have h_ := blk_set (B_g.1) 14 (.int .i64 ct); simp only [zA, zB, zC] at h_; exact h_⟩
  have n1_ : Aside0 ((w26_.setCell ⟨g, 14, none⟩ (.int .i64 ct)).heap[qn]? = some (.cells #[.int .i64 y0, .int .i64 y1, .int .i64 y2, .bool y3, .int .i64 y4, .int .i64 y5, .bool y6, .slice yA yl.length yc, .int .i64 y8, .int .i64 y9, .int .i64 y10] 30 (0, 0))) := ⟨blk_far (B_qn.1) N_qn_g.1 _⟩
  have n2_ : Aside0 ((w26_.setCell ⟨g, 14, none⟩ (.int .i64 ct)).heap[qw]? = some (.cells #[.int .i64 s0, .int .i64 s1, .int .i64 s2, .bool s3, .int .i64 s4, .int .i64 s5, .bool s6, .slice sA sl.length sc, .int .i64 s8, .int .i64 s9, .int .i64 s10] 30 (0, 0))) := ⟨blk_far (B_qw.1) N_qw_g.1 _⟩
  have n3_ : Aside0 ((w26_.setCell ⟨g, 14, none⟩ (.int .i64 ct)).heap[qc]? = some (.cells #[.int .i64 ct, .bool cs] 72 (0, 0))) := ⟨blk_far (B_qc.1) N_qc_g.1 _⟩
  have n4_ : Aside0 (Kd.R k82 82 (w26_.setCell ⟨g, 14, none⟩ (.int .i64 ct)) w.heap.size (fun k_ => some k_ = ((.slice mA ml.length mc) : Value).ownBlock) (.slice mA ml.length mc) ml) := ⟨Kd.R_far (R_m.1) (hx.away R_m.1 B_g.1 (by decide)) _⟩
  have n5_ : Aside0 (w.grownBy (w26_.setCell ⟨g, 14, none⟩ (.int .i64 ct)) (some g)) := ⟨hx.gb_set (HG.1)⟩
  clear B_g B_qn B_qw B_qc R_m HG
  have B_g := n0_
  have B_qn := n1_
  have B_qw := n2_
  have B_qc := n3_
  have R_m := n4_
  have HG := n5_
  clear n0_ n1_ n2_ n3_ n4_ n5_
  refine hK.out _ _ ⟨B_qc.1, B_qw.1⟩ (fun hHeld => ?_)
  clear hK K hs_14 hf_14
  generalize (w26_.setCell ⟨g, 14, none⟩ (.int .i64 ct)) = w27_ at B_g B_qn B_qw B_qc R_m HG hHeld ⊢
  refine pu 17 86 262143 ?_
  refine pu 18 87 524287 ?_
  refine pu 19 88 1048575 ?_
  refine one_ (i := 20) (N := none) (bs 29 2097151) rfl rfl (by kernel_rfl) (by decide) (fun K hK => ?_)
  have hs_15 : w27_.cell? ⟨g, 15, none⟩ = some (.bool m3) := (blk_cell B_g.1 15).trans rfl
  have hf_15 := blk_frozen B_g.1 15
  refine skip_ (w1 := ?_) (by rfl) rfl ?_ ?_
  rotate_left
  ·go_simp
   rfl
  have n0_ : Aside0 ((w27_.setCell ⟨g, 15, none⟩ (.bool cs)).heap[g]? = some (.cells #[.int .i64 p0, .int .i64 p1, .int .i64 p2, .int .i64 p3, .int .i64 p4, .int .i64 p5, .int .i64 p6, .int .i64 p7, .int .i64 p8, .int .i64 p9, .int .i64 p10, .int .i64 p11, .int .i64 m0, .int .i64 m1, .int .i64 ct, .bool cs, .int .i64 m4, .int .i64 m5, .bool m6, .slice mA ml.length mc, .int .i64 m8, .int .i64 m9, .int .i64 m10] 35 (0, 0))) := ⟨by have h_ := blk_set (B_g.1) 15 (.bool cs); simp only [zA, zB, zC] at h_; exact h_⟩
  have n1_ : Aside0 ((w27_.setCell ⟨g, 15, none⟩ (.bool cs)).heap[qn]? = some (.cells #[.int .i64 y0, .int .i64 y1, .int .i64 y2, .bool y3, .int .i64 y4, .int .i64 y5, .bool y6, .slice yA yl.length yc, .int .i64 y8, .int .i64 y9, .int .i64 y10] 30 (0, 0))) := ⟨blk_far (B_qn.1) N_qn_g.1 _⟩
  have n2_ : Aside0 ((w27_.setCell ⟨g, 15, none⟩ (.bool cs)).heap[qw]? = some (.cells #[.int .i64 s0, .int .i64 s1, .int .i64 s2, .bool s3, .int .i64 s4, .int .i64 s5, .bool s6, .slice sA sl.length sc, .int .i64 s8, .int .i64 s9, .int .i64 s10] 30 (0, 0))) := ⟨blk_far (B_qw.1) N_qw_g.1 _⟩
  have n3_ : Aside0 ((w27_.setCell ⟨g, 15, none⟩ (.bool cs)).heap[qc]? = some (.cells #[.int .i64 ct, .bool cs] 72 (0, 0))) := ⟨blk_far (B_qc.1) N_qc_g.1 _⟩
  have n4_ : Aside0 (Kd.R k82 82 (w27_.setCell ⟨g, 15, none⟩ (.bool cs)) w.heap.size (fun k_ => some k_ = ((.slice mA ml.length mc) : Value).ownBlock) (.slice mA ml.length mc) ml) := ⟨Kd.R_far (R_m.1) (hx.away R_m.1 B_g.1 (by decide)) _⟩
  have n5_ : Aside0 (w.grownBy (w27_.setCell ⟨g, 15, none⟩ (.bool cs)) (some g)) := ⟨hx.gb_set (HG.1)⟩
  clear B_g B_qn B_qw B_qc R_m HG
  have B_g := n0_
  have B_qn := n1_
  have B_qw := n2_
  have B_qc := n3_
  have R_m := n4_
  have HG := n5_
  clear n0_ n1_ n2_ n3_ n4_ n5_
  refine hK.out _ _ ⟨B_qc.1, B_qw.1⟩ (fun hHeld => ?_)
  clear hK K hs_15 hf_15
  generalize (w27_.setCell ⟨g, 15, none⟩ (.bool cs)) = w28_ at B_g B_qn B_qw B_qc R_m HG hHeld ⊢
  refine pu 21 89 4194303 ?_
  refine pu 22 90 8388607 ?_
  refine pu 23 91 16777215 ?_
  refine one_ (i := 24) (N := none) (bs 29 33554431) rfl rfl (by kernel_rfl) (by decide) (fun K hK => ?_)
  have hs_20 : w28_.cell? ⟨g, 20, none⟩ = some (.int .i64 m8) := (blk_cell B_g.1 20).trans rfl
  have hf_20 := blk_frozen B_g.1 20
  have hs_21 : w28_.cell? ⟨g, 21, none⟩ = some (.int .i64 m9) := (blk_cell B_g.1 21).trans rfl
  have hf_21 := blk_frozen B_g.1 21
  refine skip_ (w1 := ?_) (by rfl) rfl ?_ ?_
  rotate_left
  ·go_simp
   rfl
  have n0_ : Aside0 (((w28_.setCell ⟨g, 20, none⟩ (.int .i64 s8)).setCell ⟨g, 21, none⟩ (.int .i64 s9)).heap[g]? = some (.cells #[.int .i64 p0, .int .i64 p1, .int .i64 p2, .int .i64 p3, .int .i64 p4, .int .i64 p5, .int .i64 p6, .int .i64 p7, .int .i64 p8, .int .i64 p9, .int .i64 p10, .int .i64 p11, .int .i64 m0, .int .i64 m1, .int .i64 ct, .bool cs, .int .i64 m4, .int .i64 m5, .bool m6, .slice mA ml.length mc, .int .i64 s8, .int .i64 s9, .int .i64 m10] 35 (0, 0))) := ⟨by have h_ := blk_set (blk_set (B_g.1) 20 (.int .i64 s8)) 21 (.int .i64 s9); simp only [zA, zB, zC] at h_; exact h_⟩
  have n1_ : Aside0 (((w28_.setCell ⟨g, 20, none⟩ (.int .i64 s8)).setCell ⟨g, 21, none⟩ (.int .i64 s9)).heap[qn]? = some (.cells #[.int .i64 y0, .int .i64 y1, .int .i64 y2, .bool y3, .int .i64 y4, .int .i64 y5, .bool y6, .slice yA yl.length yc, .int .i64 y8, .int .i64 y9, .int .i64 y10] 30 (0, 0))) := ⟨blk_far (blk_far (B_qn.1) N_qn_g.1 _) N_qn_g.1 _⟩
  have n2_ : Aside0 (((w28_.setCell ⟨g, 20, none⟩ (.int .i64 s8)).setCell ⟨g, 21, none⟩ (.int .i64 s9)).heap[qw]? = some (.cells #[.int .i64 s0, .int .i64 s1, .int .i64 s2, .bool s3, .int .i64 s4, .int .i64 s5, .bool s6, .slice sA sl.length sc, .int .i64 s8, .int .i64 s9, .int .i64 s10] 30 (0, 0))) := ⟨blk_far (blk_far (B_qw.1) N_qw_g.1 _) N_qw_g.1 _⟩
  have n3_ : Aside0 (((w28_.setCell ⟨g, 20, none⟩ (.int .i64 s8)).setCell ⟨g, 21, none⟩ (.int .i64 s9)).heap[qc]? = some (.cells #[.int .i64 ct, .bool cs] 72 (0, 0))) := ⟨blk_far (blk_far (B_qc.1) N_qc_g.1 _) N_qc_g.1 _⟩
  have n4_ : Aside0 (Kd.R k82 82 ((w28_.setCell ⟨g, 20, none⟩ (.int .i64 s8)).setCell ⟨g, 21, none⟩ (.int .i64 s9)) w.heap.size (fun k_ => some k_ = ((.slice mA ml.length mc) : Value).ownBlock) (.slice mA ml.length mc) ml) := ⟨Kd.R_far (Kd.R_far (R_m.1) (hx.away R_m.1 B_g.1 (by decide)) _) (hx.away R_m.1 B_g.1 (by decide)) _⟩
  have n5_ : Aside0 (w.grownBy ((w28_.setCell ⟨g, 20, none⟩ (.int .i64 s8)).setCell ⟨g, 21, none⟩ (.int .i64 s9)) (some g)) := ⟨hx.gb_set (hx.gb_set (HG.1))⟩
  clear B_g B_qn B_qw B_qc R_m HG
  have B_g := n0_
  have B_qn := n1_
  have B_qw := n2_
  have B_qc := n3_
  have R_m := n4_
  have HG := n5_
  clear n0_ n1_ n2_ n3_ n4_ n5_
  refine hK.out _ _ ⟨B_qc.1, B_qw.1⟩ (fun hHeld => ?_)
  clear hK K hs_20 hf_20 hs_21 hf_21
  generalize ((w28_.setCell ⟨g, 20, none⟩ (.int .i64 s8)).setCell ⟨g, 21, none⟩ (.int .i64 s9)) = w29_ at B_g B_qn B_qw B_qc R_m HG hHeld ⊢
  refine pu 25 92 67108863 ?_
  refine pu 26 93 134217727 ?_
  refine pu 27 94 268435455 ?_
  refine one_ (i := 28) (N := none) (bs 29 536870911) rfl rfl (by kernel_rfl) (by decide) (fun K hK => ?_)
  have hs_22 : w29_.cell? ⟨g, 22, none⟩ = some (.int .i64 m10) := (blk_cell B_g.1 22).trans rfl
  have hf_22 := blk_frozen B_g.1 22
  refine skip_ (w1 := ?_) (by rfl) rfl ?_ ?_
  rotate_left
  ·go_simp
   rfl
  have n0_ : Aside0 ((w29_.setCell ⟨g, 22, none⟩ (.int .i64 lf)).heap[g]? = some (.cells #[.int .i64 p0, .int .i64 p1, .int .i64 p2, .int .i64 p3, .int .i64 p4, .int .i64 p5, .int .i64 p6, .int .i64 p7, .int .i64 p8, .int .i64 p9, .int .i64 p10, .int .i64 p11, .int .i64 m0, .int .i64 m1, .int .i64 ct, .bool cs, .int .i64 m4, .int .i64 m5, .bool m6, .slice mA ml.length mc, .int .i64 s8, .int .i64 s9, .int .i64 lf] 35 (0, 0))) := ⟨by have h_ := blk_set (B_g.1) 22 (.int .i64 lf); simp only [zA, zB, zC] at h_; exact h_⟩
  have n1_ : Aside0 ((w29_.setCell ⟨g, 22, none⟩ (.int .i64 lf)).heap[qn]? = some (.cells #[.int .i64 y0, .int .i64 y1, .int .i64 y2, .bool y3, .int .i64 y4, .int .i64 y5, .bool y6, .slice yA yl.length yc, .int .i64 y8, .int .i64 y9, .int .i64 y10] 30 (0, 0))) := ⟨blk_far (B_qn.1) N_qn_g.1 _⟩
  have n2_ : Aside0 ((w29_.setCell ⟨g, 22, none⟩ (.int .i64 lf)).heap[qw]? = some (.cells #[.int .i64 s0, .int .i64 s1, .int .i64 s2, .bool s3, .int .i64 s4, .int .i64 s5, .bool s6, .slice sA sl.length sc, .int .i64 s8, .int .i64 s9, .int .i64 s10] 30 (0, 0))) := ⟨blk_far (B_qw.1) N_qw_g.1 _⟩
  have n3_ : Aside0 ((w29_.setCell ⟨g, 22, none⟩ (.int .i64 lf)).heap[qc]? = some (.cells #[.int .i64 ct, .bool cs] 72 (0, 0))) := ⟨blk_far (B_qc.1) N_qc_g.1 _⟩
  have n4_ : Aside0 (Kd.R k82 82 (w29_.setCell ⟨g, 22, none⟩ (.int .i64 lf)) w.heap.size (fun k_ => some k_ = ((.slice mA ml.length mc) : Value).ownBlock) (.slice mA ml.length mc) ml) := ⟨Kd.R_far (R_m.1) (hx.away R_m.1 B_g.1 (by decide)) _⟩
  have n5_ : Aside0 (w.grownBy (w29_.setCell ⟨g, 22, none⟩ (.int .i64 lf)) (some g)) := ⟨hx.gb_set (HG.1)⟩
  clear B_g B_qn B_qw B_qc R_m HG
  have B_g := n0_
  have B_qn := n1_
  have B_qw := n2_
  have B_qc := n3_
  have R_m := n4_
  have HG := n5_
  clear n0_ n1_ n2_ n3_ n4_ n5_
  refine hK.out _ _ ⟨B_qc.1, B_qw.1⟩ (fun hHeld => ?_)
  clear hK K hs_22 hf_22
  generalize (w29_.setCell ⟨g, 22, none⟩ (.int .i64 lf)) = w30_ at B_g B_qn B_qw B_qc R_m HG hHeld ⊢
  refine done_ (by kernel_rfl) ?_
  go_upto_region 9 with (fail)
  replace B_g := Aside0.mk (blk_drew B_g.1)
  replace B_qn := Aside0.mk (blk_drew B_qn.1)
  replace B_qw := Aside0.mk (blk_drew B_qw.1)
  replace B_qc := Aside0.mk (blk_drew B_qc.1)
  replace R_m := Aside0.mk (Kd.R_drew R_m.1)
  replace HG := Aside0.mk (hx.gb_drew HG.1)
  refine start_ (n := 14) (S := fun w' => w'.heap[g]? = some (.cells #[.int .i64 p0, .int .i64 p1, .int .i64 p2, .int .i64 p3, .int .i64 p4, .int .i64 p5, .int .i64 p6, .int .i64 p7, .int .i64 p8, .int .i64 p9, .int .i64 p10, .int .i64 p11, .int .i64 m0, .int .i64 m1, .int .i64 ct, .bool cs, .int .i64 m4, .int .i64 m5, .bool m6, .slice mA ml.length mc, .int .i64 s8, .int .i64 s9, .int .i64 lf] 35 (0, 0)) ∧ w'.heap[qw]? = some (.cells #[.int .i64 s0, .int .i64 s1, .int .i64 s2, .bool s3, .int .i64 s4, .int .i64 s5, .bool s6, .slice sA sl.length sc, .int .i64 s8, .int .i64 s9, .int .i64 s10] 30 (0, 0)) ∧ w'.heap[qc]? = some (.cells #[.int .i64 ct, .bool cs] 72 (0, 0))) (ds := []) (bs 14 0) (by kernel_rfl) rfl (by rfl) ⟨B_g.1, B_qw.1, B_qc.1⟩ (fun hHeld => ?_)
  generalize w30_.drew = w31_ at B_g B_qn B_qw B_qc R_m HG hHeld ⊢
  refine pu 0 96 1 ?_
  refine pu 3 99 9 ?_
  refine pu 5 101 41 ?_
  refine take_ (i := 1) (N := some 97) (v := ?_) (a' := ?_) (bs 14 43) rfl rfl (by kernel_rfl) (fun _ _ _ h => h) (Or.inl ⟨by rfl, ?_⟩) hHeld ?_ ?_
  rotate_left
  ·rintro w' ⟨s_g, s_qw, s_qc⟩
   have c_8 : w'.cell? ⟨qw, 8, none⟩ = some (.int .i64 s8) := (blk_cell s_qw 8).trans rfl
   have c_9 : w'.cell? ⟨qw, 9, none⟩ = some (.int .i64 s9) := (blk_cell s_qw 9).trans rfl
   clear s_g s_qw s_qc
   go_simp
   with_reducible rfl
  rotate_left
  ·simp only [Act.put, zA, zB, zC, i64_w, i32_w]
   rfl
  refine pu 2 98 47 ?_
  refine take_ (i := 4) (N := some 100) (v := ?_) (a' := ?_) (bs 14 63) rfl rfl (by kernel_rfl) (fun _ _ _ h => h) (Or.inl ⟨by rfl, ?_⟩) hHeld ?_ ?_
  rotate_left
  ·rintro w' ⟨s_g, s_qw, s_qc⟩
   have c_0 : w'.cell? ⟨qc, 0, none⟩ = some (.int .i64 ct) := (blk_cell s_qc 0).trans rfl
   clear s_g s_qw s_qc
   go_simp
   with_reducible rfl
  rotate_left
  ·simp only [Act.put, zA, zB, zC, i64_w, i32_w]
   rfl
  refine join_ (σ := Nat) 2 (bs 14 4095) (fun s_ => [(102, .int .i64 mo), (103, .tuple #[.agg #[.int .i64 h0, .int .i64 h1], .bool an]), (95, .tuple #[.agg #[.int .i64 h0, .int .i64 h1], .bool an]), (104, .agg #[.int .i64 h0, .int .i64 h1]), (105, .bool an), (11, .pointer (some ⟨s_, 0, none⟩))]) (fun s_ w' => (w'.heap[g]? = some (.cells #[.int .i64 p0, .int .i64 p1, .int .i64 p2, .int .i64 p3, .int .i64 p4, .int .i64 p5, .int .i64 p6, .int .i64 p7, .int .i64 p8, .int .i64 p9, .int .i64 p10, .int .i64 p11, .int .i64 m0, .int .i64 m1, .int .i64 ct, .bool cs, .int .i64 m4, .int .i64 m5, .bool m6, .slice mA ml.length mc, .int .i64 s8, .int .i64 s9, .int .i64 lf] 35 (0, 0)) ∧ w'.heap[qw]? = some (.cells #[.int .i64 s0, .int .i64 s1, .int .i64 s2, .bool s3, .int .i64 s4, .int .i64 s5, .bool s6, .slice sA sl.length sc, .int .i64 s8, .int .i64 s9, .int .i64 s10] 30 (0, 0)) ∧ w'.heap[qc]? = some (.cells #[.int .i64 ct, .bool cs] 72 (0, 0))) ∧ (w'.heap[g]? = some (.cells #[.int .i64 p0, .int .i64 p1, .int .i64 p2, .int .i64 p3, .int .i64 p4, .int .i64 p5, .int .i64 p6, .int .i64 p7, .int .i64 p8, .int .i64 p9, .int .i64 p10, .int .i64 p11, .int .i64 m0, .int .i64 m1, .int .i64 ct, .bool cs, .int .i64 m4, .int .i64 m5, .bool m6, .slice mA ml.length mc, .int .i64 s8, .int .i64 s9, .int .i64 lf] 35 (0, 0))) ∧ (w'.heap[qn]? = some (.cells #[.int .i64 y0, .int .i64 y1, .int .i64 y2, .bool y3, .int .i64 y4, .int .i64 y5, .bool y6, .slice yA yl.length yc, .int .i64 y8, .int .i64 y9, .int .i64 y10] 30 (0, 0))) ∧ (w'.heap[qw]? = some (.cells #[.int .i64 s0, .int .i64 s1, .int .i64 s2, .bool s3, .int .i64 s4, .int .i64 s5, .bool s6, .slice sA sl.length sc, .int .i64 s8, .int .i64 s9, .int .i64 s10] 30 (0, 0))) ∧ (w'.heap[qc]? = some (.cells #[.int .i64 ct, .bool cs] 72 (0, 0))) ∧ (w'.heap[s_]? = some (.cells #[.int .i64 0, .int .i64 0] 63 (0, 0))) ∧ (Kd.R k82 82 w' w.heap.size (fun k_ => some k_ = ((.slice mA ml.length mc) : Value).ownBlock) (.slice mA ml.length mc) ml) ∧ (w.grownBy w' (some g)) ∧ w.heap.size ≤ s_ ∧ g ≠ s_ ∧ s_ ≠ g ∧ qn ≠ s_ ∧ s_ ≠ qn ∧ qw ≠ s_ ∧ s_ ≠ qw ∧ qc ≠ s_ ∧ s_ ≠ qc) ?_ ?_
  rotate_left
  ·intro hCont
   refine two_ (i := 6) (j := 11) (Ni := some 102) (Nj := some 11) (bs 14 127) (bs 14 2111) rfl rfl rfl rfl (by kernel_rfl) (by decide) (by decide) (fun K hK => ?_) (fun K hK => ?_)
   ·skip
    refine goes_ Tryd.func30 (by kernel_rfl) rfl #[.pointer (some ⟨g, 0, none⟩)] (by rfl) rfl rfl (by (try simp only [List.map_toArray, List.map_cons, List.map_nil]); first | done | rfl) ?_
    with_reducible refine (health_Front_most.calls k g p0 p1 p2 p3 p4 p5 p6 p7 p8 p9 p10 p11 m0 m1 ct cs m4 m5 m6 mA mc ml s8 s9 lf f2 mo _ B_g.1 HF2.1 HMO.1).mono ?_
    rintro e w32_ ⟨rfl, hb⟩
    replace B_g := bb hb B_g.1
    replace B_qn := bb hb B_qn.1
    replace B_qw := bb hb B_qw.1
    replace B_qc := bb hb B_qc.1
    replace R_m := Aside0.mk (Kd.R_below R_m.1 hb)
    replace HG := Aside0.mk (hx.gb_below HG.1 hb)
    clear hb
    refine ⟨_, rfl, ?_⟩
    refine hK.out _ _ ⟨B_g.1, B_qw.1, B_qc.1⟩ (fun hHeld => ?_)
    clear hK K
    refine nm 102 ?_
    refine two_ (i := 7) (j := 11) (Ni := some 103) (Nj := some 11) (bs 14 255) (bs 14 2175) rfl rfl rfl rfl (by kernel_rfl) (by decide) (by decide) (fun K hK => ?_) (fun K hK => ?_)
    ·skip
     refine goes_ Tryd.func39 (by kernel_rfl) rfl #[.agg #[.int .i64 s8, .int .i64 s9], .int .i64 ct, .int .i64 mo] (by rfl) rfl rfl (by (try simp only [List.map_toArray, List.map_cons, List.map_nil]); first | done | rfl) ?_
     with_reducible refine (hlc_Clock_Mend.calls k s8 s9 ct mo h0 h1 an _ HME.1).mono ?_
     rintro e w33_ ⟨rfl, hb⟩
     replace B_g := bb hb B_g.1
     replace B_qn := bb hb B_qn.1
     replace B_qw := bb hb B_qw.1
     replace B_qc := bb hb B_qc.1
     replace R_m := Aside0.mk (Kd.R_below R_m.1 hb)
     replace HG := Aside0.mk (hx.gb_below HG.1 hb)
     clear hb
     refine ⟨_, rfl, ?_⟩
     refine hK.out _ _ ⟨B_g.1, B_qw.1, B_qc.1⟩ (fun hHeld => ?_)
     clear hK K
     refine nm 103 ?_
     refine pu 8 95 511 ?_
     refine pu 9 104 1023 ?_
     refine pu 10 105 2047 ?_
     refine one_ (i := 11) (N := some 11) (bs 14 4095) rfl rfl (by kernel_rfl) (by decide) (fun K hK => ?_)
     refine box_step ?hg (N := 11) ?hd (cs := #[.int .i64 0, .int .i64 0]) (t := 63) ?hr ?_; (case hd => rfl); (case hg => rfl); (case hr => first | (go_simp; done) | (go_simp; rfl))
     intro qh hg w34_ hbox hb
     have N_g_qh := nl hg B_g.1
     have N_qn_qh := nl hg B_qn.1
     have N_qw_qh := nl hg B_qw.1
     have N_qc_qh := nl hg B_qc.1
     have N_qh_g := ng hg B_g.1
     have N_qh_qn := ng hg B_qn.1
     have N_qh_qw := ng hg B_qw.1
     have N_qh_qc := ng hg B_qc.1
     have E_qh : Aside0 (w.heap.size ≤ qh) := ⟨by rw [hg]; exact HG.1.size⟩
     replace B_g := bb hb B_g.1
     replace B_qn := bb hb B_qn.1
     replace B_qw := bb hb B_qw.1
     replace B_qc := bb hb B_qc.1
     replace R_m := Aside0.mk (Kd.R_below R_m.1 hb)
     replace HG := Aside0.mk (hx.gb_below HG.1 hb)
     have B_qh := Aside0.mk hbox
     clear hb hbox hg
     refine hK.out _ _ ⟨B_g.1, B_qw.1, B_qc.1⟩ (fun hHeld => ?_)
     clear hK K
     refine nm 11 ?_
     exact norm_ (by simp only [putAll, Act.put, zA, zB, zC] <;> rfl) (hCont qh _ ⟨hHeld, B_g.1, B_qn.1, B_qw.1, B_qc.1, B_qh.1, R_m.1, HG.1, E_qh.1, N_g_qh.1, N_qh_g.1, N_qn_qh.1, N_qh_qn.1, N_qw_qh.1, N_qh_qw.1, N_qc_qh.1, N_qh_qc.1⟩)
    ·skip
     refine box_step ?hg (N := 11) ?hd (cs := #[.int .i64 0, .int .i64 0]) (t := 63) ?hr ?_; (case hd => rfl); (case hg => rfl); (case hr => first | (go_simp; done) | (go_simp; rfl))
     intro qh hg w35_ hbox hb
     have N_g_qh := nl hg B_g.1
     have N_qn_qh := nl hg B_qn.1
     have N_qw_qh := nl hg B_qw.1
     have N_qc_qh := nl hg B_qc.1
     have N_qh_g := ng hg B_g.1
     have N_qh_qn := ng hg B_qn.1
     have N_qh_qw := ng hg B_qw.1
     have N_qh_qc := ng hg B_qc.1
     have E_qh : Aside0 (w.heap.size ≤ qh) := ⟨by rw [hg]; exact HG.1.size⟩
     replace B_g := bb hb B_g.1
     replace B_qn := bb hb B_qn.1
     replace B_qw := bb hb B_qw.1
     replace B_qc := bb hb B_qc.1
     replace R_m := Aside0.mk (Kd.R_below R_m.1 hb)
     replace HG := Aside0.mk (hx.gb_below HG.1 hb)
     have B_qh := Aside0.mk hbox
     clear hb hbox hg
     refine hK.out _ _ ⟨B_g.1, B_qw.1, B_qc.1⟩ (fun hHeld => ?_)
     clear hK K
     refine nm 11 ?_
     refine one_ (i := 7) (N := some 103) (bs 14 2303) rfl rfl (by kernel_rfl) (by decide) (fun K hK => ?_)
     refine goes_ Tryd.func39 (by kernel_rfl) rfl #[.agg #[.int .i64 s8, .int .i64 s9], .int .i64 ct, .int .i64 mo] (by rfl) rfl rfl (by (try simp only [List.map_toArray, List.map_cons, List.map_nil]); first | done | rfl) ?_
     with_reducible refine (hlc_Clock_Mend.calls k s8 s9 ct mo h0 h1 an _ HME.1).mono ?_
     rintro e w36_ ⟨rfl, hb⟩
     replace B_g := bb hb B_g.1
     replace B_qn := bb hb B_qn.1
     replace B_qw := bb hb B_qw.1
     replace B_qc := bb hb B_qc.1
     replace B_qh := bb hb B_qh.1
     replace R_m := Aside0.mk (Kd.R_below R_m.1 hb)
     replace HG := Aside0.mk (hx.gb_below HG.1 hb)
     clear hb
     refine ⟨_, rfl, ?_⟩
     refine hK.out _ _ ⟨B_g.1, B_qw.1, B_qc.1⟩ (fun hHeld => ?_)
     clear hK K
     refine nm 103 ?_
     refine pu 8 95 2559 ?_
     refine pu 9 104 3071 ?_
     refine pu 10 105 4095 ?_
     exact norm_ (by simp only [putAll, Act.put, zA, zB, zC] <;> rfl) (hCont qh _ ⟨hHeld, B_g.1, B_qn.1, B_qw.1, B_qc.1, B_qh.1, R_m.1, HG.1, E_qh.1, N_g_qh.1, N_qh_g.1, N_qn_qh.1, N_qh_qn.1, N_qw_qh.1, N_qh_qw.1, N_qc_qh.1, N_qh_qc.1⟩)
   ·skip
    refine box_step ?hg (N := 11) ?hd (cs := #[.int .i64 0, .int .i64 0]) (t := 63) ?hr ?_; (case hd => rfl); (case hg => rfl); (case hr => first | (go_simp; done) | (go_simp; rfl))
    intro qh hg w37_ hbox hb
    have N_g_qh := nl hg B_g.1
    have N_qn_qh := nl hg B_qn.1
    have N_qw_qh := nl hg B_qw.1
    have N_qc_qh := nl hg B_qc.1
    have N_qh_g := ng hg B_g.1
    have N_qh_qn := ng hg B_qn.1
    have N_qh_qw := ng hg B_qw.1
    have N_qh_qc := ng hg B_qc.1
    have E_qh : Aside0 (w.heap.size ≤ qh) := ⟨by rw [hg]; exact HG.1.size⟩
    replace B_g := bb hb B_g.1
    replace B_qn := bb hb B_qn.1
    replace B_qw := bb hb B_qw.1
    replace B_qc := bb hb B_qc.1
    replace R_m := Aside0.mk (Kd.R_below R_m.1 hb)
    replace HG := Aside0.mk (hx.gb_below HG.1 hb)
    have B_qh := Aside0.mk hbox
    clear hb hbox hg
    refine hK.out _ _ ⟨B_g.1, B_qw.1, B_qc.1⟩ (fun hHeld => ?_)
    clear hK K
    refine nm 11 ?_
    refine one_ (i := 6) (N := some 102) (bs 14 2175) rfl rfl (by kernel_rfl) (by decide) (fun K hK => ?_)
    refine goes_ Tryd.func30 (by kernel_rfl) rfl #[.pointer (some ⟨g, 0, none⟩)] (by rfl) rfl rfl (by (try simp only [List.map_toArray, List.map_cons, List.map_nil]); first | done | rfl) ?_
    with_reducible refine (health_Front_most.calls k g p0 p1 p2 p3 p4 p5 p6 p7 p8 p9 p10 p11 m0 m1 ct cs m4 m5 m6 mA mc ml s8 s9 lf f2 mo _ B_g.1 HF2.1 HMO.1).mono ?_
    rintro e w38_ ⟨rfl, hb⟩
    replace B_g := bb hb B_g.1
    replace B_qn := bb hb B_qn.1
    replace B_qw := bb hb B_qw.1
    replace B_qc := bb hb B_qc.1
    replace B_qh := bb hb B_qh.1
    replace R_m := Aside0.mk (Kd.R_below R_m.1 hb)
    replace HG := Aside0.mk (hx.gb_below HG.1 hb)
    clear hb
    refine ⟨_, rfl, ?_⟩
    refine hK.out _ _ ⟨B_g.1, B_qw.1, B_qc.1⟩ (fun hHeld => ?_)
    clear hK K
    refine nm 102 ?_
    refine one_ (i := 7) (N := some 103) (bs 14 2303) rfl rfl (by kernel_rfl) (by decide) (fun K hK => ?_)
    refine goes_ Tryd.func39 (by kernel_rfl) rfl #[.agg #[.int .i64 s8, .int .i64 s9], .int .i64 ct, .int .i64 mo] (by rfl) rfl rfl (by (try simp only [List.map_toArray, List.map_cons, List.map_nil]); first | done | rfl) ?_
    with_reducible refine (hlc_Clock_Mend.calls k s8 s9 ct mo h0 h1 an _ HME.1).mono ?_
    rintro e w39_ ⟨rfl, hb⟩
    replace B_g := bb hb B_g.1
    replace B_qn := bb hb B_qn.1
    replace B_qw := bb hb B_qw.1
    replace B_qc := bb hb B_qc.1
    replace B_qh := bb hb B_qh.1
    replace R_m := Aside0.mk (Kd.R_below R_m.1 hb)
    replace HG := Aside0.mk (hx.gb_below HG.1 hb)
    clear hb
    refine ⟨_, rfl, ?_⟩
    refine hK.out _ _ ⟨B_g.1, B_qw.1, B_qc.1⟩ (fun hHeld => ?_)
    clear hK K
    refine nm 103 ?_
    refine pu 8 95 2559 ?_
    refine pu 9 104 3071 ?_
    refine pu 10 105 4095 ?_
    exact norm_ (by simp only [putAll, Act.put, zA, zB, zC] <;> rfl) (hCont qh _ ⟨hHeld, B_g.1, B_qn.1, B_qw.1, B_qc.1, B_qh.1, R_m.1, HG.1, E_qh.1, N_g_qh.1, N_qh_g.1, N_qn_qh.1, N_qh_qn.1, N_qw_qh.1, N_qh_qw.1, N_qc_qh.1, N_qh_qc.1⟩)
  rintro qh w40_ ⟨hS_, h0_, h1_, h2_, h3_, h4_, h5_, h6_, hE_, hN0_, hM0_, hN1_, hM1_, hN2_, hM2_, hN3_, hM3_⟩
  clear B_g B_qn B_qw B_qc R_m HG
  have B_g : Aside0 (w40_.heap[g]? = some (.cells #[.int .i64 p0, .int .i64 p1, .int .i64 p2, .int .i64 p3, .int .i64 p4, .int .i64 p5, .int .i64 p6, .int .i64 p7, .int .i64 p8, .int .i64 p9, .int .i64 p10, .int .i64 p11, .int .i64 m0, .int .i64 m1, .int .i64 ct, .bool cs, .int .i64 m4, .int .i64 m5, .bool m6, .slice mA ml.length mc, .int .i64 s8, .int .i64 s9, .int .i64 lf] 35 (0, 0))) := ⟨h0_⟩
  have B_qn : Aside0 (w40_.heap[qn]? = some (.cells #[.int .i64 y0, .int .i64 y1, .int .i64 y2, .bool y3, .int .i64 y4, .int .i64 y5, .bool y6, .slice yA yl.length yc, .int .i64 y8, .int .i64 y9, .int .i64 y10] 30 (0, 0))) := ⟨h1_⟩
  have B_qw : Aside0 (w40_.heap[qw]? = some (.cells #[.int .i64 s0, .int .i64 s1, .int .i64 s2, .bool s3, .int .i64 s4, .int .i64 s5, .bool s6, .slice sA sl.length sc, .int .i64 s8, .int .i64 s9, .int .i64 s10] 30 (0, 0))) := ⟨h2_⟩
  have B_qc : Aside0 (w40_.heap[qc]? = some (.cells #[.int .i64 ct, .bool cs] 72 (0, 0))) := ⟨h3_⟩
  have B_qh : Aside0 (w40_.heap[qh]? = some (.cells #[.int .i64 0, .int .i64 0] 63 (0, 0))) := ⟨h4_⟩
  have R_m : Aside0 (Kd.R k82 82 w40_ w.heap.size (fun k_ => some k_ = ((.slice mA ml.length mc) : Value).ownBlock) (.slice mA ml.length mc) ml) := ⟨h5_⟩
  have HG : Aside0 (w.grownBy w40_ (some g)) := ⟨h6_⟩
  have E_qh := Aside0.mk hE_
  have N_g_qh := Aside0.mk hN0_
  have N_qh_g := Aside0.mk hM0_
  have N_qn_qh := Aside0.mk hN1_
  have N_qh_qn := Aside0.mk hM1_
  have N_qw_qh := Aside0.mk hN2_
  have N_qh_qw := Aside0.mk hM2_
  have N_qc_qh := Aside0.mk hN3_
  have N_qh_qc := Aside0.mk hM3_
  clear h0_ h1_ h2_ h3_ h4_ h5_ h6_ hE_ hN0_ hM0_ hN1_ hM1_ hN2_ hM2_ hN3_ hM3_
  have hHeld := hS_
  try dsimp only at hHeld
  clear hS_
  refine norm_ (a' := ?_) ?_ ?_
  rotate_left
  ·simp only [putAll, Act.put, zA, zB, zC]
   rfl
  refine one_ (i := 12) (N := none) (bs 14 8191) rfl rfl (by kernel_rfl) (by decide) (fun K hK => ?_)
  have hs_0 : w40_.cell? ⟨qh, 0, none⟩ = some (.int .i64 0) := (blk_cell B_qh.1 0).trans rfl
  have hf_0 := blk_frozen B_qh.1 0
  have hs_1 : w40_.cell? ⟨qh, 1, none⟩ = some (.int .i64 0) := (blk_cell B_qh.1 1).trans rfl
  have hf_1 := blk_frozen B_qh.1 1
  refine skip_ (w1 := ?_) (by rfl) rfl ?_ ?_
  rotate_left
  ·go_simp
   rfl
  have n0_ : Aside0 (((w40_.setCell ⟨qh, 0, none⟩ (.int .i64 h0)).setCell ⟨qh, 1, none⟩ (.int .i64 h1)).heap[g]? = some (.cells #[.int .i64 p0, .int .i64 p1, .int .i64 p2, .int .i64 p3, .int .i64 p4, .int .i64 p5, .int .i64 p6, .int .i64 p7, .int .i64 p8, .int .i64 p9, .int .i64 p10, .int .i64 p11, .int .i64 m0, .int .i64 m1, .int .i64 ct, .bool cs, .int .i64 m4, .int .i64 m5, .bool m6, .slice mA ml.length mc, .int .i64 s8, .int .i64 s9, .int .i64 lf] 35 (0, 0))) := ⟨blk_far (blk_far (B_g.1) N_g_qh.1 _) N_g_qh.1 _⟩
  have n1_ : Aside0 (((w40_.setCell ⟨qh, 0, none⟩ (.int .i64 h0)).setCell ⟨qh, 1, none⟩ (.int .i64 h1)).heap[qn]? = some (.cells #[.int .i64 y0, .int .i64 y1, .int .i64 y2, .bool y3, .int .i64 y4, .int .i64 y5, .bool y6, .slice yA yl.length yc, .int .i64 y8, .int .i64 y9, .int .i64 y10] 30 (0, 0))) := ⟨blk_far (blk_far (B_qn.1) N_qn_qh.1 _) N_qn_qh.1 _⟩
  have n2_ : Aside0 (((w40_.setCell ⟨qh, 0, none⟩ (.int .i64 h0)).setCell ⟨qh, 1, none⟩ (.int .i64 h1)).heap[qw]? = some (.cells #[.int .i64 s0, .int .i64 s1, .int .i64 s2, .bool s3, .int .i64 s4, .int .i64 s5, .bool s6, .slice sA sl.length sc, .int .i64 s8, .int .i64 s9, .int .i64 s10] 30 (0, 0))) := ⟨blk_far (blk_far (B_qw.1) N_qw_qh.1 _) N_qw_qh.1 _⟩
  have n3_ : Aside0 (((w40_.setCell ⟨qh, 0, none⟩ (.int .i64 h0)).setCell ⟨qh, 1, none⟩ (.int .i64 h1)).heap[qc]? = some (.cells #[.int .i64 ct, .bool cs] 72 (0, 0))) := ⟨blk_far (blk_far (B_qc.1) N_qc_qh.1 _) N_qc_qh.1 _⟩
  have n4_ : Aside0 (((w40_.setCell ⟨qh, 0, none⟩ (.int .i64 h0)).setCell ⟨qh, 1, none⟩ (.int .i64 h1)).heap[qh]? = some (.cells #[.int .i64 h0, .int .i64 h1] 63 (0, 0))) := ⟨by have h_ := blk_set (blk_set (B_qh.1) 0 (.int .i64 h0)) 1 (.int .i64 h1); simp only [zA, zB, zC] at h_; exact h_⟩
  have n5_ : Aside0 (Kd.R k82 82 ((w40_.setCell ⟨qh, 0, none⟩ (.int .i64 h0)).setCell ⟨qh, 1, none⟩ (.int .i64 h1)) w.heap.size (fun k_ => some k_ = ((.slice mA ml.length mc) : Value).ownBlock) (.slice mA ml.length mc) ml) := ⟨Kd.R_far (Kd.R_far (R_m.1) (hx.away R_m.1 B_qh.1 (by decide)) _) (hx.away R_m.1 B_qh.1 (by decide)) _⟩
  have n6_ : Aside0 (w.grownBy ((w40_.setCell ⟨qh, 0, none⟩ (.int .i64 h0)).setCell ⟨qh, 1, none⟩ (.int .i64 h1)) (some g)) := ⟨hx.gb_setl (hx.gb_setl (HG.1) E_qh.1) E_qh.1⟩
  clear B_g B_qn B_qw B_qc B_qh R_m HG
  have B_g := n0_
  have B_qn := n1_
  have B_qw := n2_
  have B_qc := n3_
  have B_qh := n4_
  have R_m := n5_
  have HG := n6_
  clear n0_ n1_ n2_ n3_ n4_ n5_ n6_
  refine hK.out _ _ ⟨B_g.1, B_qw.1, B_qc.1⟩ (fun hHeld => ?_)
  clear hK K hs_0 hf_0 hs_1 hf_1
  generalize ((w40_.setCell ⟨qh, 0, none⟩ (.int .i64 h0)).setCell ⟨qh, 1, none⟩ (.int .i64 h1)) = w41_ at B_g B_qn B_qw B_qc B_qh R_m HG hHeld ⊢
  refine pu 13 12 16383 ?_
  refine done_ (by kernel_rfl) ?_
  go_upto_region 10 with (fail)
  obtain ⟨hc_qh_0, hc_qh_1⟩ := cc2 B_qh.1
  have hc_qc_0 : w41_.cell? ⟨qc, 0, none⟩ = some (.int .i64 ct) := (blk_cell B_qc.1 0).trans rfl
  go_upto_region 11 with ((go_at_call 28; (with_reducible refine (hlc_Clock_Tick.calls k h0 h1 ct u0 u1 _ HTK.1).mono ?_); rintro e w42_ ⟨rfl, hb⟩; replace B_g := bb hb B_g.1; replace B_qn := bb hb B_qn.1; replace B_qw := bb hb B_qw.1; replace B_qc := bb hb B_qc.1; replace B_qh := bb hb B_qh.1; replace R_m := Aside0.mk (Kd.R_below R_m.1 hb); replace HG := Aside0.mk (hx.gb_below HG.1 hb); clear hb; have hr2f_g_20 := blk_frozen B_g.1 20; have hr2_g_20 : w42_.cell? ⟨g, 20, none⟩ = some (.int .i64 s8) := (blk_cell B_g.1 20).trans rfl; have hr2f_g_21 := blk_frozen B_g.1 21; have hr2_g_21 : w42_.cell? ⟨g, 21, none⟩ = some (.int .i64 s9) := (blk_cell B_g.1 21).trans rfl))
  clear hc_qh_0 hc_qh_1 hc_qc_0 hr2f_g_20 hr2_g_20 hr2f_g_21 hr2_g_21
  have n0_ : Aside0 (((w42_.setCell ⟨g, 20, none⟩ (.int .i64 u0)).setCell ⟨g, 21, none⟩ (.int .i64 u1)).heap[g]? = some (.cells #[.int .i64 p0, .int .i64 p1, .int .i64 p2, .int .i64 p3, .int .i64 p4, .int .i64 p5, .int .i64 p6, .int .i64 p7, .int .i64 p8, .int .i64 p9, .int .i64 p10, .int .i64 p11, .int .i64 m0, .int .i64 m1, .int .i64 ct, .bool cs, .int .i64 m4, .int .i64 m5, .bool m6, .slice mA ml.length mc, .int .i64 u0, .int .i64 u1, .int .i64 lf] 35 (0, 0))) := ⟨by have h_ := blk_set (blk_set (B_g.1) 20 (.int .i64 u0)) 21 (.int .i64 u1); simp only [zA, zB, zC] at h_; exact h_⟩
  have n1_ : Aside0 (((w42_.setCell ⟨g, 20, none⟩ (.int .i64 u0)).setCell ⟨g, 21, none⟩ (.int .i64 u1)).heap[qn]? = some (.cells #[.int .i64 y0, .int .i64 y1, .int .i64 y2, .bool y3, .int .i64 y4, .int .i64 y5, .bool y6, .slice yA yl.length yc, .int .i64 y8, .int .i64 y9, .int .i64 y10] 30 (0, 0))) := ⟨blk_far (blk_far (B_qn.1) N_qn_g.1 _) N_qn_g.1 _⟩
  have n2_ : Aside0 (((w42_.setCell ⟨g, 20, none⟩ (.int .i64 u0)).setCell ⟨g, 21, none⟩ (.int .i64 u1)).heap[qw]? = some (.cells #[.int .i64 s0, .int .i64 s1, .int .i64 s2, .bool s3, .int .i64 s4, .int .i64 s5, .bool s6, .slice sA sl.length sc, .int .i64 s8, .int .i64 s9, .int .i64 s10] 30 (0, 0))) := ⟨blk_far (blk_far (B_qw.1) N_qw_g.1 _) N_qw_g.1 _⟩
  have n3_ : Aside0 (((w42_.setCell ⟨g, 20, none⟩ (.int .i64 u0)).setCell ⟨g, 21, none⟩ (.int .i64 u1)).heap[qc]? = some (.cells #[.int .i64 ct, .bool cs] 72 (0, 0))) := ⟨blk_far (blk_far (B_qc.1) N_qc_g.1 _) N_qc_g.1 _⟩
  have n4_ : Aside0 (((w42_.setCell ⟨g, 20, none⟩ (.int .i64 u0)).setCell ⟨g, 21, none⟩ (.int .i64 u1)).heap[qh]? = some (.cells #[.int .i64 h0, .int .i64 h1] 63 (0, 0))) := ⟨blk_far (blk_far (B_qh.1) N_qh_g.1 _) N_qh_g.1 _⟩
  have n5_ : Aside0 (Kd.R k82 82 ((w42_.setCell ⟨g, 20, none⟩ (.int .i64 u0)).setCell ⟨g, 21, none⟩ (.int .i64 u1)) w.heap.size (fun k_ => some k_ = ((.slice mA ml.length mc) : Value).ownBlock) (.slice mA ml.length mc) ml) := ⟨Kd.R_far (Kd.R_far (R_m.1) (hx.away R_m.1 B_g.1 (by decide)) _) (hx.away R_m.1 B_g.1 (by decide)) _⟩
  have n6_ : Aside0 (w.grownBy ((w42_.setCell ⟨g, 20, none⟩ (.int .i64 u0)).setCell ⟨g, 21, none⟩ (.int .i64 u1)) (some g)) := ⟨hx.gb_set (hx.gb_set (HG.1))⟩
  clear B_g B_qn B_qw B_qc B_qh R_m HG
  have B_g := n0_
  have B_qn := n1_
  have B_qw := n2_
  have B_qc := n3_
  have B_qh := n4_
  have R_m := n5_
  have HG := n6_
  clear n0_ n1_ n2_ n3_ n4_ n5_ n6_
  generalize ((w42_.setCell ⟨g, 20, none⟩ (.int .i64 u0)).setCell ⟨g, 21, none⟩ (.int .i64 u1)) = w43_ at B_g B_qn B_qw B_qc B_qh R_m HG ⊢
  rcases HLN.1 with ⟨hc, a1, ha1, hb1⟩ | ⟨h1_, h2_, h3_⟩
  ·have HA1 := Aside0.mk ha1
   have HB1 := Aside0.mk hb1
   clear ha1 hb1 HLN
   by_cases han : an = true
   ·subst han
    clear hc
    go_upto_region 12 with (fail)
    have hc_g_22 : w43_.cell? ⟨g, 22, none⟩ = some (.int .i64 lf) := (blk_cell B_g.1 22).trans rfl
    go_wp2_with (first | ((with_reducible refine gate_dst (N := 129) rfl ?_); refine Kd.R_lit (Kd.int .i64) _ 3 ?hg (N := 129) ?hd (xs := ([lf, 1] : List Int)) (inner := [.int .i64 lf, .int .i64 1]) (ok := fun _ => True) (okp := fun _ => True) ?hr ?hp (fun _ hk => hk) trivial (Below.refl _ _) (Nat.le_refl _) (by simp) ?_; (case hd => rfl); (case hg => rfl); (case hr => first | (go_simp; done) | (go_simp; rfl)); (case hp => exact (Reps.one (show Kd.M (Kd.int .i64) _ _ _ (lf) [.int .i64 (lf)] from rfl) (Reps.one (show Kd.M (Kd.int .i64) _ _ _ (1) [.int .i64 (1)] from rfl) (Reps.none _ _)))); intro v_z w44_ ho hb hg_ hnew_; clear hg_ hnew_; replace B_g := bb hb B_g.1; replace B_qn := bb hb B_qn.1; replace B_qw := bb hb B_qw.1; replace B_qc := bb hb B_qc.1; replace B_qh := bb hb B_qh.1; replace R_m := Aside0.mk (Kd.R_below R_m.1 hb); replace HG := Aside0.mk (hx.gb_below HG.1 hb); have R0_z := Aside0.mk ho; obtain ⟨A_z, c_z, e_z⟩ := Kd.R_slice R0_z.1; subst e_z; clear ho hb) | (go_at_call 34; (with_reducible refine (hx.add2 k A_z c_z lf 1 a1 _ (Kd.R_reads' R0_z.1).2.2 (Kd.R_reads' R0_z.1).2.1 HA1.1).mono ?_); rintro e w45_ ⟨rfl, hd_⟩; have hb := hd_.below; clear hd_; replace B_g := bb hb B_g.1; replace B_qn := bb hb B_qn.1; replace B_qw := bb hb B_qw.1; replace B_qc := bb hb B_qc.1; replace B_qh := bb hb B_qh.1; replace R_m := Aside0.mk (Kd.R_below R_m.1 hb); replace HG := Aside0.mk (hx.gb_below HG.1 hb); clear hb) | (go_at_call 38; (with_reducible refine (sat_Bound.calls k a1 0 2305843009213693952 ln _ HB1.1).mono ?_); rintro e w46_ ⟨rfl, hd_⟩; have hb := hd_.below; clear hd_; replace B_g := bb hb B_g.1; replace B_qn := bb hb B_qn.1; replace B_qw := bb hb B_qw.1; replace B_qc := bb hb B_qc.1; replace B_qh := bb hb B_qh.1; replace R_m := Aside0.mk (Kd.R_below R_m.1 hb); replace HG := Aside0.mk (hx.gb_below HG.1 hb); clear hb; have hr3f_g_22 := blk_frozen B_g.1 22; have hr3_g_22 : w46_.cell? ⟨g, 22, none⟩ = some (.int .i64 lf) := (blk_cell B_g.1 22).trans rfl))
    clear hc_g_22 hr3f_g_22 hr3_g_22
    have n0_ : Aside0 ((w46_.setCell ⟨g, 22, none⟩ (.int .i64 ln)).heap[g]? = some (.cells #[.int .i64 p0, .int .i64 p1, .int .i64 p2, .int .i64 p3, .int .i64 p4, .int .i64 p5, .int .i64 p6, .int .i64 p7, .int .i64 p8, .int .i64 p9, .int .i64 p10, .int .i64 p11, .int .i64 m0, .int .i64 m1, .int .i64 ct, .bool cs, .int .i64 m4, .int .i64 m5, .bool m6, .slice mA ml.length mc, .int .i64 u0, .int .i64 u1, .int .i64 ln] 35 (0, 0))) := ⟨by have h_ := blk_set (B_g.1) 22 (.int .i64 ln); simp only [zA, zB, zC] at h_; exact h_⟩
    have n1_ : Aside0 ((w46_.setCell ⟨g, 22, none⟩ (.int .i64 ln)).heap[qn]? = some (.cells #[.int .i64 y0, .int .i64 y1, .int .i64 y2, .bool y3, .int .i64 y4, .int .i64 y5, .bool y6, .slice yA yl.length yc, .int .i64 y8, .int .i64 y9, .int .i64 y10] 30 (0, 0))) := ⟨blk_far (B_qn.1) N_qn_g.1 _⟩
    have n2_ : Aside0 ((w46_.setCell ⟨g, 22, none⟩ (.int .i64 ln)).heap[qw]? = some (.cells #[.int .i64 s0, .int .i64 s1, .int .i64 s2, .bool s3, .int .i64 s4, .int .i64 s5, .bool s6, .slice sA sl.length sc, .int .i64 s8, .int .i64 s9, .int .i64 s10] 30 (0, 0))) := ⟨blk_far (B_qw.1) N_qw_g.1 _⟩
    have n3_ : Aside0 ((w46_.setCell ⟨g, 22, none⟩ (.int .i64 ln)).heap[qc]? = some (.cells #[.int .i64 ct, .bool cs] 72 (0, 0))) := ⟨blk_far (B_qc.1) N_qc_g.1 _⟩
    have n4_ : Aside0 ((w46_.setCell ⟨g, 22, none⟩ (.int .i64 ln)).heap[qh]? = some (.cells #[.int .i64 h0, .int .i64 h1] 63 (0, 0))) := ⟨blk_far (B_qh.1) N_qh_g.1 _⟩
    have n5_ : Aside0 (Kd.R k82 82 (w46_.setCell ⟨g, 22, none⟩ (.int .i64 ln)) w.heap.size (fun k_ => some k_ = ((.slice mA ml.length mc) : Value).ownBlock) (.slice mA ml.length mc) ml) := ⟨Kd.R_far (R_m.1) (hx.away R_m.1 B_g.1 (by decide)) _⟩
    have n6_ : Aside0 (w.grownBy (w46_.setCell ⟨g, 22, none⟩ (.int .i64 ln)) (some g)) := ⟨hx.gb_set (HG.1)⟩
    clear B_g B_qn B_qw B_qc B_qh R_m HG
    have B_g := n0_
    have B_qn := n1_
    have B_qw := n2_
    have B_qc := n3_
    have B_qh := n4_
    have R_m := n5_
    have HG := n6_
    clear n0_ n1_ n2_ n3_ n4_ n5_ n6_
    generalize (w46_.setCell ⟨g, 22, none⟩ (.int .i64 ln)) = w47_ at B_g B_qn B_qw B_qc B_qh R_m HG ⊢
    refine bodyPost_end (results_none rfl _ _ _) rfl ?_
    exact ⟨mA, mc, rfl, HG.1, B_g.1, R_m.1⟩
   ·have hlt : decide (ct < s2) = true := decide_eq_true (hc.resolve_left han)
    have han : an = false := by simpa using han
    subst han
    clear hc
    have hc_qc_0 : w43_.cell? ⟨qc, 0, none⟩ = some (.int .i64 ct) := (blk_cell B_qc.1 0).trans rfl
    have hc_qw_2 : w43_.cell? ⟨qw, 2, none⟩ = some (.int .i64 s2) := (blk_cell B_qw.1 2).trans rfl
    go_upto_region 12 with (fail)
    clear hc_qc_0 hc_qw_2
    clear hlt
    have hc_g_22 : w43_.cell? ⟨g, 22, none⟩ = some (.int .i64 lf) := (blk_cell B_g.1 22).trans rfl
    go_wp2_with (first | ((with_reducible refine gate_dst (N := 129) rfl ?_); refine Kd.R_lit (Kd.int .i64) _ 3 ?hg (N := 129) ?hd (xs := ([lf, 1] : List Int)) (inner := [.int .i64 lf, .int .i64 1]) (ok := fun _ => True) (okp := fun _ => True) ?hr ?hp (fun _ hk => hk) trivial (Below.refl _ _) (Nat.le_refl _) (by simp) ?_; (case hd => rfl); (case hg => rfl); (case hr => first | (go_simp; done) | (go_simp; rfl)); (case hp => exact (Reps.one (show Kd.M (Kd.int .i64) _ _ _ (lf) [.int .i64 (lf)] from rfl) (Reps.one (show Kd.M (Kd.int .i64) _ _ _ (1) [.int .i64 (1)] from rfl) (Reps.none _ _)))); intro v_z w48_ ho hb hg_ hnew_; clear hg_ hnew_; replace B_g := bb hb B_g.1; replace B_qn := bb hb B_qn.1; replace B_qw := bb hb B_qw.1; replace B_qc := bb hb B_qc.1; replace B_qh := bb hb B_qh.1; replace R_m := Aside0.mk (Kd.R_below R_m.1 hb); replace HG := Aside0.mk (hx.gb_below HG.1 hb); have R0_z := Aside0.mk ho; obtain ⟨A_z, c_z, e_z⟩ := Kd.R_slice R0_z.1; subst e_z; clear ho hb) | (go_at_call 34; (with_reducible refine (hx.add2 k A_z c_z lf 1 a1 _ (Kd.R_reads' R0_z.1).2.2 (Kd.R_reads' R0_z.1).2.1 HA1.1).mono ?_); rintro e w49_ ⟨rfl, hd_⟩; have hb := hd_.below; clear hd_; replace B_g := bb hb B_g.1; replace B_qn := bb hb B_qn.1; replace B_qw := bb hb B_qw.1; replace B_qc := bb hb B_qc.1; replace B_qh := bb hb B_qh.1; replace R_m := Aside0.mk (Kd.R_below R_m.1 hb); replace HG := Aside0.mk (hx.gb_below HG.1 hb); clear hb) | (go_at_call 38; (with_reducible refine (sat_Bound.calls k a1 0 2305843009213693952 ln _ HB1.1).mono ?_); rintro e w50_ ⟨rfl, hd_⟩; have hb := hd_.below; clear hd_; replace B_g := bb hb B_g.1; replace B_qn := bb hb B_qn.1; replace B_qw := bb hb B_qw.1; replace B_qc := bb hb B_qc.1; replace B_qh := bb hb B_qh.1; replace R_m := Aside0.mk (Kd.R_below R_m.1 hb); replace HG := Aside0.mk (hx.gb_below HG.1 hb); clear hb; have hr4f_g_22 := blk_frozen B_g.1 22; have hr4_g_22 : w50_.cell? ⟨g, 22, none⟩ = some (.int .i64 lf) := (blk_cell B_g.1 22).trans rfl))
    clear hc_g_22 hr4f_g_22 hr4_g_22
    have n0_ : Aside0 ((w50_.setCell ⟨g, 22, none⟩ (.int .i64 ln)).heap[g]? = some (.cells #[.int .i64 p0, .int .i64 p1, .int .i64 p2, .int .i64 p3, .int .i64 p4, .int .i64 p5, .int .i64 p6, .int .i64 p7, .int .i64 p8, .int .i64 p9, .int .i64 p10, .int .i64 p11, .int .i64 m0, .int .i64 m1, .int .i64 ct, .bool cs, .int .i64 m4, .int .i64 m5, .bool m6, .slice mA ml.length mc, .int .i64 u0, .int .i64 u1, .int .i64 ln] 35 (0, 0))) := ⟨by have h_ := blk_set (B_g.1) 22 (.int .i64 ln); simp only [zA, zB, zC] at h_; exact h_⟩
    have n1_ : Aside0 ((w50_.setCell ⟨g, 22, none⟩ (.int .i64 ln)).heap[qn]? = some (.cells #[.int .i64 y0, .int .i64 y1, .int .i64 y2, .bool y3, .int .i64 y4, .int .i64 y5, .bool y6, .slice yA yl.length yc, .int .i64 y8, .int .i64 y9, .int .i64 y10] 30 (0, 0))) := ⟨blk_far (B_qn.1) N_qn_g.1 _⟩
    have n2_ : Aside0 ((w50_.setCell ⟨g, 22, none⟩ (.int .i64 ln)).heap[qw]? = some (.cells #[.int .i64 s0, .int .i64 s1, .int .i64 s2, .bool s3, .int .i64 s4, .int .i64 s5, .bool s6, .slice sA sl.length sc, .int .i64 s8, .int .i64 s9, .int .i64 s10] 30 (0, 0))) := ⟨blk_far (B_qw.1) N_qw_g.1 _⟩
    have n3_ : Aside0 ((w50_.setCell ⟨g, 22, none⟩ (.int .i64 ln)).heap[qc]? = some (.cells #[.int .i64 ct, .bool cs] 72 (0, 0))) := ⟨blk_far (B_qc.1) N_qc_g.1 _⟩
    have n4_ : Aside0 ((w50_.setCell ⟨g, 22, none⟩ (.int .i64 ln)).heap[qh]? = some (.cells #[.int .i64 h0, .int .i64 h1] 63 (0, 0))) := ⟨blk_far (B_qh.1) N_qh_g.1 _⟩
    have n5_ : Aside0 (Kd.R k82 82 (w50_.setCell ⟨g, 22, none⟩ (.int .i64 ln)) w.heap.size (fun k_ => some k_ = ((.slice mA ml.length mc) : Value).ownBlock) (.slice mA ml.length mc) ml) := ⟨Kd.R_far (R_m.1) (hx.away R_m.1 B_g.1 (by decide)) _⟩
    have n6_ : Aside0 (w.grownBy (w50_.setCell ⟨g, 22, none⟩ (.int .i64 ln)) (some g)) := ⟨hx.gb_set (HG.1)⟩
    clear B_g B_qn B_qw B_qc B_qh R_m HG
    have B_g := n0_
    have B_qn := n1_
    have B_qw := n2_
    have B_qc := n3_
    have B_qh := n4_
    have R_m := n5_
    have HG := n6_
    clear n0_ n1_ n2_ n3_ n4_ n5_ n6_
    generalize (w50_.setCell ⟨g, 22, none⟩ (.int .i64 ln)) = w51_ at B_g B_qn B_qw B_qc B_qh R_m HG ⊢
    refine bodyPost_end (results_none rfl _ _ _) rfl ?_
    exact ⟨mA, mc, rfl, HG.1, B_g.1, R_m.1⟩
  ·have hlt : decide (ct < s2) = false := decide_eq_false (by omega)
   subst h1_
   subst h3_
   clear HLN h2_
   have hc_qc_0 : w43_.cell? ⟨qc, 0, none⟩ = some (.int .i64 ct) := (blk_cell B_qc.1 0).trans rfl
   have hc_qw_2 : w43_.cell? ⟨qw, 2, none⟩ = some (.int .i64 s2) := (blk_cell B_qw.1 2).trans rfl
   go_wp2_with (fail)
   clear hc_qc_0 hc_qw_2
   refine bodyPost_end (results_none rfl _ _ _) rfl ?_
   exact ⟨mA, mc, rfl, HG.1, B_g.1, R_m.1⟩
def health_Front_Step.j (k : Nat) (p0 p1 p2 p3 p4 p5 p6 p7 p8 p9 p10 p11 : Int) (hh off y4 : Int) : Option Bool := if hh = 0 then some true else (health_Far.f k p0 p1 p2 p3 p4 p5 p6 p7 p8 p9 p10 p11 y4).bind fun fa => some (decide (fa < off))
def health_Front_Step.l (k : Nat) (lf ct s2 : Int) (an : Bool) : Option Int := if an = true ∨ ct < s2 then (sat_Add.f k [lf, 1]).bind fun a1 => sat_Bound.f k a1 0 2305843009213693952 else some lf
def health_Front_Step.f (k : Nat) (p0 p1 p2 p3 p4 p5 p6 p7 p8 p9 p10 p11 : Int) (s0 s1 s2 : Int) (s3 : Bool) (s4 s5 : Int) (s6 : Bool) (sl : List S82) (s8 s9 s10 : Int) (tk : Int) (y0 y1 y2 : Int) (y3 : Bool) (y4 y5 : Int) (y6 : Bool) (yl : List S82) (y8 y9 y10 : Int) : Option (Int × Int × Int × Bool × Int × Int × Bool × List S82 × Int × Int × Int) := (span_Mid.f k y0 y1).bind fun tz => (sat_Add.f k [s2, tk]).bind fun ad => (sat_Sub.f k tz ad).bind fun sb => (sat_Abs.f k sb).bind fun off => (health_Of.f k p0 p1 p2 p3 p4 p5 p6 p7 p8 p9 p10 p11 s0 s1 s2 s3 s4 s5 s6 sl s8 s9 s10).bind fun hh => (health_Front_Step.j k p0 p1 p2 p3 p4 p5 p6 p7 p8 p9 p10 p11 hh off y4).bind fun j => (slew_Clock_Step.f k s2 s3 p0 p1 p2 p3 p4 p5 p6 p7 p8 p9 p10 p11 tk tz j).bind fun cl => (health_Sane.f k p0 p1 p2 p3 p4 p5 p6 p7 p8 p9 p10 p11 y0 y1 y2 y3 y4 y5 y6 yl y8 y9 y10).bind fun m => (sat_Bound.f k s10 0 2305843009213693952).bind fun lf => (health_Far.f k p0 p1 p2 p3 p4 p5 p6 p7 p8 p9 p10 p11 m.2.2.2.2.1).bind fun f2 => (sat_Add.f k [m.2.1, f2]).bind fun mo => (hlc_Clock_Mend.f k s8 s9 cl.1 mo).bind fun h => (hlc_Clock_Tick.f k h.1 h.2.1 cl.1).bind fun u => (health_Front_Step.l k lf cl.1 s2 h.2.2).bind fun ln => some (m.1, m.2.1, cl.1, cl.2, m.2.2.2.2.1, m.2.2.2.2.2.1, m.2.2.2.2.2.2.1, m.2.2.2.2.2.2.2.1, u.1, u.2, ln)
set_option maxHeartbeats 8000000 in
set_option maxRecDepth 100000 in
theorem health_Front_Step.does (k : Nat) (g : Nat) (p0 p1 p2 p3 p4 p5 p6 p7 p8 p9 p10 p11 : Int) (s0 s1 s2 : Int) (s3 : Bool) (s4 s5 : Int) (s6 : Bool) (sA : Option Addr) (sc : Nat) (sl : List S82) (s8 s9 s10 : Int) (tk : Int) (y0 y1 y2 : Int) (y3 : Bool) (y4 y5 : Int) (y6 : Bool) (yA : Option Addr) (yc : Nat) (yl : List S82) (y8 y9 y10 : Int) (r0 r1 r2 : Int) (r3 : Bool) (r4 r5 : Int) (r6 : Bool) (ml : List S82) (r8 r9 r10 : Int) (w : World) (hrs : Kd.C k82 w sA sl.length sl) (hcs : sl.length ≤ sc) (hry : Kd.C k82 w yA yl.length yl) (hcy : yl.length ≤ yc) (hb : w.heap[g]? = some (.cells #[.int .i64 p0, .int .i64 p1, .int .i64 p2, .int .i64 p3, .int .i64 p4, .int .i64 p5, .int .i64 p6, .int .i64 p7, .int .i64 p8, .int .i64 p9, .int .i64 p10, .int .i64 p11, .int .i64 s0, .int .i64 s1, .int .i64 s2, .bool s3, .int .i64 s4, .int .i64 s5, .bool s6, .slice sA sl.length sc, .int .i64 s8, .int .i64 s9, .int .i64 s10] 35 (0, 0))) (h : health_Front_Step.f k p0 p1 p2 p3 p4 p5 p6 p7 p8 p9 p10 p11 s0 s1 s2 s3 s4 s5 s6 sl s8 s9 s10 tk y0 y1 y2 y3 y4 y5 y6 yl y8 y9 y10 = some (r0, r1, r2, r3, r4, r5, r6, ml, r8, r9, r10)) :
  Calls Tryd.prog 17 #[.pointer (some ⟨g, 0, none⟩), .int .i64 tk, .agg #[.int .i64 y0, .int .i64 y1, .int .i64 y2, .bool y3, .int .i64 y4, .int .i64 y5, .bool y6, .slice yA yl.length yc, .int .i64 y8, .int .i64 y9, .int .i64 y10]] w fun e w' => ∃ (mA : Option Addr) (mc : Nat), e = .returned (.tuple #[]) ∧ w.grownBy w' (some g) ∧ w'.heap[g]? = some (.cells #[.int .i64 p0, .int .i64 p1, .int .i64 p2, .int .i64 p3, .int .i64 p4, .int .i64 p5, .int .i64 p6, .int .i64 p7, .int .i64 p8, .int .i64 p9, .int .i64 p10, .int .i64 p11, .int .i64 r0, .int .i64 r1, .int .i64 r2, .bool r3, .int .i64 r4, .int .i64 r5, .bool r6, .slice mA ml.length mc, .int .i64 r8, .int .i64 r9, .int .i64 r10] 35 (0, 0)) ∧ Kd.R k82 82 w' w.heap.size (fun k_ => some k_ = (Value.slice mA ml.length mc).ownBlock) (.slice mA ml.length mc) ml := by
 unfold health_Front_Step.f at h
 obtain ⟨tz, xto, h⟩ := Option.bind_eq_some_iff.mp h
 obtain ⟨ad, xad, h⟩ := Option.bind_eq_some_iff.mp h
 obtain ⟨sb, xsb, h⟩ := Option.bind_eq_some_iff.mp h
 obtain ⟨off, xoff, h⟩ := Option.bind_eq_some_iff.mp h
 obtain ⟨hh, xhf, h⟩ := Option.bind_eq_some_iff.mp h
 obtain ⟨j, xj, h⟩ := Option.bind_eq_some_iff.mp h
 obtain ⟨⟨ct, cs⟩, xcl, h⟩ := Option.bind_eq_some_iff.mp h
 obtain ⟨⟨m0, m1, m2, m3, m4, m5, m6, ml', m8, m9, m10⟩, xsa, h⟩ := Option.bind_eq_some_iff.mp h
 obtain ⟨lf, xlf, h⟩ := Option.bind_eq_some_iff.mp h
 obtain ⟨f2, xf2, h⟩ := Option.bind_eq_some_iff.mp h
 obtain ⟨mo, xmo, h⟩ := Option.bind_eq_some_iff.mp h
 obtain ⟨⟨h0, h1, an⟩, xme, h⟩ := Option.bind_eq_some_iff.mp h
 obtain ⟨⟨u0, u1⟩, xtk, h⟩ := Option.bind_eq_some_iff.mp h
 obtain ⟨ln, xln, h⟩ := Option.bind_eq_some_iff.mp h
 simp only [Option.some.injEq, Prod.mk.injEq] at h
 obtain ⟨rfl, rfl, rfl, rfl, rfl, rfl, rfl, rfl, rfl, rfl, rfl⟩ := h
 have hj : (hh = 0 ∧ j = true) ∨ (hh ≠ 0 ∧ ∃ fa, health_Far.f k p0 p1 p2 p3 p4 p5 p6 p7 p8 p9 p10 p11 y4 = some fa ∧ j = decide (fa < off)) := by
  unfold health_Front_Step.j at xj
  by_cases q : hh = 0
  ·rw [if_pos q] at xj; exact .inl ⟨q, (Option.some.inj xj).symm⟩
  ·rw [if_neg q] at xj; obtain ⟨fa, h1, h2⟩ := Option.bind_eq_some_iff.mp xj; exact .inr ⟨q, fa, h1, (Option.some.inj h2).symm⟩
 have hl : ((an = true ∨ ct < s2) ∧ ∃ a1, sat_Add.f k [lf, 1] = some a1 ∧ sat_Bound.f k a1 0 2305843009213693952 = some ln) ∨ (an = false ∧ ¬ ct < s2 ∧ ln = lf) := by
  unfold health_Front_Step.l at xln
  by_cases q : an = true ∨ ct < s2
  ·rw [if_pos q] at xln; obtain ⟨a1, h1, h2⟩ := Option.bind_eq_some_iff.mp xln; exact .inl ⟨q, a1, h1, h2⟩
  ·rw [if_neg q] at xln; exact .inr ⟨by simpa using fun e => q (.inl e), fun e => q (.inr e), (Option.some.inj xln).symm⟩
 exact health_Front_Step.calls k g p0 p1 p2 p3 p4 p5 p6 p7 p8 p9 p10 p11 s0 s1 s2 s3 s4 s5 s6 sA sc sl s8 s9 s10 tk y0 y1 y2 y3 y4 y5 y6 yA yc yl y8 y9 y10 tz ad sb off hh j ct cs m0 m1 m2 m3 m4 m5 m6 ml' m8 m9 m10 lf f2 mo h0 h1 an u0 u1 ln w hrs hcs hry hcy hb xto xad xsb xoff xhf hj xcl xsa xlf xf2 xmo xme xtk hl

end Go.Proofs.YtigkjbaclpklpaaDoor.Q
