/- The calls of these Go functions answer what the Lean functions beside them answer; written by a program (wip/pr2.py, out of the print of the loaded program); under no condition but those that stand in the theorems. -/
import Derived.Test.YtigkjbaclpklpaaQx0
import Derived.Test.YtigkjbaclpklpaaQx5
import Derived.Test.YtigkjbaclpklpaaQx7
import Derived.Test.YtigkjbaclpklpaaQx14
import Derived.Test.YtigkjbaclpklpaaQx16
import Derived.Test.YtigkjbaclpklpaaQx17
namespace Go.Proofs.Ytigkjbaclpklpaa.Q
open Go.RowKit Go.Proofs.YtigkjbaclpklpaaW.PrintWords Go.Proofs.YtigkjbaclpklpaaW.PrintLast Go.Proofs.YtigkjbaclpklpaaW.PrintMore
attribute [local go_sem] max2_int min2_int max_two min_two max_three min_three max_four min_four   -- for this text's walks alone
set_option linter.unusedVariables false
set_option linter.unusedSimpArgs false

/-! the law, by hand -/
attribute [local go_sem] hx.fl
def clepsydralaw21_HealthBoots.f (k : Nat) (p0 p1 p2 p3 p4 p5 p6 p7 p8 p9 p10 p11 : Int) (s0 s1 s2 : Int) (s3 : Bool) (s4 s5 : Int) (s6 : Bool) (sl : List S42) (s8 s9 s10 : Int) : Option Bool := (clepsydralaw21_long.f s0 s1 s2 s3 s4 s5 s6 sl s8 s9 s10 s0 s1 s2 s3 s4 s5 s6 sl s8 s9 s10).bind fun lg => if lg = true then some true else (limit_Check.f k p0 p1 p2 p3 p4 p5 p6 p7 p8 p9 p10 p11).bind fun ck => if ck ≠ 0 then some true else (health_Of.f k p0 p1 p2 p3 p4 p5 p6 p7 p8 p9 p10 p11 s0 s1 s2 s3 s4 s5 false sl s8 s9 s10).bind fun oa => (health_Of.f k p0 p1 p2 p3 p4 p5 p6 p7 p8 p9 p10 p11 s0 s1 s2 s3 s4 (Go.RowKit.wrap64 (p2 + 1)) true sl s8 s9 s10).bind fun ob => (health_Of.f k p0 p1 p2 p3 p4 p5 p6 p7 p8 p9 p10 p11 s0 s1 s2 true p9 p2 true sl s8 s9 s10).bind fun oc => if oa = 0 ∧ ob = 0 ∧ oc = 1 then some true else none
set_option maxHeartbeats 8000000 in
set_option maxRecDepth 100000 in
theorem clepsydralaw21_HealthBoots.calls (k : Nat) (p0 p1 p2 p3 p4 p5 p6 p7 p8 p9 p10 p11 : Int) (s0 s1 s2 : Int) (s3 : Bool) (s4 s5 : Int) (s6 : Bool) (sA : Option Addr) (sc : Nat) (sl : List S42) (s8 s9 s10 : Int) (r : Bool) (w : World) (hrs : Kd.C k42 w sA sl.length sl) (hcs : sl.length ≤ sc) (hT : Aside0 (r = true)) (h : clepsydralaw21_HealthBoots.f k p0 p1 p2 p3 p4 p5 p6 p7 p8 p9 p10 p11 s0 s1 s2 s3 s4 s5 s6 sl s8 s9 s10 = some r) :
  Calls Try.prog 6 #[.agg #[.int .i64 p0, .int .i64 p1, .int .i64 p2, .int .i64 p3, .int .i64 p4, .int .i64 p5, .int .i64 p6, .int .i64 p7, .int .i64 p8, .int .i64 p9, .int .i64 p10, .int .i64 p11], .agg #[.int .i64 s0, .int .i64 s1, .int .i64 s2, .bool s3, .int .i64 s4, .int .i64 s5, .bool s6, .slice sA sl.length sc, .int .i64 s8, .int .i64 s9, .int .i64 s10]] w fun e w' => e = .returned (.bool r) ∧ Below w.heap.size w w' := by
 obtain rfl := hT.out
 clear hT
 unfold clepsydralaw21_HealthBoots.f at h
 obtain ⟨lg, hlg, h⟩ := Option.bind_eq_some_iff.mp h
 have HRs := Aside0.mk hrs
 have HCs := Aside0.mk hcs
 have HLG := Aside0.mk hlg
 clear hrs hcs hlg
 have HB := Aside0.mk (Below.refl w.heap.size w)
 go_enter Try.func6, Try.ntmps6
 go_upto_region 1 with (first | ((with_reducible refine gate_dst (N := 2) rfl ?_); refine box_event ?hg (N := 2) ?hd (cs := #[.int .i64 p0, .int .i64 p1, .int .i64 p2, .int .i64 p3, .int .i64 p4, .int .i64 p5, .int .i64 p6, .int .i64 p7, .int .i64 p8, .int .i64 p9, .int .i64 p10, .int .i64 p11]) (t := 23) ?hr ?_; (case hd => rfl); (case hg => rfl); (case hr => first | (go_simp; done) | (go_simp; rfl)); intro gp hg w1_ hbox hb; have E_gp : Aside0 (w.heap.size ≤ gp) := ⟨by rw [hg]; exact below_size HB.out⟩; have n0_ := Aside0.mk (below_step HB.out hb); clear HB; have HB := n0_; clear n0_; have B_gp := Aside0.mk hbox; clear hb hbox hg) | ((with_reducible refine gate_dst (N := 3) rfl ?_); refine box_event ?hg (N := 3) ?hd (cs := #[.int .i64 s0, .int .i64 s1, .int .i64 s2, .bool s3, .int .i64 s4, .int .i64 s5, .bool s6, .slice sA sl.length sc, .int .i64 s8, .int .i64 s9, .int .i64 s10]) (t := 30) ?hr ?_; (case hd => rfl); (case hg => rfl); (case hr => first | (go_simp; done) | (go_simp; rfl)); intro gs hg w2_ hbox hb; have N_gp_gs := nl hg B_gp.out; have N_gs_gp := ng hg B_gp.out; have E_gs : Aside0 (w.heap.size ≤ gs) := ⟨by rw [hg]; exact below_size HB.out⟩; have n0_ := Aside0.mk (blk_below B_gp.out hb); have n1_ := Aside0.mk (below_step HB.out hb); clear B_gp HB; have B_gp := n0_; have HB := n1_; clear n0_ n1_; have B_gs := Aside0.mk hbox; clear hb hbox hg))
 go_upto_region 3 with ((go_at_call 8; (with_reducible refine (clepsydralaw21_alive.calls true _ rfl).mono ?_); rintro e w3_ ⟨rfl, hb⟩; have n0_ := Aside0.mk (blk_below B_gp.out hb); have n1_ := Aside0.mk (blk_below B_gs.out hb); have n2_ := Aside0.mk (below_step HB.out hb); clear B_gp B_gs HB; have B_gp := n0_; have B_gs := n1_; have HB := n2_; clear n0_ n1_ n2_; clear hb))
 cases lg
 case true =>
  have hc_gs_0 : w3_.cell? ⟨gs, 0, none⟩ = some (.int .i64 s0) := (blk_cell B_gs.out 0).trans rfl
  have hc_gs_1 : w3_.cell? ⟨gs, 1, none⟩ = some (.int .i64 s1) := (blk_cell B_gs.out 1).trans rfl
  have hc_gs_2 : w3_.cell? ⟨gs, 2, none⟩ = some (.int .i64 s2) := (blk_cell B_gs.out 2).trans rfl
  have hc_gs_3 : w3_.cell? ⟨gs, 3, none⟩ = some (.bool s3) := (blk_cell B_gs.out 3).trans rfl
  have hc_gs_4 : w3_.cell? ⟨gs, 4, none⟩ = some (.int .i64 s4) := (blk_cell B_gs.out 4).trans rfl
  have hc_gs_5 : w3_.cell? ⟨gs, 5, none⟩ = some (.int .i64 s5) := (blk_cell B_gs.out 5).trans rfl
  have hc_gs_6 : w3_.cell? ⟨gs, 6, none⟩ = some (.bool s6) := (blk_cell B_gs.out 6).trans rfl
  have hc_gs_7 : w3_.cell? ⟨gs, 7, none⟩ = some (.slice sA sl.length sc) := (blk_cell B_gs.out 7).trans rfl
  have hc_gs_8 : w3_.cell? ⟨gs, 8, none⟩ = some (.int .i64 s8) := (blk_cell B_gs.out 8).trans rfl
  have hc_gs_9 : w3_.cell? ⟨gs, 9, none⟩ = some (.int .i64 s9) := (blk_cell B_gs.out 9).trans rfl
  have hc_gs_10 : w3_.cell? ⟨gs, 10, none⟩ = some (.int .i64 s10) := (blk_cell B_gs.out 10).trans rfl
  go_wp2_with ((go_at_call 9; (with_reducible refine (clepsydralaw21_long.calls s0 s1 s2 s3 s4 s5 s6 sA sc sl s8 s9 s10 s0 s1 s2 s3 s4 s5 s6 sA sc sl s8 s9 s10 true _ (Kd.C_below HRs.out HB.out) HCs.out (Kd.C_below HRs.out HB.out) HCs.out HLG.out).mono ?_); rintro e w4_ ⟨rfl, hb⟩; have n0_ := Aside0.mk (blk_below B_gp.out hb); have n1_ := Aside0.mk (blk_below B_gs.out hb); have n2_ := Aside0.mk (below_step HB.out hb); clear B_gp B_gs HB; have B_gp := n0_; have B_gs := n1_; have HB := n2_; clear n0_ n1_ n2_; clear hb))
  clear hc_gs_0 hc_gs_1 hc_gs_2 hc_gs_3 hc_gs_4 hc_gs_5 hc_gs_6 hc_gs_7 hc_gs_8 hc_gs_9 hc_gs_10
  go_ret
  exact ⟨rfl, HB.out⟩
 case false =>
  rw [if_neg (by decide)] at h
  obtain ⟨ck, hck, h⟩ := Option.bind_eq_some_iff.mp h
  have HCK := Aside0.mk hck
  clear hck
  by_cases hz : ck ≠ 0
  ·have hz0 : decide (ck = 0) = false := decide_eq_false hz
   have hc_gs_0 : w3_.cell? ⟨gs, 0, none⟩ = some (.int .i64 s0) := (blk_cell B_gs.out 0).trans rfl
   have hc_gs_1 : w3_.cell? ⟨gs, 1, none⟩ = some (.int .i64 s1) := (blk_cell B_gs.out 1).trans rfl
   have hc_gs_2 : w3_.cell? ⟨gs, 2, none⟩ = some (.int .i64 s2) := (blk_cell B_gs.out 2).trans rfl
   have hc_gs_3 : w3_.cell? ⟨gs, 3, none⟩ = some (.bool s3) := (blk_cell B_gs.out 3).trans rfl
   have hc_gs_4 : w3_.cell? ⟨gs, 4, none⟩ = some (.int .i64 s4) := (blk_cell B_gs.out 4).trans rfl
   have hc_gs_5 : w3_.cell? ⟨gs, 5, none⟩ = some (.int .i64 s5) := (blk_cell B_gs.out 5).trans rfl
   have hc_gs_6 : w3_.cell? ⟨gs, 6, none⟩ = some (.bool s6) := (blk_cell B_gs.out 6).trans rfl
   have hc_gs_7 : w3_.cell? ⟨gs, 7, none⟩ = some (.slice sA sl.length sc) := (blk_cell B_gs.out 7).trans rfl
   have hc_gs_8 : w3_.cell? ⟨gs, 8, none⟩ = some (.int .i64 s8) := (blk_cell B_gs.out 8).trans rfl
   have hc_gs_9 : w3_.cell? ⟨gs, 9, none⟩ = some (.int .i64 s9) := (blk_cell B_gs.out 9).trans rfl
   have hc_gs_10 : w3_.cell? ⟨gs, 10, none⟩ = some (.int .i64 s10) := (blk_cell B_gs.out 10).trans rfl
   go_wp2_with (first | (go_at_call 9; (with_reducible refine (clepsydralaw21_long.calls s0 s1 s2 s3 s4 s5 s6 sA sc sl s8 s9 s10 s0 s1 s2 s3 s4 s5 s6 sA sc sl s8 s9 s10 false _ (Kd.C_below HRs.out HB.out) HCs.out (Kd.C_below HRs.out HB.out) HCs.out HLG.out).mono ?_); rintro e w4_ ⟨rfl, hb⟩; have n0_ := Aside0.mk (blk_below B_gp.out hb); have n1_ := Aside0.mk (blk_below B_gs.out hb); have n2_ := Aside0.mk (below_step HB.out hb); clear B_gp B_gs HB; have B_gp := n0_; have B_gs := n1_; have HB := n2_; clear n0_ n1_ n2_; clear hb; have hr1_gp_0 : w4_.cell? ⟨gp, 0, none⟩ = some (.int .i64 p0) := (blk_cell B_gp.out 0).trans rfl; have hr1_gp_1 : w4_.cell? ⟨gp, 1, none⟩ = some (.int .i64 p1) := (blk_cell B_gp.out 1).trans rfl; have hr1_gp_2 : w4_.cell? ⟨gp, 2, none⟩ = some (.int .i64 p2) := (blk_cell B_gp.out 2).trans rfl; have hr1_gp_3 : w4_.cell? ⟨gp, 3, none⟩ = some (.int .i64 p3) := (blk_cell B_gp.out 3).trans rfl; have hr1_gp_4 : w4_.cell? ⟨gp, 4, none⟩ = some (.int .i64 p4) := (blk_cell B_gp.out 4).trans rfl; have hr1_gp_5 : w4_.cell? ⟨gp, 5, none⟩ = some (.int .i64 p5) := (blk_cell B_gp.out 5).trans rfl; have hr1_gp_6 : w4_.cell? ⟨gp, 6, none⟩ = some (.int .i64 p6) := (blk_cell B_gp.out 6).trans rfl; have hr1_gp_7 : w4_.cell? ⟨gp, 7, none⟩ = some (.int .i64 p7) := (blk_cell B_gp.out 7).trans rfl; have hr1_gp_8 : w4_.cell? ⟨gp, 8, none⟩ = some (.int .i64 p8) := (blk_cell B_gp.out 8).trans rfl; have hr1_gp_9 : w4_.cell? ⟨gp, 9, none⟩ = some (.int .i64 p9) := (blk_cell B_gp.out 9).trans rfl; have hr1_gp_10 : w4_.cell? ⟨gp, 10, none⟩ = some (.int .i64 p10) := (blk_cell B_gp.out 10).trans rfl; have hr1_gp_11 : w4_.cell? ⟨gp, 11, none⟩ = some (.int .i64 p11) := (blk_cell B_gp.out 11).trans rfl) | (go_at_call 19; (with_reducible refine (limit_Check.calls k p0 p1 p2 p3 p4 p5 p6 p7 p8 p9 p10 p11 ck _ HCK.out).mono ?_); rintro e w5_ ⟨rfl, hb⟩; have n0_ := Aside0.mk (blk_below B_gp.out hb); have n1_ := Aside0.mk (blk_below B_gs.out hb); have n2_ := Aside0.mk (below_step HB.out hb); clear B_gp B_gs HB; have B_gp := n0_; have B_gs := n1_; have HB := n2_; clear n0_ n1_ n2_; clear hb))
   clear hc_gs_0 hc_gs_1 hc_gs_2 hc_gs_3 hc_gs_4 hc_gs_5 hc_gs_6 hc_gs_7 hc_gs_8 hc_gs_9 hc_gs_10 hr1_gp_0 hr1_gp_1 hr1_gp_2 hr1_gp_3 hr1_gp_4 hr1_gp_5 hr1_gp_6 hr1_gp_7 hr1_gp_8 hr1_gp_9 hr1_gp_10 hr1_gp_11
   go_ret
   exact ⟨rfl, HB.out⟩
  ·rw [if_neg hz] at h
   obtain rfl : ck = 0 := by omega
   clear hz
   obtain ⟨oa, hoa, h⟩ := Option.bind_eq_some_iff.mp h
   obtain ⟨ob, hob, h⟩ := Option.bind_eq_some_iff.mp h
   obtain ⟨oc, hoc, h⟩ := Option.bind_eq_some_iff.mp h
   split at h
   case isFalse => cases h
   next hz =>
    obtain ⟨rfl, rfl, rfl⟩ := hz
    clear h
    have HOA := Aside0.mk hoa
    have HOB := Aside0.mk hob
    have HOC := Aside0.mk hoc
    clear hoa hob hoc
    have hc_gs_0 : w3_.cell? ⟨gs, 0, none⟩ = some (.int .i64 s0) := (blk_cell B_gs.out 0).trans rfl
    have hc_gs_1 : w3_.cell? ⟨gs, 1, none⟩ = some (.int .i64 s1) := (blk_cell B_gs.out 1).trans rfl
    have hc_gs_2 : w3_.cell? ⟨gs, 2, none⟩ = some (.int .i64 s2) := (blk_cell B_gs.out 2).trans rfl
    have hc_gs_3 : w3_.cell? ⟨gs, 3, none⟩ = some (.bool s3) := (blk_cell B_gs.out 3).trans rfl
    have hc_gs_4 : w3_.cell? ⟨gs, 4, none⟩ = some (.int .i64 s4) := (blk_cell B_gs.out 4).trans rfl
    have hc_gs_5 : w3_.cell? ⟨gs, 5, none⟩ = some (.int .i64 s5) := (blk_cell B_gs.out 5).trans rfl
    have hc_gs_6 : w3_.cell? ⟨gs, 6, none⟩ = some (.bool s6) := (blk_cell B_gs.out 6).trans rfl
    have hc_gs_7 : w3_.cell? ⟨gs, 7, none⟩ = some (.slice sA sl.length sc) := (blk_cell B_gs.out 7).trans rfl
    have hc_gs_8 : w3_.cell? ⟨gs, 8, none⟩ = some (.int .i64 s8) := (blk_cell B_gs.out 8).trans rfl
    have hc_gs_9 : w3_.cell? ⟨gs, 9, none⟩ = some (.int .i64 s9) := (blk_cell B_gs.out 9).trans rfl
    have hc_gs_10 : w3_.cell? ⟨gs, 10, none⟩ = some (.int .i64 s10) := (blk_cell B_gs.out 10).trans rfl
    go_upto_region 5 with (first | (go_at_call 9; (with_reducible refine (clepsydralaw21_long.calls s0 s1 s2 s3 s4 s5 s6 sA sc sl s8 s9 s10 s0 s1 s2 s3 s4 s5 s6 sA sc sl s8 s9 s10 false _ (Kd.C_below HRs.out HB.out) HCs.out (Kd.C_below HRs.out HB.out) HCs.out HLG.out).mono ?_); rintro e w4_ ⟨rfl, hb⟩; have n0_ := Aside0.mk (blk_below B_gp.out hb); have n1_ := Aside0.mk (blk_below B_gs.out hb); have n2_ := Aside0.mk (below_step HB.out hb); clear B_gp B_gs HB; have B_gp := n0_; have B_gs := n1_; have HB := n2_; clear n0_ n1_ n2_; clear hb; have hr2_gp_0 : w4_.cell? ⟨gp, 0, none⟩ = some (.int .i64 p0) := (blk_cell B_gp.out 0).trans rfl; have hr2_gp_1 : w4_.cell? ⟨gp, 1, none⟩ = some (.int .i64 p1) := (blk_cell B_gp.out 1).trans rfl; have hr2_gp_2 : w4_.cell? ⟨gp, 2, none⟩ = some (.int .i64 p2) := (blk_cell B_gp.out 2).trans rfl; have hr2_gp_3 : w4_.cell? ⟨gp, 3, none⟩ = some (.int .i64 p3) := (blk_cell B_gp.out 3).trans rfl; have hr2_gp_4 : w4_.cell? ⟨gp, 4, none⟩ = some (.int .i64 p4) := (blk_cell B_gp.out 4).trans rfl; have hr2_gp_5 : w4_.cell? ⟨gp, 5, none⟩ = some (.int .i64 p5) := (blk_cell B_gp.out 5).trans rfl; have hr2_gp_6 : w4_.cell? ⟨gp, 6, none⟩ = some (.int .i64 p6) := (blk_cell B_gp.out 6).trans rfl; have hr2_gp_7 : w4_.cell? ⟨gp, 7, none⟩ = some (.int .i64 p7) := (blk_cell B_gp.out 7).trans rfl; have hr2_gp_8 : w4_.cell? ⟨gp, 8, none⟩ = some (.int .i64 p8) := (blk_cell B_gp.out 8).trans rfl; have hr2_gp_9 : w4_.cell? ⟨gp, 9, none⟩ = some (.int .i64 p9) := (blk_cell B_gp.out 9).trans rfl; have hr2_gp_10 : w4_.cell? ⟨gp, 10, none⟩ = some (.int .i64 p10) := (blk_cell B_gp.out 10).trans rfl; have hr2_gp_11 : w4_.cell? ⟨gp, 11, none⟩ = some (.int .i64 p11) := (blk_cell B_gp.out 11).trans rfl) | (go_at_call 19; (with_reducible refine (limit_Check.calls k p0 p1 p2 p3 p4 p5 p6 p7 p8 p9 p10 p11 0 _ HCK.out).mono ?_); rintro e w5_ ⟨rfl, hb⟩; have n0_ := Aside0.mk (blk_below B_gp.out hb); have n1_ := Aside0.mk (blk_below B_gs.out hb); have n2_ := Aside0.mk (below_step HB.out hb); clear B_gp B_gs HB; have B_gp := n0_; have B_gs := n1_; have HB := n2_; clear n0_ n1_ n2_; clear hb))
    clear hc_gs_0 hc_gs_1 hc_gs_2 hc_gs_3 hc_gs_4 hc_gs_5 hc_gs_6 hc_gs_7 hc_gs_8 hc_gs_9 hc_gs_10 hr2_gp_0 hr2_gp_1 hr2_gp_2 hr2_gp_3 hr2_gp_4 hr2_gp_5 hr2_gp_6 hr2_gp_7 hr2_gp_8 hr2_gp_9 hr2_gp_10 hr2_gp_11
    have hcf_gs_6 := blk_frozen B_gs.out 6
    have hc_gs_6 : w5_.cell? ⟨gs, 6, none⟩ = some (.bool s6) := (blk_cell B_gs.out 6).trans rfl
    go_upto_region 6 with (fail)
    clear hcf_gs_6 hc_gs_6
    have n0_ : Aside0 ((w5_.setCell ⟨gs, 6, none⟩ (.bool false)).heap[gp]? = some (.cells #[.int .i64 p0, .int .i64 p1, .int .i64 p2, .int .i64 p3, .int .i64 p4, .int .i64 p5, .int .i64 p6, .int .i64 p7, .int .i64 p8, .int .i64 p9, .int .i64 p10, .int .i64 p11] 23 (0, 0))) := ⟨blk_far (B_gp.out) N_gp_gs.out _⟩
    have n1_ : Aside0 ((w5_.setCell ⟨gs, 6, none⟩ (.bool false)).heap[gs]? = some (.cells #[.int .i64 s0, .int .i64 s1, .int .i64 s2, .bool s3, .int .i64 s4, .int .i64 s5, .bool false, .slice sA sl.length sc, .int .i64 s8, .int .i64 s9, .int .i64 s10] 30 (0, 0))) := ⟨by have h_ := blk_set (B_gs.out) 6 (.bool false); simp only [List.setIfInBounds_toArray, List.set_cons_zero, List.set_cons_succ] at h_; exact h_⟩
    have n2_ : Aside0 (Below w.heap.size w (w5_.setCell ⟨gs, 6, none⟩ (.bool false))) := ⟨below_set (HB.out) E_gs.out⟩
    clear B_gp B_gs HB
    have B_gp := n0_
    have B_gs := n1_
    have HB := n2_
    clear n0_ n1_ n2_
    generalize (w5_.setCell ⟨gs, 6, none⟩ (.bool false)) = w6_ at B_gp B_gs HB ⊢
    have hc_gp_0 : w6_.cell? ⟨gp, 0, none⟩ = some (.int .i64 p0) := (blk_cell B_gp.out 0).trans rfl
    have hc_gp_1 : w6_.cell? ⟨gp, 1, none⟩ = some (.int .i64 p1) := (blk_cell B_gp.out 1).trans rfl
    have hc_gp_2 : w6_.cell? ⟨gp, 2, none⟩ = some (.int .i64 p2) := (blk_cell B_gp.out 2).trans rfl
    have hc_gp_3 : w6_.cell? ⟨gp, 3, none⟩ = some (.int .i64 p3) := (blk_cell B_gp.out 3).trans rfl
    have hc_gp_4 : w6_.cell? ⟨gp, 4, none⟩ = some (.int .i64 p4) := (blk_cell B_gp.out 4).trans rfl
    have hc_gp_5 : w6_.cell? ⟨gp, 5, none⟩ = some (.int .i64 p5) := (blk_cell B_gp.out 5).trans rfl
    have hc_gp_6 : w6_.cell? ⟨gp, 6, none⟩ = some (.int .i64 p6) := (blk_cell B_gp.out 6).trans rfl
    have hc_gp_7 : w6_.cell? ⟨gp, 7, none⟩ = some (.int .i64 p7) := (blk_cell B_gp.out 7).trans rfl
    have hc_gp_8 : w6_.cell? ⟨gp, 8, none⟩ = some (.int .i64 p8) := (blk_cell B_gp.out 8).trans rfl
    have hc_gp_9 : w6_.cell? ⟨gp, 9, none⟩ = some (.int .i64 p9) := (blk_cell B_gp.out 9).trans rfl
    have hc_gp_10 : w6_.cell? ⟨gp, 10, none⟩ = some (.int .i64 p10) := (blk_cell B_gp.out 10).trans rfl
    have hc_gp_11 : w6_.cell? ⟨gp, 11, none⟩ = some (.int .i64 p11) := (blk_cell B_gp.out 11).trans rfl
    have hc_gs_0 : w6_.cell? ⟨gs, 0, none⟩ = some (.int .i64 s0) := (blk_cell B_gs.out 0).trans rfl
    have hc_gs_1 : w6_.cell? ⟨gs, 1, none⟩ = some (.int .i64 s1) := (blk_cell B_gs.out 1).trans rfl
    have hc_gs_2 : w6_.cell? ⟨gs, 2, none⟩ = some (.int .i64 s2) := (blk_cell B_gs.out 2).trans rfl
    have hc_gs_3 : w6_.cell? ⟨gs, 3, none⟩ = some (.bool s3) := (blk_cell B_gs.out 3).trans rfl
    have hc_gs_4 : w6_.cell? ⟨gs, 4, none⟩ = some (.int .i64 s4) := (blk_cell B_gs.out 4).trans rfl
    have hc_gs_5 : w6_.cell? ⟨gs, 5, none⟩ = some (.int .i64 s5) := (blk_cell B_gs.out 5).trans rfl
    have hc_gs_6 : w6_.cell? ⟨gs, 6, none⟩ = some (.bool false) := (blk_cell B_gs.out 6).trans rfl
    have hc_gs_7 : w6_.cell? ⟨gs, 7, none⟩ = some (.slice sA sl.length sc) := (blk_cell B_gs.out 7).trans rfl
    have hc_gs_8 : w6_.cell? ⟨gs, 8, none⟩ = some (.int .i64 s8) := (blk_cell B_gs.out 8).trans rfl
    have hc_gs_9 : w6_.cell? ⟨gs, 9, none⟩ = some (.int .i64 s9) := (blk_cell B_gs.out 9).trans rfl
    have hc_gs_10 : w6_.cell? ⟨gs, 10, none⟩ = some (.int .i64 s10) := (blk_cell B_gs.out 10).trans rfl
    go_upto_region 7 with (((with_reducible refine gate_dst (N := 28) rfl ?_); refine box_event ?hg (N := 28) ?hd (cs := #[.int .i64 p0, .int .i64 p1, .int .i64 p2, .int .i64 p3, .int .i64 p4, .int .i64 p5, .int .i64 p6, .int .i64 p7, .int .i64 p8, .int .i64 p9, .int .i64 p10, .int .i64 p11, .int .i64 s0, .int .i64 s1, .int .i64 s2, .bool s3, .int .i64 s4, .int .i64 s5, .bool false, .slice sA sl.length sc, .int .i64 s8, .int .i64 s9, .int .i64 s10]) (t := 39) ?hr ?_; (case hd => rfl); (case hg => rfl); (case hr => first | (go_simp; done) | (go_simp; rfl)); intro ga hg w7_ hbox hb; have N_gp_ga := nl hg B_gp.out; have N_gs_ga := nl hg B_gs.out; have N_ga_gp := ng hg B_gp.out; have N_ga_gs := ng hg B_gs.out; have E_ga : Aside0 (w.heap.size ≤ ga) := ⟨by rw [hg]; exact below_size HB.out⟩; have n0_ := Aside0.mk (blk_below B_gp.out hb); have n1_ := Aside0.mk (blk_below B_gs.out hb); have n2_ := Aside0.mk (below_step HB.out hb); clear B_gp B_gs HB; have B_gp := n0_; have B_gs := n1_; have HB := n2_; clear n0_ n1_ n2_; have B_ga := Aside0.mk hbox; clear hb hbox hg))
    clear hc_gp_0 hc_gp_1 hc_gp_2 hc_gp_3 hc_gp_4 hc_gp_5 hc_gp_6 hc_gp_7 hc_gp_8 hc_gp_9 hc_gp_10 hc_gp_11 hc_gs_0 hc_gs_1 hc_gs_2 hc_gs_3 hc_gs_4 hc_gs_5 hc_gs_6 hc_gs_7 hc_gs_8 hc_gs_9 hc_gs_10
    have n0_ := Aside0.mk (blk_drew B_gp.out)
    have n1_ := Aside0.mk (blk_drew B_gs.out)
    have n2_ := Aside0.mk (blk_drew B_ga.out)
    have n3_ := Aside0.mk (below_drew1 HB.out)
    clear B_gp B_gs B_ga HB
    have B_gp := n0_
    have B_gs := n1_
    have B_ga := n2_
    have HB := n3_
    clear n0_ n1_ n2_ n3_
    refine start_ (n := 7) (S := fun w' => w'.heap[gp]? = some (.cells #[.int .i64 p0, .int .i64 p1, .int .i64 p2, .int .i64 p3, .int .i64 p4, .int .i64 p5, .int .i64 p6, .int .i64 p7, .int .i64 p8, .int .i64 p9, .int .i64 p10, .int .i64 p11] 23 (0, 0))) (ds := []) (bs 7 0) (by kernel_rfl) rfl (by rfl) B_gp.out (fun hHeld => ?_)
    generalize w7_.drew = w8_ at B_gp B_gs B_ga HB hHeld ⊢
    refine pure_ (i := 0) (N := some 29) (v := ?_) (a' := ?_) (bs 7 1) rfl rfl (by kernel_rfl) (fun _ _ _ h => h) (Or.inl ⟨by rfl, ?_⟩) ?_ ?_
    rotate_left
    ·intro w'
     go_simp
     with_reducible rfl
    rotate_left
    ·simp only [Act.put, List.setIfInBounds_toArray, List.set_cons_zero, List.set_cons_succ, i64_w, i32_w]
     rfl
    refine pure_ (i := 3) (N := some 32) (v := ?_) (a' := ?_) (bs 7 9) rfl rfl (by kernel_rfl) (fun _ _ _ h => h) (Or.inl ⟨by rfl, ?_⟩) ?_ ?_
    rotate_left
    ·intro w'
     go_simp
     with_reducible rfl
    rotate_left
    ·simp only [Act.put, List.setIfInBounds_toArray, List.set_cons_zero, List.set_cons_succ, i64_w, i32_w]
     rfl
    refine take_ (i := 1) (N := some 30) (v := ?_) (a' := ?_) (bs 7 11) rfl rfl (by kernel_rfl) (fun _ _ _ h => h) (Or.inl ⟨by rfl, ?_⟩) hHeld ?_ ?_
    rotate_left
    ·rintro w' s_gp
     have c_2 : w'.cell? ⟨gp, 2, none⟩ = some (.int .i64 p2) := (blk_cell s_gp 2).trans rfl
     clear s_gp
     go_simp
     with_reducible rfl
    rotate_left
    ·simp only [Act.put, List.setIfInBounds_toArray, List.set_cons_zero, List.set_cons_succ, i64_w, i32_w]
     rfl
    refine pure_ (i := 2) (N := some 31) (v := ?_) (a' := ?_) (bs 7 15) rfl rfl (by kernel_rfl) (fun _ _ _ h => h) (Or.inl ⟨by rfl, ?_⟩) ?_ ?_
    rotate_left
    ·intro w'
     go_simp
     with_reducible rfl
    rotate_left
    ·simp only [Act.put, List.setIfInBounds_toArray, List.set_cons_zero, List.set_cons_succ, i64_w, i32_w]
     rfl
    refine one_ (i := 4) (N := none) (bs 7 31) rfl rfl (by kernel_rfl) (by decide) (fun K hK => ?_)
    have hs_6 : w8_.cell? ⟨gs, 6, none⟩ = some (.bool false) := (blk_cell B_gs.out 6).trans rfl
    have hf_6 := blk_frozen B_gs.out 6
    refine skip_ (w1 := ?_) (by rfl) rfl ?_ ?_
    rotate_left
    ·go_simp
     rfl
    have n0_ : Aside0 ((w8_.setCell ⟨gs, 6, none⟩ (.bool true)).heap[gp]? = some (.cells #[.int .i64 p0, .int .i64 p1, .int .i64 p2, .int .i64 p3, .int .i64 p4, .int .i64 p5, .int .i64 p6, .int .i64 p7, .int .i64 p8, .int .i64 p9, .int .i64 p10, .int .i64 p11] 23 (0, 0))) := ⟨blk_far (B_gp.out) N_gp_gs.out _⟩
    have n1_ : Aside0 ((w8_.setCell ⟨gs, 6, none⟩ (.bool true)).heap[gs]? = some (.cells #[.int .i64 s0, .int .i64 s1, .int .i64 s2, .bool s3, .int .i64 s4, .int .i64 s5, .bool true, .slice sA sl.length sc, .int .i64 s8, .int .i64 s9, .int .i64 s10] 30 (0, 0))) := ⟨by have h_ := blk_set (B_gs.out) 6 (.bool true); simp only [List.setIfInBounds_toArray, List.set_cons_zero, List.set_cons_succ] at h_; exact h_⟩
    have n2_ : Aside0 ((w8_.setCell ⟨gs, 6, none⟩ (.bool true)).heap[ga]? = some (.cells #[.int .i64 p0, .int .i64 p1, .int .i64 p2, .int .i64 p3, .int .i64 p4, .int .i64 p5, .int .i64 p6, .int .i64 p7, .int .i64 p8, .int .i64 p9, .int .i64 p10, .int .i64 p11, .int .i64 s0, .int .i64 s1, .int .i64 s2, .bool s3, .int .i64 s4, .int .i64 s5, .bool false, .slice sA sl.length sc, .int .i64 s8, .int .i64 s9, .int .i64 s10] 39 (0, 0))) := ⟨blk_far (B_ga.out) N_ga_gs.out _⟩
    have n3_ : Aside0 (Below w.heap.size w (w8_.setCell ⟨gs, 6, none⟩ (.bool true))) := ⟨below_set (HB.out) E_gs.out⟩
    clear B_gp B_gs B_ga HB
    have B_gp := n0_
    have B_gs := n1_
    have B_ga := n2_
    have HB := n3_
    clear n0_ n1_ n2_ n3_
    refine hK.out _ _ B_gp.out (fun hHeld => ?_)
    clear hK K hs_6 hf_6
    generalize (w8_.setCell ⟨gs, 6, none⟩ (.bool true)) = w9_ at B_gp B_gs B_ga HB hHeld ⊢
    refine pure_ (i := 5) (N := some 33) (v := ?_) (a' := ?_) (bs 7 63) rfl rfl (by kernel_rfl) (fun _ _ _ h => h) (Or.inl ⟨by rfl, ?_⟩) ?_ ?_
    rotate_left
    ·intro w'
     go_simp
     with_reducible rfl
    rotate_left
    ·simp only [Act.put, List.setIfInBounds_toArray, List.set_cons_zero, List.set_cons_succ, i64_w, i32_w]
     rfl
    refine one_ (i := 6) (N := none) (bs 7 127) rfl rfl (by kernel_rfl) (by decide) (fun K hK => ?_)
    have hs_5 : w9_.cell? ⟨gs, 5, none⟩ = some (.int .i64 s5) := (blk_cell B_gs.out 5).trans rfl
    have hf_5 := blk_frozen B_gs.out 5
    refine skip_ (w1 := ?_) (by rfl) rfl ?_ ?_
    rotate_left
    ·go_simp
     rfl
    have n0_ : Aside0 ((w9_.setCell ⟨gs, 5, none⟩ (.int .i64 (Go.RowKit.wrap64 (p2 + 1)))).heap[gp]? = some (.cells #[.int .i64 p0, .int .i64 p1, .int .i64 p2, .int .i64 p3, .int .i64 p4, .int .i64 p5, .int .i64 p6, .int .i64 p7, .int .i64 p8, .int .i64 p9, .int .i64 p10, .int .i64 p11] 23 (0, 0))) := ⟨blk_far (B_gp.out) N_gp_gs.out _⟩
    have n1_ : Aside0 ((w9_.setCell ⟨gs, 5, none⟩ (.int .i64 (Go.RowKit.wrap64 (p2 + 1)))).heap[gs]? = some (.cells #[.int .i64 s0, .int .i64 s1, .int .i64 s2, .bool s3, .int .i64 s4, .int .i64 (Go.RowKit.wrap64 (p2 + 1)), .bool true, .slice sA sl.length sc, .int .i64 s8, .int .i64 s9, .int .i64 s10] 30 (0, 0))) := ⟨by have h_ := blk_set (B_gs.out) 5 (.int .i64 (Go.RowKit.wrap64 (p2 + 1))); simp only [List.setIfInBounds_toArray, List.set_cons_zero, List.set_cons_succ] at h_; exact h_⟩
    have n2_ : Aside0 ((w9_.setCell ⟨gs, 5, none⟩ (.int .i64 (Go.RowKit.wrap64 (p2 + 1)))).heap[ga]? = some (.cells #[.int .i64 p0, .int .i64 p1, .int .i64 p2, .int .i64 p3, .int .i64 p4, .int .i64 p5, .int .i64 p6, .int .i64 p7, .int .i64 p8, .int .i64 p9, .int .i64 p10, .int .i64 p11, .int .i64 s0, .int .i64 s1, .int .i64 s2, .bool s3, .int .i64 s4, .int .i64 s5, .bool false, .slice sA sl.length sc, .int .i64 s8, .int .i64 s9, .int .i64 s10] 39 (0, 0))) := ⟨blk_far (B_ga.out) N_ga_gs.out _⟩
    have n3_ : Aside0 (Below w.heap.size w (w9_.setCell ⟨gs, 5, none⟩ (.int .i64 (Go.RowKit.wrap64 (p2 + 1))))) := ⟨below_set (HB.out) E_gs.out⟩
    clear B_gp B_gs B_ga HB
    have B_gp := n0_
    have B_gs := n1_
    have B_ga := n2_
    have HB := n3_
    clear n0_ n1_ n2_ n3_
    refine hK.out _ _ B_gp.out (fun hHeld => ?_)
    clear hK K hs_5 hf_5
    generalize (w9_.setCell ⟨gs, 5, none⟩ (.int .i64 (Go.RowKit.wrap64 (p2 + 1)))) = w10_ at B_gp B_gs B_ga HB hHeld ⊢
    refine done_ (by kernel_rfl) ?_
    go_upto_region 8 with (fail)
    have hc_gp_0 : w10_.cell? ⟨gp, 0, none⟩ = some (.int .i64 p0) := (blk_cell B_gp.out 0).trans rfl
    have hc_gp_1 : w10_.cell? ⟨gp, 1, none⟩ = some (.int .i64 p1) := (blk_cell B_gp.out 1).trans rfl
    have hc_gp_2 : w10_.cell? ⟨gp, 2, none⟩ = some (.int .i64 p2) := (blk_cell B_gp.out 2).trans rfl
    have hc_gp_3 : w10_.cell? ⟨gp, 3, none⟩ = some (.int .i64 p3) := (blk_cell B_gp.out 3).trans rfl
    have hc_gp_4 : w10_.cell? ⟨gp, 4, none⟩ = some (.int .i64 p4) := (blk_cell B_gp.out 4).trans rfl
    have hc_gp_5 : w10_.cell? ⟨gp, 5, none⟩ = some (.int .i64 p5) := (blk_cell B_gp.out 5).trans rfl
    have hc_gp_6 : w10_.cell? ⟨gp, 6, none⟩ = some (.int .i64 p6) := (blk_cell B_gp.out 6).trans rfl
    have hc_gp_7 : w10_.cell? ⟨gp, 7, none⟩ = some (.int .i64 p7) := (blk_cell B_gp.out 7).trans rfl
    have hc_gp_8 : w10_.cell? ⟨gp, 8, none⟩ = some (.int .i64 p8) := (blk_cell B_gp.out 8).trans rfl
    have hc_gp_9 : w10_.cell? ⟨gp, 9, none⟩ = some (.int .i64 p9) := (blk_cell B_gp.out 9).trans rfl
    have hc_gp_10 : w10_.cell? ⟨gp, 10, none⟩ = some (.int .i64 p10) := (blk_cell B_gp.out 10).trans rfl
    have hc_gp_11 : w10_.cell? ⟨gp, 11, none⟩ = some (.int .i64 p11) := (blk_cell B_gp.out 11).trans rfl
    have hc_gs_0 : w10_.cell? ⟨gs, 0, none⟩ = some (.int .i64 s0) := (blk_cell B_gs.out 0).trans rfl
    have hc_gs_1 : w10_.cell? ⟨gs, 1, none⟩ = some (.int .i64 s1) := (blk_cell B_gs.out 1).trans rfl
    have hc_gs_2 : w10_.cell? ⟨gs, 2, none⟩ = some (.int .i64 s2) := (blk_cell B_gs.out 2).trans rfl
    have hc_gs_3 : w10_.cell? ⟨gs, 3, none⟩ = some (.bool s3) := (blk_cell B_gs.out 3).trans rfl
    have hc_gs_4 : w10_.cell? ⟨gs, 4, none⟩ = some (.int .i64 s4) := (blk_cell B_gs.out 4).trans rfl
    have hc_gs_5 : w10_.cell? ⟨gs, 5, none⟩ = some (.int .i64 (Go.RowKit.wrap64 (p2 + 1))) := (blk_cell B_gs.out 5).trans rfl
    have hc_gs_6 : w10_.cell? ⟨gs, 6, none⟩ = some (.bool true) := (blk_cell B_gs.out 6).trans rfl
    have hc_gs_7 : w10_.cell? ⟨gs, 7, none⟩ = some (.slice sA sl.length sc) := (blk_cell B_gs.out 7).trans rfl
    have hc_gs_8 : w10_.cell? ⟨gs, 8, none⟩ = some (.int .i64 s8) := (blk_cell B_gs.out 8).trans rfl
    have hc_gs_9 : w10_.cell? ⟨gs, 9, none⟩ = some (.int .i64 s9) := (blk_cell B_gs.out 9).trans rfl
    have hc_gs_10 : w10_.cell? ⟨gs, 10, none⟩ = some (.int .i64 s10) := (blk_cell B_gs.out 10).trans rfl
    go_upto_region 9 with (((with_reducible refine gate_dst (N := 37) rfl ?_); refine box_event ?hg (N := 37) ?hd (cs := #[.int .i64 p0, .int .i64 p1, .int .i64 p2, .int .i64 p3, .int .i64 p4, .int .i64 p5, .int .i64 p6, .int .i64 p7, .int .i64 p8, .int .i64 p9, .int .i64 p10, .int .i64 p11, .int .i64 s0, .int .i64 s1, .int .i64 s2, .bool s3, .int .i64 s4, .int .i64 (Go.RowKit.wrap64 (p2 + 1)), .bool true, .slice sA sl.length sc, .int .i64 s8, .int .i64 s9, .int .i64 s10]) (t := 39) ?hr ?_; (case hd => rfl); (case hg => rfl); (case hr => first | (go_simp; done) | (go_simp; rfl)); intro gb hg w11_ hbox hb; have N_gp_gb := nl hg B_gp.out; have N_gs_gb := nl hg B_gs.out; have N_ga_gb := nl hg B_ga.out; have N_gb_gp := ng hg B_gp.out; have N_gb_gs := ng hg B_gs.out; have N_gb_ga := ng hg B_ga.out; have E_gb : Aside0 (w.heap.size ≤ gb) := ⟨by rw [hg]; exact below_size HB.out⟩; have n0_ := Aside0.mk (blk_below B_gp.out hb); have n1_ := Aside0.mk (blk_below B_gs.out hb); have n2_ := Aside0.mk (blk_below B_ga.out hb); have n3_ := Aside0.mk (below_step HB.out hb); clear B_gp B_gs B_ga HB; have B_gp := n0_; have B_gs := n1_; have B_ga := n2_; have HB := n3_; clear n0_ n1_ n2_ n3_; have B_gb := Aside0.mk hbox; clear hb hbox hg))
    clear hc_gp_0 hc_gp_1 hc_gp_2 hc_gp_3 hc_gp_4 hc_gp_5 hc_gp_6 hc_gp_7 hc_gp_8 hc_gp_9 hc_gp_10 hc_gp_11 hc_gs_0 hc_gs_1 hc_gs_2 hc_gs_3 hc_gs_4 hc_gs_5 hc_gs_6 hc_gs_7 hc_gs_8 hc_gs_9 hc_gs_10
    go_upto_region 10 with ((go_at_call 20; (with_reducible refine (health_Front_Now.boot k ga p0 p1 p2 p3 p4 p5 p6 p7 p8 p9 p10 p11 s0 s1 s2 s3 s4 s5 false sA sc sl s8 s9 s10 _ (Kd.C_below HRs.out HB.out) HCs.out B_ga.out HOA.out).mono ?_); rintro e w12_ ⟨rfl, hb⟩; have n0_ := Aside0.mk (blk_below B_gp.out hb); have n1_ := Aside0.mk (blk_below B_gs.out hb); have n2_ := Aside0.mk (blk_below B_ga.out hb); have n3_ := Aside0.mk (blk_below B_gb.out hb); have n4_ := Aside0.mk (below_step HB.out hb); clear B_gp B_gs B_ga B_gb HB; have B_gp := n0_; have B_gs := n1_; have B_ga := n2_; have B_gb := n3_; have HB := n4_; clear n0_ n1_ n2_ n3_ n4_; clear hb))
    go_upto_region 11 with (first | (go_at_call 21; (with_reducible refine (health_Front_Interval.boot k gb p0 p1 p2 p3 p4 p5 p6 p7 p8 p9 p10 p11 s0 s1 s2 s3 s4 (Go.RowKit.wrap64 (p2 + 1)) true sA sc sl s8 s9 s10 _ (Kd.C_below HRs.out HB.out) HCs.out B_gb.out HOB.out).mono ?_); rintro e w13_ ⟨rfl, hb⟩; have n0_ := Aside0.mk (blk_below B_gp.out hb); have n1_ := Aside0.mk (blk_below B_gs.out hb); have n2_ := Aside0.mk (blk_below B_ga.out hb); have n3_ := Aside0.mk (blk_below B_gb.out hb); have n4_ := Aside0.mk (below_step HB.out hb); clear B_gp B_gs B_ga B_gb HB; have B_gp := n0_; have B_gs := n1_; have B_ga := n2_; have B_gb := n3_; have HB := n4_; clear n0_ n1_ n2_ n3_ n4_; clear hb) | ((with_reducible refine gate_dst (N := 9) rfl ?_); refine box_event ?hg (N := 9) ?hd (cs := #[.int .i64 0, .int .i64 0]) (t := 25) ?hr ?_; (case hd => rfl); (case hg => rfl); (case hr => first | (go_simp; done) | (go_simp; rfl)); intro gi hg w14_ hbox hb; have N_gp_gi := nl hg B_gp.out; have N_gs_gi := nl hg B_gs.out; have N_ga_gi := nl hg B_ga.out; have N_gb_gi := nl hg B_gb.out; have N_gi_gp := ng hg B_gp.out; have N_gi_gs := ng hg B_gs.out; have N_gi_ga := ng hg B_ga.out; have N_gi_gb := ng hg B_gb.out; have E_gi : Aside0 (w.heap.size ≤ gi) := ⟨by rw [hg]; exact below_size HB.out⟩; have n0_ := Aside0.mk (blk_below B_gp.out hb); have n1_ := Aside0.mk (blk_below B_gs.out hb); have n2_ := Aside0.mk (blk_below B_ga.out hb); have n3_ := Aside0.mk (blk_below B_gb.out hb); have n4_ := Aside0.mk (below_step HB.out hb); clear B_gp B_gs B_ga B_gb HB; have B_gp := n0_; have B_gs := n1_; have B_ga := n2_; have B_gb := n3_; have HB := n4_; clear n0_ n1_ n2_ n3_ n4_; have B_gi := Aside0.mk hbox; clear hb hbox hg; have hr3f_gi_0 := blk_frozen B_gi.out 0; have hr3_gi_0 : w14_.cell? ⟨gi, 0, none⟩ = some (.int .i64 0) := (blk_cell B_gi.out 0).trans rfl; have hr3f_gi_1 := blk_frozen B_gi.out 1; have hr3_gi_1 : w14_.cell? ⟨gi, 1, none⟩ = some (.int .i64 0) := (blk_cell B_gi.out 1).trans rfl))
    clear hr3f_gi_0 hr3_gi_0 hr3f_gi_1 hr3_gi_1
    have n0_ : Aside0 (((w14_.setCell ⟨gi, 0, none⟩ (.int .i64 0)).setCell ⟨gi, 1, none⟩ (.int .i64 0)).heap[gp]? = some (.cells #[.int .i64 p0, .int .i64 p1, .int .i64 p2, .int .i64 p3, .int .i64 p4, .int .i64 p5, .int .i64 p6, .int .i64 p7, .int .i64 p8, .int .i64 p9, .int .i64 p10, .int .i64 p11] 23 (0, 0))) := ⟨blk_far (blk_far (B_gp.out) N_gp_gi.out _) N_gp_gi.out _⟩
    have n1_ : Aside0 (((w14_.setCell ⟨gi, 0, none⟩ (.int .i64 0)).setCell ⟨gi, 1, none⟩ (.int .i64 0)).heap[gs]? = some (.cells #[.int .i64 s0, .int .i64 s1, .int .i64 s2, .bool s3, .int .i64 s4, .int .i64 (Go.RowKit.wrap64 (p2 + 1)), .bool true, .slice sA sl.length sc, .int .i64 s8, .int .i64 s9, .int .i64 s10] 30 (0, 0))) := ⟨blk_far (blk_far (B_gs.out) N_gs_gi.out _) N_gs_gi.out _⟩
    have n2_ : Aside0 (((w14_.setCell ⟨gi, 0, none⟩ (.int .i64 0)).setCell ⟨gi, 1, none⟩ (.int .i64 0)).heap[ga]? = some (.cells #[.int .i64 p0, .int .i64 p1, .int .i64 p2, .int .i64 p3, .int .i64 p4, .int .i64 p5, .int .i64 p6, .int .i64 p7, .int .i64 p8, .int .i64 p9, .int .i64 p10, .int .i64 p11, .int .i64 s0, .int .i64 s1, .int .i64 s2, .bool s3, .int .i64 s4, .int .i64 s5, .bool false, .slice sA sl.length sc, .int .i64 s8, .int .i64 s9, .int .i64 s10] 39 (0, 0))) := ⟨blk_far (blk_far (B_ga.out) N_ga_gi.out _) N_ga_gi.out _⟩
    have n3_ : Aside0 (((w14_.setCell ⟨gi, 0, none⟩ (.int .i64 0)).setCell ⟨gi, 1, none⟩ (.int .i64 0)).heap[gb]? = some (.cells #[.int .i64 p0, .int .i64 p1, .int .i64 p2, .int .i64 p3, .int .i64 p4, .int .i64 p5, .int .i64 p6, .int .i64 p7, .int .i64 p8, .int .i64 p9, .int .i64 p10, .int .i64 p11, .int .i64 s0, .int .i64 s1, .int .i64 s2, .bool s3, .int .i64 s4, .int .i64 (Go.RowKit.wrap64 (p2 + 1)), .bool true, .slice sA sl.length sc, .int .i64 s8, .int .i64 s9, .int .i64 s10] 39 (0, 0))) := ⟨blk_far (blk_far (B_gb.out) N_gb_gi.out _) N_gb_gi.out _⟩
    have n4_ : Aside0 (((w14_.setCell ⟨gi, 0, none⟩ (.int .i64 0)).setCell ⟨gi, 1, none⟩ (.int .i64 0)).heap[gi]? = some (.cells #[.int .i64 0, .int .i64 0] 25 (0, 0))) := ⟨by have h_ := blk_set (blk_set (B_gi.out) 0 (.int .i64 0)) 1 (.int .i64 0); simp only [List.setIfInBounds_toArray, List.set_cons_zero, List.set_cons_succ] at h_; exact h_⟩
    have n5_ : Aside0 (Below w.heap.size w ((w14_.setCell ⟨gi, 0, none⟩ (.int .i64 0)).setCell ⟨gi, 1, none⟩ (.int .i64 0))) := ⟨below_set (below_set (HB.out) E_gi.out) E_gi.out⟩
    clear B_gp B_gs B_ga B_gb B_gi HB
    have B_gp := n0_
    have B_gs := n1_
    have B_ga := n2_
    have B_gb := n3_
    have B_gi := n4_
    have HB := n5_
    clear n0_ n1_ n2_ n3_ n4_ n5_
    generalize ((w14_.setCell ⟨gi, 0, none⟩ (.int .i64 0)).setCell ⟨gi, 1, none⟩ (.int .i64 0)) = w15_ at B_gp B_gs B_ga B_gb B_gi HB ⊢
    have n0_ := Aside0.mk (blk_drew B_gp.out)
    have n1_ := Aside0.mk (blk_drew B_gs.out)
    have n2_ := Aside0.mk (blk_drew B_ga.out)
    have n3_ := Aside0.mk (blk_drew B_gb.out)
    have n4_ := Aside0.mk (blk_drew B_gi.out)
    have n5_ := Aside0.mk (below_drew1 HB.out)
    clear B_gp B_gs B_ga B_gb B_gi HB
    have B_gp := n0_
    have B_gs := n1_
    have B_ga := n2_
    have B_gb := n3_
    have B_gi := n4_
    have HB := n5_
    clear n0_ n1_ n2_ n3_ n4_ n5_
    refine start_ (n := 10) (S := fun w' => w'.heap[gp]? = some (.cells #[.int .i64 p0, .int .i64 p1, .int .i64 p2, .int .i64 p3, .int .i64 p4, .int .i64 p5, .int .i64 p6, .int .i64 p7, .int .i64 p8, .int .i64 p9, .int .i64 p10, .int .i64 p11] 23 (0, 0))) (ds := []) (bs 10 0) (by kernel_rfl) rfl (by rfl) B_gp.out (fun hHeld => ?_)
    generalize w15_.drew = w16_ at B_gp B_gs B_ga B_gb B_gi HB hHeld ⊢
    refine pure_ (i := 0) (N := some 48) (v := ?_) (a' := ?_) (bs 10 1) rfl rfl (by kernel_rfl) (fun _ _ _ h => h) (Or.inl ⟨by rfl, ?_⟩) ?_ ?_
    rotate_left
    ·intro w'
     go_simp
     with_reducible rfl
    rotate_left
    ·simp only [Act.put, List.setIfInBounds_toArray, List.set_cons_zero, List.set_cons_succ, i64_w, i32_w]
     rfl
    refine pure_ (i := 2) (N := some 50) (v := ?_) (a' := ?_) (bs 10 5) rfl rfl (by kernel_rfl) (fun _ _ _ h => h) (Or.inl ⟨by rfl, ?_⟩) ?_ ?_
    rotate_left
    ·intro w'
     go_simp
     with_reducible rfl
    rotate_left
    ·simp only [Act.put, List.setIfInBounds_toArray, List.set_cons_zero, List.set_cons_succ, i64_w, i32_w]
     rfl
    refine take_ (i := 1) (N := some 49) (v := ?_) (a' := ?_) (bs 10 7) rfl rfl (by kernel_rfl) (fun _ _ _ h => h) (Or.inl ⟨by rfl, ?_⟩) hHeld ?_ ?_
    rotate_left
    ·rintro w' s_gp
     have c_2 : w'.cell? ⟨gp, 2, none⟩ = some (.int .i64 p2) := (blk_cell s_gp 2).trans rfl
     clear s_gp
     go_simp
     with_reducible rfl
    rotate_left
    ·simp only [Act.put, List.setIfInBounds_toArray, List.set_cons_zero, List.set_cons_succ, i64_w, i32_w]
     rfl
    refine pure_ (i := 4) (N := some 52) (v := ?_) (a' := ?_) (bs 10 23) rfl rfl (by kernel_rfl) (fun _ _ _ h => h) (Or.inl ⟨by rfl, ?_⟩) ?_ ?_
    rotate_left
    ·intro w'
     go_simp
     with_reducible rfl
    rotate_left
    ·simp only [Act.put, List.setIfInBounds_toArray, List.set_cons_zero, List.set_cons_succ, i64_w, i32_w]
     rfl
    refine take_ (i := 3) (N := some 51) (v := ?_) (a' := ?_) (bs 10 31) rfl rfl (by kernel_rfl) (fun _ _ _ h => h) (Or.inl ⟨by rfl, ?_⟩) hHeld ?_ ?_
    rotate_left
    ·rintro w' s_gp
     have c_9 : w'.cell? ⟨gp, 9, none⟩ = some (.int .i64 p9) := (blk_cell s_gp 9).trans rfl
     clear s_gp
     go_simp
     with_reducible rfl
    rotate_left
    ·simp only [Act.put, List.setIfInBounds_toArray, List.set_cons_zero, List.set_cons_succ, i64_w, i32_w]
     rfl
    refine one_ (i := 5) (N := none) (bs 10 63) rfl rfl (by kernel_rfl) (by decide) (fun K hK => ?_)
    have hs_5 : w16_.cell? ⟨gs, 5, none⟩ = some (.int .i64 (Go.RowKit.wrap64 (p2 + 1))) := (blk_cell B_gs.out 5).trans rfl
    have hf_5 := blk_frozen B_gs.out 5
    refine skip_ (w1 := ?_) (by rfl) rfl ?_ ?_
    rotate_left
    ·go_simp
     rfl
    have n0_ : Aside0 ((w16_.setCell ⟨gs, 5, none⟩ (.int .i64 p2)).heap[gp]? = some (.cells #[.int .i64 p0, .int .i64 p1, .int .i64 p2, .int .i64 p3, .int .i64 p4, .int .i64 p5, .int .i64 p6, .int .i64 p7, .int .i64 p8, .int .i64 p9, .int .i64 p10, .int .i64 p11] 23 (0, 0))) := ⟨blk_far (B_gp.out) N_gp_gs.out _⟩
    have n1_ : Aside0 ((w16_.setCell ⟨gs, 5, none⟩ (.int .i64 p2)).heap[gs]? = some (.cells #[.int .i64 s0, .int .i64 s1, .int .i64 s2, .bool s3, .int .i64 s4, .int .i64 p2, .bool true, .slice sA sl.length sc, .int .i64 s8, .int .i64 s9, .int .i64 s10] 30 (0, 0))) := ⟨by have h_ := blk_set (B_gs.out) 5 (.int .i64 p2); simp only [List.setIfInBounds_toArray, List.set_cons_zero, List.set_cons_succ] at h_; exact h_⟩
    have n2_ : Aside0 ((w16_.setCell ⟨gs, 5, none⟩ (.int .i64 p2)).heap[ga]? = some (.cells #[.int .i64 p0, .int .i64 p1, .int .i64 p2, .int .i64 p3, .int .i64 p4, .int .i64 p5, .int .i64 p6, .int .i64 p7, .int .i64 p8, .int .i64 p9, .int .i64 p10, .int .i64 p11, .int .i64 s0, .int .i64 s1, .int .i64 s2, .bool s3, .int .i64 s4, .int .i64 s5, .bool false, .slice sA sl.length sc, .int .i64 s8, .int .i64 s9, .int .i64 s10] 39 (0, 0))) := ⟨blk_far (B_ga.out) N_ga_gs.out _⟩
    have n3_ : Aside0 ((w16_.setCell ⟨gs, 5, none⟩ (.int .i64 p2)).heap[gb]? = some (.cells #[.int .i64 p0, .int .i64 p1, .int .i64 p2, .int .i64 p3, .int .i64 p4, .int .i64 p5, .int .i64 p6, .int .i64 p7, .int .i64 p8, .int .i64 p9, .int .i64 p10, .int .i64 p11, .int .i64 s0, .int .i64 s1, .int .i64 s2, .bool s3, .int .i64 s4, .int .i64 (Go.RowKit.wrap64 (p2 + 1)), .bool true, .slice sA sl.length sc, .int .i64 s8, .int .i64 s9, .int .i64 s10] 39 (0, 0))) := ⟨blk_far (B_gb.out) N_gb_gs.out _⟩
    have n4_ : Aside0 ((w16_.setCell ⟨gs, 5, none⟩ (.int .i64 p2)).heap[gi]? = some (.cells #[.int .i64 0, .int .i64 0] 25 (0, 0))) := ⟨blk_far (B_gi.out) N_gi_gs.out _⟩
    have n5_ : Aside0 (Below w.heap.size w (w16_.setCell ⟨gs, 5, none⟩ (.int .i64 p2))) := ⟨below_set (HB.out) E_gs.out⟩
    clear B_gp B_gs B_ga B_gb B_gi HB
    have B_gp := n0_
    have B_gs := n1_
    have B_ga := n2_
    have B_gb := n3_
    have B_gi := n4_
    have HB := n5_
    clear n0_ n1_ n2_ n3_ n4_ n5_
    refine hK.out _ _ B_gp.out (fun hHeld => ?_)
    clear hK K hs_5 hf_5
    generalize (w16_.setCell ⟨gs, 5, none⟩ (.int .i64 p2)) = w17_ at B_gp B_gs B_ga B_gb B_gi HB hHeld ⊢
    refine pure_ (i := 6) (N := some 53) (v := ?_) (a' := ?_) (bs 10 127) rfl rfl (by kernel_rfl) (fun _ _ _ h => h) (Or.inl ⟨by rfl, ?_⟩) ?_ ?_
    rotate_left
    ·intro w'
     go_simp
     with_reducible rfl
    rotate_left
    ·simp only [Act.put, List.setIfInBounds_toArray, List.set_cons_zero, List.set_cons_succ, i64_w, i32_w]
     rfl
    refine one_ (i := 7) (N := none) (bs 10 255) rfl rfl (by kernel_rfl) (by decide) (fun K hK => ?_)
    have hs_3 : w17_.cell? ⟨gs, 3, none⟩ = some (.bool s3) := (blk_cell B_gs.out 3).trans rfl
    have hf_3 := blk_frozen B_gs.out 3
    refine skip_ (w1 := ?_) (by rfl) rfl ?_ ?_
    rotate_left
    ·go_simp
     rfl
    have n0_ : Aside0 ((w17_.setCell ⟨gs, 3, none⟩ (.bool true)).heap[gp]? = some (.cells #[.int .i64 p0, .int .i64 p1, .int .i64 p2, .int .i64 p3, .int .i64 p4, .int .i64 p5, .int .i64 p6, .int .i64 p7, .int .i64 p8, .int .i64 p9, .int .i64 p10, .int .i64 p11] 23 (0, 0))) := ⟨blk_far (B_gp.out) N_gp_gs.out _⟩
    have n1_ : Aside0 ((w17_.setCell ⟨gs, 3, none⟩ (.bool true)).heap[gs]? = some (.cells #[.int .i64 s0, .int .i64 s1, .int .i64 s2, .bool true, .int .i64 s4, .int .i64 p2, .bool true, .slice sA sl.length sc, .int .i64 s8, .int .i64 s9, .int .i64 s10] 30 (0, 0))) := ⟨by have h_ := blk_set (B_gs.out) 3 (.bool true); simp only [List.setIfInBounds_toArray, List.set_cons_zero, List.set_cons_succ] at h_; exact h_⟩
    have n2_ : Aside0 ((w17_.setCell ⟨gs, 3, none⟩ (.bool true)).heap[ga]? = some (.cells #[.int .i64 p0, .int .i64 p1, .int .i64 p2, .int .i64 p3, .int .i64 p4, .int .i64 p5, .int .i64 p6, .int .i64 p7, .int .i64 p8, .int .i64 p9, .int .i64 p10, .int .i64 p11, .int .i64 s0, .int .i64 s1, .int .i64 s2, .bool s3, .int .i64 s4, .int .i64 s5, .bool false, .slice sA sl.length sc, .int .i64 s8, .int .i64 s9, .int .i64 s10] 39 (0, 0))) := ⟨blk_far (B_ga.out) N_ga_gs.out _⟩
    have n3_ : Aside0 ((w17_.setCell ⟨gs, 3, none⟩ (.bool true)).heap[gb]? = some (.cells #[.int .i64 p0, .int .i64 p1, .int .i64 p2, .int .i64 p3, .int .i64 p4, .int .i64 p5, .int .i64 p6, .int .i64 p7, .int .i64 p8, .int .i64 p9, .int .i64 p10, .int .i64 p11, .int .i64 s0, .int .i64 s1, .int .i64 s2, .bool s3, .int .i64 s4, .int .i64 (Go.RowKit.wrap64 (p2 + 1)), .bool true, .slice sA sl.length sc, .int .i64 s8, .int .i64 s9, .int .i64 s10] 39 (0, 0))) := ⟨blk_far (B_gb.out) N_gb_gs.out _⟩
    have n4_ : Aside0 ((w17_.setCell ⟨gs, 3, none⟩ (.bool true)).heap[gi]? = some (.cells #[.int .i64 0, .int .i64 0] 25 (0, 0))) := ⟨blk_far (B_gi.out) N_gi_gs.out _⟩
    have n5_ : Aside0 (Below w.heap.size w (w17_.setCell ⟨gs, 3, none⟩ (.bool true))) := ⟨below_set (HB.out) E_gs.out⟩
    clear B_gp B_gs B_ga B_gb B_gi HB
    have B_gp := n0_
    have B_gs := n1_
    have B_ga := n2_
    have B_gb := n3_
    have B_gi := n4_
    have HB := n5_
    clear n0_ n1_ n2_ n3_ n4_ n5_
    refine hK.out _ _ B_gp.out (fun hHeld => ?_)
    clear hK K hs_3 hf_3
    generalize (w17_.setCell ⟨gs, 3, none⟩ (.bool true)) = w18_ at B_gp B_gs B_ga B_gb B_gi HB hHeld ⊢
    refine pure_ (i := 8) (N := some 54) (v := ?_) (a' := ?_) (bs 10 511) rfl rfl (by kernel_rfl) (fun _ _ _ h => h) (Or.inl ⟨by rfl, ?_⟩) ?_ ?_
    rotate_left
    ·intro w'
     go_simp
     with_reducible rfl
    rotate_left
    ·simp only [Act.put, List.setIfInBounds_toArray, List.set_cons_zero, List.set_cons_succ, i64_w, i32_w]
     rfl
    refine one_ (i := 9) (N := none) (bs 10 1023) rfl rfl (by kernel_rfl) (by decide) (fun K hK => ?_)
    have hs_4 : w18_.cell? ⟨gs, 4, none⟩ = some (.int .i64 s4) := (blk_cell B_gs.out 4).trans rfl
    have hf_4 := blk_frozen B_gs.out 4
    refine skip_ (w1 := ?_) (by rfl) rfl ?_ ?_
    rotate_left
    ·go_simp
     rfl
    have n0_ : Aside0 ((w18_.setCell ⟨gs, 4, none⟩ (.int .i64 p9)).heap[gp]? = some (.cells #[.int .i64 p0, .int .i64 p1, .int .i64 p2, .int .i64 p3, .int .i64 p4, .int .i64 p5, .int .i64 p6, .int .i64 p7, .int .i64 p8, .int .i64 p9, .int .i64 p10, .int .i64 p11] 23 (0, 0))) := ⟨blk_far (B_gp.out) N_gp_gs.out _⟩
    have n1_ : Aside0 ((w18_.setCell ⟨gs, 4, none⟩ (.int .i64 p9)).heap[gs]? = some (.cells #[.int .i64 s0, .int .i64 s1, .int .i64 s2, .bool true, .int .i64 p9, .int .i64 p2, .bool true, .slice sA sl.length sc, .int .i64 s8, .int .i64 s9, .int .i64 s10] 30 (0, 0))) := ⟨by have h_ := blk_set (B_gs.out) 4 (.int .i64 p9); simp only [List.setIfInBounds_toArray, List.set_cons_zero, List.set_cons_succ] at h_; exact h_⟩
    have n2_ : Aside0 ((w18_.setCell ⟨gs, 4, none⟩ (.int .i64 p9)).heap[ga]? = some (.cells #[.int .i64 p0, .int .i64 p1, .int .i64 p2, .int .i64 p3, .int .i64 p4, .int .i64 p5, .int .i64 p6, .int .i64 p7, .int .i64 p8, .int .i64 p9, .int .i64 p10, .int .i64 p11, .int .i64 s0, .int .i64 s1, .int .i64 s2, .bool s3, .int .i64 s4, .int .i64 s5, .bool false, .slice sA sl.length sc, .int .i64 s8, .int .i64 s9, .int .i64 s10] 39 (0, 0))) := ⟨blk_far (B_ga.out) N_ga_gs.out _⟩
    have n3_ : Aside0 ((w18_.setCell ⟨gs, 4, none⟩ (.int .i64 p9)).heap[gb]? = some (.cells #[.int .i64 p0, .int .i64 p1, .int .i64 p2, .int .i64 p3, .int .i64 p4, .int .i64 p5, .int .i64 p6, .int .i64 p7, .int .i64 p8, .int .i64 p9, .int .i64 p10, .int .i64 p11, .int .i64 s0, .int .i64 s1, .int .i64 s2, .bool s3, .int .i64 s4, .int .i64 (Go.RowKit.wrap64 (p2 + 1)), .bool true, .slice sA sl.length sc, .int .i64 s8, .int .i64 s9, .int .i64 s10] 39 (0, 0))) := ⟨blk_far (B_gb.out) N_gb_gs.out _⟩
    have n4_ : Aside0 ((w18_.setCell ⟨gs, 4, none⟩ (.int .i64 p9)).heap[gi]? = some (.cells #[.int .i64 0, .int .i64 0] 25 (0, 0))) := ⟨blk_far (B_gi.out) N_gi_gs.out _⟩
    have n5_ : Aside0 (Below w.heap.size w (w18_.setCell ⟨gs, 4, none⟩ (.int .i64 p9))) := ⟨below_set (HB.out) E_gs.out⟩
    clear B_gp B_gs B_ga B_gb B_gi HB
    have B_gp := n0_
    have B_gs := n1_
    have B_ga := n2_
    have B_gb := n3_
    have B_gi := n4_
    have HB := n5_
    clear n0_ n1_ n2_ n3_ n4_ n5_
    refine hK.out _ _ B_gp.out (fun hHeld => ?_)
    clear hK K hs_4 hf_4
    generalize (w18_.setCell ⟨gs, 4, none⟩ (.int .i64 p9)) = w19_ at B_gp B_gs B_ga B_gb B_gi HB hHeld ⊢
    refine done_ (by kernel_rfl) ?_
    go_upto_region 12 with (fail)
    have hc_gp_0 : w19_.cell? ⟨gp, 0, none⟩ = some (.int .i64 p0) := (blk_cell B_gp.out 0).trans rfl
    have hc_gp_1 : w19_.cell? ⟨gp, 1, none⟩ = some (.int .i64 p1) := (blk_cell B_gp.out 1).trans rfl
    have hc_gp_2 : w19_.cell? ⟨gp, 2, none⟩ = some (.int .i64 p2) := (blk_cell B_gp.out 2).trans rfl
    have hc_gp_3 : w19_.cell? ⟨gp, 3, none⟩ = some (.int .i64 p3) := (blk_cell B_gp.out 3).trans rfl
    have hc_gp_4 : w19_.cell? ⟨gp, 4, none⟩ = some (.int .i64 p4) := (blk_cell B_gp.out 4).trans rfl
    have hc_gp_5 : w19_.cell? ⟨gp, 5, none⟩ = some (.int .i64 p5) := (blk_cell B_gp.out 5).trans rfl
    have hc_gp_6 : w19_.cell? ⟨gp, 6, none⟩ = some (.int .i64 p6) := (blk_cell B_gp.out 6).trans rfl
    have hc_gp_7 : w19_.cell? ⟨gp, 7, none⟩ = some (.int .i64 p7) := (blk_cell B_gp.out 7).trans rfl
    have hc_gp_8 : w19_.cell? ⟨gp, 8, none⟩ = some (.int .i64 p8) := (blk_cell B_gp.out 8).trans rfl
    have hc_gp_9 : w19_.cell? ⟨gp, 9, none⟩ = some (.int .i64 p9) := (blk_cell B_gp.out 9).trans rfl
    have hc_gp_10 : w19_.cell? ⟨gp, 10, none⟩ = some (.int .i64 p10) := (blk_cell B_gp.out 10).trans rfl
    have hc_gp_11 : w19_.cell? ⟨gp, 11, none⟩ = some (.int .i64 p11) := (blk_cell B_gp.out 11).trans rfl
    have hc_gs_0 : w19_.cell? ⟨gs, 0, none⟩ = some (.int .i64 s0) := (blk_cell B_gs.out 0).trans rfl
    have hc_gs_1 : w19_.cell? ⟨gs, 1, none⟩ = some (.int .i64 s1) := (blk_cell B_gs.out 1).trans rfl
    have hc_gs_2 : w19_.cell? ⟨gs, 2, none⟩ = some (.int .i64 s2) := (blk_cell B_gs.out 2).trans rfl
    have hc_gs_3 : w19_.cell? ⟨gs, 3, none⟩ = some (.bool true) := (blk_cell B_gs.out 3).trans rfl
    have hc_gs_4 : w19_.cell? ⟨gs, 4, none⟩ = some (.int .i64 p9) := (blk_cell B_gs.out 4).trans rfl
    have hc_gs_5 : w19_.cell? ⟨gs, 5, none⟩ = some (.int .i64 p2) := (blk_cell B_gs.out 5).trans rfl
    have hc_gs_6 : w19_.cell? ⟨gs, 6, none⟩ = some (.bool true) := (blk_cell B_gs.out 6).trans rfl
    have hc_gs_7 : w19_.cell? ⟨gs, 7, none⟩ = some (.slice sA sl.length sc) := (blk_cell B_gs.out 7).trans rfl
    have hc_gs_8 : w19_.cell? ⟨gs, 8, none⟩ = some (.int .i64 s8) := (blk_cell B_gs.out 8).trans rfl
    have hc_gs_9 : w19_.cell? ⟨gs, 9, none⟩ = some (.int .i64 s9) := (blk_cell B_gs.out 9).trans rfl
    have hc_gs_10 : w19_.cell? ⟨gs, 10, none⟩ = some (.int .i64 s10) := (blk_cell B_gs.out 10).trans rfl
    go_upto_region 13 with (((with_reducible refine gate_dst (N := 58) rfl ?_); refine box_event ?hg (N := 58) ?hd (cs := #[.int .i64 p0, .int .i64 p1, .int .i64 p2, .int .i64 p3, .int .i64 p4, .int .i64 p5, .int .i64 p6, .int .i64 p7, .int .i64 p8, .int .i64 p9, .int .i64 p10, .int .i64 p11, .int .i64 s0, .int .i64 s1, .int .i64 s2, .bool true, .int .i64 p9, .int .i64 p2, .bool true, .slice sA sl.length sc, .int .i64 s8, .int .i64 s9, .int .i64 s10]) (t := 39) ?hr ?_; (case hd => rfl); (case hg => rfl); (case hr => first | (go_simp; done) | (go_simp; rfl)); intro gc hg w20_ hbox hb; have N_gp_gc := nl hg B_gp.out; have N_gs_gc := nl hg B_gs.out; have N_ga_gc := nl hg B_ga.out; have N_gb_gc := nl hg B_gb.out; have N_gi_gc := nl hg B_gi.out; have N_gc_gp := ng hg B_gp.out; have N_gc_gs := ng hg B_gs.out; have N_gc_ga := ng hg B_ga.out; have N_gc_gb := ng hg B_gb.out; have N_gc_gi := ng hg B_gi.out; have E_gc : Aside0 (w.heap.size ≤ gc) := ⟨by rw [hg]; exact below_size HB.out⟩; have n0_ := Aside0.mk (blk_below B_gp.out hb); have n1_ := Aside0.mk (blk_below B_gs.out hb); have n2_ := Aside0.mk (blk_below B_ga.out hb); have n3_ := Aside0.mk (blk_below B_gb.out hb); have n4_ := Aside0.mk (blk_below B_gi.out hb); have n5_ := Aside0.mk (below_step HB.out hb); clear B_gp B_gs B_ga B_gb B_gi HB; have B_gp := n0_; have B_gs := n1_; have B_ga := n2_; have B_gb := n3_; have B_gi := n4_; have HB := n5_; clear n0_ n1_ n2_ n3_ n4_ n5_; have B_gc := Aside0.mk hbox; clear hb hbox hg))
    clear hc_gp_0 hc_gp_1 hc_gp_2 hc_gp_3 hc_gp_4 hc_gp_5 hc_gp_6 hc_gp_7 hc_gp_8 hc_gp_9 hc_gp_10 hc_gp_11 hc_gs_0 hc_gs_1 hc_gs_2 hc_gs_3 hc_gs_4 hc_gs_5 hc_gs_6 hc_gs_7 hc_gs_8 hc_gs_9 hc_gs_10
    go_upto_region 14 with ((go_at_call 20; (with_reducible refine (health_Front_Now.ok k gc p0 p1 p2 p3 p4 p5 p6 p7 p8 p9 p10 p11 s0 s1 s2 true p9 p2 true sA sc sl s8 s9 s10 1 (by decide) _ (Kd.C_below HRs.out HB.out) HCs.out B_gc.out HOC.out).mono ?_); rintro e w21_ ⟨rfl, hb⟩; have n0_ := Aside0.mk (blk_below B_gp.out hb); have n1_ := Aside0.mk (blk_below B_gs.out hb); have n2_ := Aside0.mk (blk_below B_ga.out hb); have n3_ := Aside0.mk (blk_below B_gb.out hb); have n4_ := Aside0.mk (blk_below B_gi.out hb); have n5_ := Aside0.mk (blk_below B_gc.out hb); have n6_ := Aside0.mk (below_step HB.out hb); clear B_gp B_gs B_ga B_gb B_gi B_gc HB; have B_gp := n0_; have B_gs := n1_; have B_ga := n2_; have B_gb := n3_; have B_gi := n4_; have B_gc := n5_; have HB := n6_; clear n0_ n1_ n2_ n3_ n4_ n5_ n6_; clear hb))
    have hc_gs_2 : w21_.cell? ⟨gs, 2, none⟩ = some (.int .i64 s2) := (blk_cell B_gs.out 2).trans rfl
    go_wp2_with ((go_at_call 22; (with_reducible refine (health_Front_Health.calls k gc p0 p1 p2 p3 p4 p5 p6 p7 p8 p9 p10 p11 s0 s1 s2 true p9 p2 true sA sc sl s8 s9 s10 1 _ (Kd.C_below HRs.out HB.out) HCs.out B_gc.out HOC.out).mono ?_); rintro e w22_ ⟨rfl, hb⟩; have n0_ := Aside0.mk (blk_below B_gp.out hb); have n1_ := Aside0.mk (blk_below B_gs.out hb); have n2_ := Aside0.mk (blk_below B_ga.out hb); have n3_ := Aside0.mk (blk_below B_gb.out hb); have n4_ := Aside0.mk (blk_below B_gi.out hb); have n5_ := Aside0.mk (blk_below B_gc.out hb); have n6_ := Aside0.mk (below_step HB.out hb); clear B_gp B_gs B_ga B_gb B_gi B_gc HB; have B_gp := n0_; have B_gs := n1_; have B_ga := n2_; have B_gb := n3_; have B_gi := n4_; have B_gc := n5_; have HB := n6_; clear n0_ n1_ n2_ n3_ n4_ n5_ n6_; clear hb))
    clear hc_gs_2
    go_ret
    exact ⟨rfl, HB.out⟩

end Go.Proofs.Ytigkjbaclpklpaa.Q
