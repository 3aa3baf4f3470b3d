/- The call of this law answers true where the plain function beside it does: a proof by hand (generated in parts by my own program), step by step through the Go code; under the conditions that stand in the theorem. -/
import Derived.Test.YtigkjbaclpklpaaQx0
import Derived.Test.YtigkjbaclpklpaaQx5
import Derived.Test.YtigkjbaclpklpaaQx6
import Derived.Test.YtigkjbaclpklpaaQx7
import Derived.Test.YtigkjbaclpklpaaQx14
import Derived.Test.YtigkjbaclpklpaaQx15
import Derived.Test.YtigkjbaclpklpaaQx16
import Derived.Test.YtigkjbaclpklpaaQx17
namespace Go.Proofs.Ytigkjbaclpklpaa.Q
open Go.RowKit Go.Proofs.YtigkjbaclpklpaaW.PrintWords Go.Proofs.YtigkjbaclpklpaaW.PrintLast Go.Proofs.YtigkjbaclpklpaaW.PrintMore
attribute [local go_sem] max2_int min2_int max_two min_two max_three min_three max_four min_four   -- for this text's walks alone
set_option linter.unusedVariables false
set_option linter.unusedSimpArgs false

/-! the law, by hand -/
attribute [local go_sem] hx.fl
def clepsydralaw21_HealthStays.g (k : Nat) (p0 p1 p2 p3 p4 p5 p6 p7 p8 p9 p10 p11 : Int) (s0 s1 s2 : Int) (s3 : Bool) (s4 s5 : Int) (s6 : Bool) (sl : List S42) (s8 s9 s10 : Int) (nw er : Int) (y0 y1 y2 : Int) (y3 : Bool) (y4 y5 : Int) (y6 : Bool) (yl : List S42) (y8 y9 y10 : Int) (fr hh : Int) : Option Bool := if y0 > (Go.RowKit.wrap64 (nw + p3)) then some true else if y1 < (Go.RowKit.wrap64 (nw + p3)) then some true else if y0 < Go.RowKit.wrap64 ((Go.RowKit.wrap64 (nw + p3)) - (Go.RowKit.wrap64 (Int.tdiv fr 2))) then some true else if y1 > Go.RowKit.wrap64 ((Go.RowKit.wrap64 (nw + p3)) + (Go.RowKit.wrap64 (Int.tdiv fr 2))) then some true else if Go.RowKit.wrap64 (y1 - y0) > (Go.RowKit.wrap64 (Int.tdiv fr 2)) then some true else (health_Front_Step.f k p0 p1 p2 p3 p4 p5 p6 p7 p8 p9 p10 p11 s0 s1 s2 s3 s4 s5 s6 sl s8 s9 s10 (Go.RowKit.wrap64 (p3 + er)) y0 y1 y2 y3 y4 y5 y6 yl y8 y9 y10).bind fun st => if ¬ st.2.2.1 > Go.RowKit.wrap64 ((Go.RowKit.wrap64 (nw + p3)) + (Go.RowKit.wrap64 (Int.tdiv fr 2))) ∧ ¬ st.2.2.1 < Go.RowKit.wrap64 ((Go.RowKit.wrap64 (nw + p3)) - (Go.RowKit.wrap64 (Int.tdiv fr 2))) ∧ (hh = 0 ∨ (Go.RowKit.wrap64 (Go.RowKit.wrap64 (Go.RowKit.wrap64 (st.2.2.1 - s2) - p3) - er) ≤ p8 ∧ Go.RowKit.wrap64 (Go.RowKit.wrap64 (Go.RowKit.wrap64 (st.2.2.1 - s2) - p3) - er) ≥ Go.RowKit.wrap64 (-p8))) then some true else none
def clepsydralaw21_HealthStays.f (k : Nat) (p0 p1 p2 p3 p4 p5 p6 p7 p8 p9 p10 p11 : Int) (s0 s1 s2 : Int) (s3 : Bool) (s4 s5 : Int) (s6 : Bool) (sl : List S42) (s8 s9 s10 : Int) (nw er : Int) (y0 y1 y2 : Int) (y3 : Bool) (y4 y5 : Int) (y6 : Bool) (yl : List S42) (y8 y9 y10 : Int) : Option Bool := (limit_Check.f k p0 p1 p2 p3 p4 p5 p6 p7 p8 p9 p10 p11).bind fun ck => if ck ≠ 0 then some true else (clepsydralaw21_long.f s0 s1 s2 s3 s4 s5 s6 sl s8 s9 s10 y0 y1 y2 y3 y4 y5 y6 yl y8 y9 y10).bind fun lg => if lg = true then some true else if nw > 72057594037927936 then some true else if nw < -72057594037927936 then some true else if er > p4 then some true else if er < Go.RowKit.wrap64 (-p4) then some true else if y4 < 0 then some true else if y4 > p9 then some true else (health_Far.f k p0 p1 p2 p3 p4 p5 p6 p7 p8 p9 p10 p11 p9).bind fun fr => (health_Of.f k p0 p1 p2 p3 p4 p5 p6 p7 p8 p9 p10 p11 s0 s1 s2 s3 s4 s5 s6 sl s8 s9 s10).bind fun hh => if (Go.RowKit.wrap64 (Int.tdiv fr 2)) > 72057594037927936 then some true else if hh = 0 then clepsydralaw21_HealthStays.g k p0 p1 p2 p3 p4 p5 p6 p7 p8 p9 p10 p11 s0 s1 s2 s3 s4 s5 s6 sl s8 s9 s10 nw er y0 y1 y2 y3 y4 y5 y6 yl y8 y9 y10 fr hh else if s2 > Go.RowKit.wrap64 (nw + (Go.RowKit.wrap64 (Int.tdiv fr 2))) then some true else if s2 < Go.RowKit.wrap64 (nw - (Go.RowKit.wrap64 (Int.tdiv fr 2))) then some true else clepsydralaw21_HealthStays.g k p0 p1 p2 p3 p4 p5 p6 p7 p8 p9 p10 p11 s0 s1 s2 s3 s4 s5 s6 sl s8 s9 s10 nw er y0 y1 y2 y3 y4 y5 y6 yl y8 y9 y10 fr hh
set_option maxHeartbeats 8000000 in
set_option maxRecDepth 100000 in
theorem clepsydralaw21_HealthStays.calls (k : Nat) (p0 p1 p2 p3 p4 p5 p6 p7 p8 p9 p10 p11 : Int) (s0 s1 s2 : Int) (s3 : Bool) (s4 s5 : Int) (s6 : Bool) (sA : Option Addr) (sc : Nat) (sl : List S42) (s8 s9 s10 : Int) (nw er : Int) (y0 y1 y2 : Int) (y3 : Bool) (y4 y5 : Int) (y6 : Bool) (yA : Option Addr) (yc : Nat) (yl : List S42) (y8 y9 y10 : Int) (r : Bool) (w : World) (hrs : Kd.C k42 w sA sl.length sl) (hcs : sl.length ≤ sc) (hry : Kd.C k42 w yA yl.length yl) (hcy : yl.length ≤ yc) (hT : Aside0 (r = true)) (h : clepsydralaw21_HealthStays.f k p0 p1 p2 p3 p4 p5 p6 p7 p8 p9 p10 p11 s0 s1 s2 s3 s4 s5 s6 sl s8 s9 s10 nw er y0 y1 y2 y3 y4 y5 y6 yl y8 y9 y10 = some r) :
  Calls Try.prog 5 #[.agg #[.int .i64 p0, .int .i64 p1, .int .i64 p2, .int .i64 p3, .int .i64 p4, .int .i64 p5, .int .i64 p6, .int .i64 p7, .int .i64 p8, .int .i64 p9, .int .i64 p10, .int .i64 p11], .agg #[.int .i64 s0, .int .i64 s1, .int .i64 s2, .bool s3, .int .i64 s4, .int .i64 s5, .bool s6, .slice sA sl.length sc, .int .i64 s8, .int .i64 s9, .int .i64 s10], .int .i64 nw, .int .i64 er, .agg #[.int .i64 y0, .int .i64 y1, .int .i64 y2, .bool y3, .int .i64 y4, .int .i64 y5, .bool y6, .slice yA yl.length yc, .int .i64 y8, .int .i64 y9, .int .i64 y10]] w fun e w' => e = .returned (.bool r) ∧ Below w.heap.size w w' := by
 obtain rfl := hT.out
 clear hT
 unfold clepsydralaw21_HealthStays.f at h
 obtain ⟨ck, hck, h⟩ := Option.bind_eq_some_iff.mp h
 have HRs := Aside0.mk hrs
 have HCs := Aside0.mk hcs
 have HRy := Aside0.mk hry
 have HCy := Aside0.mk hcy
 have HCK := Aside0.mk hck
 clear hrs hcs hry hcy hck
 have HB := Aside0.mk (Below.refl w.heap.size w)
 go_enter Try.func5, Try.ntmps5
 go_upto_region 1 with (first | ((with_reducible refine gate_dst (N := 5) rfl ?_); refine box_event ?hg (N := 5) ?hd (cs := #[.int .i64 p0, .int .i64 p1, .int .i64 p2, .int .i64 p3, .int .i64 p4, .int .i64 p5, .int .i64 p6, .int .i64 p7, .int .i64 p8, .int .i64 p9, .int .i64 p10, .int .i64 p11]) (t := 23) ?hr ?_; (case hd => rfl); (case hg => rfl); (case hr => first | (go_simp; done) | (go_simp; rfl)); intro gp hg w1_ hbox hb; have E_gp : Aside0 (w.heap.size ≤ gp) := ⟨by rw [hg]; exact below_size HB.out⟩; have n0_ := Aside0.mk (below_step HB.out hb); clear HB; have HB := n0_; clear n0_; have B_gp := Aside0.mk hbox; clear hb hbox hg) | ((with_reducible refine gate_dst (N := 6) rfl ?_); refine box_event ?hg (N := 6) ?hd (cs := #[.int .i64 s0, .int .i64 s1, .int .i64 s2, .bool s3, .int .i64 s4, .int .i64 s5, .bool s6, .slice sA sl.length sc, .int .i64 s8, .int .i64 s9, .int .i64 s10]) (t := 30) ?hr ?_; (case hd => rfl); (case hg => rfl); (case hr => first | (go_simp; done) | (go_simp; rfl)); intro gs hg w2_ hbox hb; have N_gp_gs := nl hg B_gp.out; have N_gs_gp := ng hg B_gp.out; have E_gs : Aside0 (w.heap.size ≤ gs) := ⟨by rw [hg]; exact below_size HB.out⟩; have n0_ := Aside0.mk (blk_below B_gp.out hb); have n1_ := Aside0.mk (below_step HB.out hb); clear B_gp HB; have B_gp := n0_; have HB := n1_; clear n0_ n1_; have B_gs := Aside0.mk hbox; clear hb hbox hg) | ((with_reducible refine gate_dst (N := 9) rfl ?_); refine box_event ?hg (N := 9) ?hd (cs := #[.int .i64 y0, .int .i64 y1, .int .i64 y2, .bool y3, .int .i64 y4, .int .i64 y5, .bool y6, .slice yA yl.length yc, .int .i64 y8, .int .i64 y9, .int .i64 y10]) (t := 30) ?hr ?_; (case hd => rfl); (case hg => rfl); (case hr => first | (go_simp; done) | (go_simp; rfl)); intro gy hg w3_ hbox hb; have N_gp_gy := nl hg B_gp.out; have N_gs_gy := nl hg B_gs.out; have N_gy_gp := ng hg B_gp.out; have N_gy_gs := ng hg B_gs.out; have E_gy : Aside0 (w.heap.size ≤ gy) := ⟨by rw [hg]; exact below_size HB.out⟩; have n0_ := Aside0.mk (blk_below B_gp.out hb); have n1_ := Aside0.mk (blk_below B_gs.out hb); have n2_ := Aside0.mk (below_step HB.out hb); clear B_gp B_gs HB; have B_gp := n0_; have B_gs := n1_; have HB := n2_; clear n0_ n1_ n2_; have B_gy := Aside0.mk hbox; clear hb hbox hg))
 go_upto_region 3 with ((go_at_call 8; (with_reducible refine (clepsydralaw21_alive.calls true _ rfl).mono ?_); rintro e w4_ ⟨rfl, hb⟩; have n0_ := Aside0.mk (blk_below B_gp.out hb); have n1_ := Aside0.mk (blk_below B_gs.out hb); have n2_ := Aside0.mk (blk_below B_gy.out hb); have n3_ := Aside0.mk (below_step HB.out hb); clear B_gp B_gs B_gy HB; have B_gp := n0_; have B_gs := n1_; have B_gy := n2_; have HB := n3_; clear n0_ n1_ n2_ n3_; clear hb))
 by_cases hz : ck ≠ 0
 ·have hz0 : decide (ck = 0) = false := decide_eq_false hz
  have hc_gp_0 : w4_.cell? ⟨gp, 0, none⟩ = some (.int .i64 p0) := (blk_cell B_gp.out 0).trans rfl
  have hc_gp_1 : w4_.cell? ⟨gp, 1, none⟩ = some (.int .i64 p1) := (blk_cell B_gp.out 1).trans rfl
  have hc_gp_2 : w4_.cell? ⟨gp, 2, none⟩ = some (.int .i64 p2) := (blk_cell B_gp.out 2).trans rfl
  have hc_gp_3 : w4_.cell? ⟨gp, 3, none⟩ = some (.int .i64 p3) := (blk_cell B_gp.out 3).trans rfl
  have hc_gp_4 : w4_.cell? ⟨gp, 4, none⟩ = some (.int .i64 p4) := (blk_cell B_gp.out 4).trans rfl
  have hc_gp_5 : w4_.cell? ⟨gp, 5, none⟩ = some (.int .i64 p5) := (blk_cell B_gp.out 5).trans rfl
  have hc_gp_6 : w4_.cell? ⟨gp, 6, none⟩ = some (.int .i64 p6) := (blk_cell B_gp.out 6).trans rfl
  have hc_gp_7 : w4_.cell? ⟨gp, 7, none⟩ = some (.int .i64 p7) := (blk_cell B_gp.out 7).trans rfl
  have hc_gp_8 : w4_.cell? ⟨gp, 8, none⟩ = some (.int .i64 p8) := (blk_cell B_gp.out 8).trans rfl
  have hc_gp_9 : w4_.cell? ⟨gp, 9, none⟩ = some (.int .i64 p9) := (blk_cell B_gp.out 9).trans rfl
  have hc_gp_10 : w4_.cell? ⟨gp, 10, none⟩ = some (.int .i64 p10) := (blk_cell B_gp.out 10).trans rfl
  have hc_gp_11 : w4_.cell? ⟨gp, 11, none⟩ = some (.int .i64 p11) := (blk_cell B_gp.out 11).trans rfl
  go_wp2_with ((go_at_call 19; (with_reducible refine (limit_Check.calls k p0 p1 p2 p3 p4 p5 p6 p7 p8 p9 p10 p11 ck _ HCK.out).mono ?_); rintro e w5_ ⟨rfl, hb⟩; have n0_ := Aside0.mk (blk_below B_gp.out hb); have n1_ := Aside0.mk (blk_below B_gs.out hb); have n2_ := Aside0.mk (blk_below B_gy.out hb); have n3_ := Aside0.mk (below_step HB.out hb); clear B_gp B_gs B_gy HB; have B_gp := n0_; have B_gs := n1_; have B_gy := n2_; have HB := n3_; clear n0_ n1_ n2_ n3_; clear hb))
  clear hc_gp_0 hc_gp_1 hc_gp_2 hc_gp_3 hc_gp_4 hc_gp_5 hc_gp_6 hc_gp_7 hc_gp_8 hc_gp_9 hc_gp_10 hc_gp_11
  go_ret
  exact ⟨rfl, HB.out⟩
 ·rw [if_neg hz] at h
  obtain rfl : ck = 0 := by omega
  clear hz
  obtain ⟨lg, hlg, h⟩ := Option.bind_eq_some_iff.mp h
  have HLG := Aside0.mk hlg
  clear hlg
  cases lg
  case true =>
   have hc_gp_0 : w4_.cell? ⟨gp, 0, none⟩ = some (.int .i64 p0) := (blk_cell B_gp.out 0).trans rfl
   have hc_gp_1 : w4_.cell? ⟨gp, 1, none⟩ = some (.int .i64 p1) := (blk_cell B_gp.out 1).trans rfl
   have hc_gp_2 : w4_.cell? ⟨gp, 2, none⟩ = some (.int .i64 p2) := (blk_cell B_gp.out 2).trans rfl
   have hc_gp_3 : w4_.cell? ⟨gp, 3, none⟩ = some (.int .i64 p3) := (blk_cell B_gp.out 3).trans rfl
   have hc_gp_4 : w4_.cell? ⟨gp, 4, none⟩ = some (.int .i64 p4) := (blk_cell B_gp.out 4).trans rfl
   have hc_gp_5 : w4_.cell? ⟨gp, 5, none⟩ = some (.int .i64 p5) := (blk_cell B_gp.out 5).trans rfl
   have hc_gp_6 : w4_.cell? ⟨gp, 6, none⟩ = some (.int .i64 p6) := (blk_cell B_gp.out 6).trans rfl
   have hc_gp_7 : w4_.cell? ⟨gp, 7, none⟩ = some (.int .i64 p7) := (blk_cell B_gp.out 7).trans rfl
   have hc_gp_8 : w4_.cell? ⟨gp, 8, none⟩ = some (.int .i64 p8) := (blk_cell B_gp.out 8).trans rfl
   have hc_gp_9 : w4_.cell? ⟨gp, 9, none⟩ = some (.int .i64 p9) := (blk_cell B_gp.out 9).trans rfl
   have hc_gp_10 : w4_.cell? ⟨gp, 10, none⟩ = some (.int .i64 p10) := (blk_cell B_gp.out 10).trans rfl
   have hc_gp_11 : w4_.cell? ⟨gp, 11, none⟩ = some (.int .i64 p11) := (blk_cell B_gp.out 11).trans rfl
   go_wp2_with (first | (go_at_call 19; (with_reducible refine (limit_Check.calls k p0 p1 p2 p3 p4 p5 p6 p7 p8 p9 p10 p11 0 _ HCK.out).mono ?_); rintro e w6_ ⟨rfl, hb⟩; have n0_ := Aside0.mk (blk_below B_gp.out hb); have n1_ := Aside0.mk (blk_below B_gs.out hb); have n2_ := Aside0.mk (blk_below B_gy.out hb); have n3_ := Aside0.mk (below_step HB.out hb); clear B_gp B_gs B_gy HB; have B_gp := n0_; have B_gs := n1_; have B_gy := n2_; have HB := n3_; clear n0_ n1_ n2_ n3_; clear hb; have hr1_gs_0 : w6_.cell? ⟨gs, 0, none⟩ = some (.int .i64 s0) := (blk_cell B_gs.out 0).trans rfl; have hr1_gs_1 : w6_.cell? ⟨gs, 1, none⟩ = some (.int .i64 s1) := (blk_cell B_gs.out 1).trans rfl; have hr1_gs_2 : w6_.cell? ⟨gs, 2, none⟩ = some (.int .i64 s2) := (blk_cell B_gs.out 2).trans rfl; have hr1_gs_3 : w6_.cell? ⟨gs, 3, none⟩ = some (.bool s3) := (blk_cell B_gs.out 3).trans rfl; have hr1_gs_4 : w6_.cell? ⟨gs, 4, none⟩ = some (.int .i64 s4) := (blk_cell B_gs.out 4).trans rfl; have hr1_gs_5 : w6_.cell? ⟨gs, 5, none⟩ = some (.int .i64 s5) := (blk_cell B_gs.out 5).trans rfl; have hr1_gs_6 : w6_.cell? ⟨gs, 6, none⟩ = some (.bool s6) := (blk_cell B_gs.out 6).trans rfl; have hr1_gs_7 : w6_.cell? ⟨gs, 7, none⟩ = some (.slice sA sl.length sc) := (blk_cell B_gs.out 7).trans rfl; have hr1_gs_8 : w6_.cell? ⟨gs, 8, none⟩ = some (.int .i64 s8) := (blk_cell B_gs.out 8).trans rfl; have hr1_gs_9 : w6_.cell? ⟨gs, 9, none⟩ = some (.int .i64 s9) := (blk_cell B_gs.out 9).trans rfl; have hr1_gs_10 : w6_.cell? ⟨gs, 10, none⟩ = some (.int .i64 s10) := (blk_cell B_gs.out 10).trans rfl; have hr1_gy_0 : w6_.cell? ⟨gy, 0, none⟩ = some (.int .i64 y0) := (blk_cell B_gy.out 0).trans rfl; have hr1_gy_1 : w6_.cell? ⟨gy, 1, none⟩ = some (.int .i64 y1) := (blk_cell B_gy.out 1).trans rfl; have hr1_gy_2 : w6_.cell? ⟨gy, 2, none⟩ = some (.int .i64 y2) := (blk_cell B_gy.out 2).trans rfl; have hr1_gy_3 : w6_.cell? ⟨gy, 3, none⟩ = some (.bool y3) := (blk_cell B_gy.out 3).trans rfl; have hr1_gy_4 : w6_.cell? ⟨gy, 4, none⟩ = some (.int .i64 y4) := (blk_cell B_gy.out 4).trans rfl; have hr1_gy_5 : w6_.cell? ⟨gy, 5, none⟩ = some (.int .i64 y5) := (blk_cell B_gy.out 5).trans rfl; have hr1_gy_6 : w6_.cell? ⟨gy, 6, none⟩ = some (.bool y6) := (blk_cell B_gy.out 6).trans rfl; have hr1_gy_7 : w6_.cell? ⟨gy, 7, none⟩ = some (.slice yA yl.length yc) := (blk_cell B_gy.out 7).trans rfl; have hr1_gy_8 : w6_.cell? ⟨gy, 8, none⟩ = some (.int .i64 y8) := (blk_cell B_gy.out 8).trans rfl; have hr1_gy_9 : w6_.cell? ⟨gy, 9, none⟩ = some (.int .i64 y9) := (blk_cell B_gy.out 9).trans rfl; have hr1_gy_10 : w6_.cell? ⟨gy, 10, none⟩ = some (.int .i64 y10) := (blk_cell B_gy.out 10).trans rfl) | (go_at_call 9; (with_reducible refine (clepsydralaw21_long.calls s0 s1 s2 s3 s4 s5 s6 sA sc sl s8 s9 s10 y0 y1 y2 y3 y4 y5 y6 yA yc yl y8 y9 y10 true _ (Kd.C_below HRs.out HB.out) HCs.out (Kd.C_below HRy.out HB.out) HCy.out HLG.out).mono ?_); rintro e w7_ ⟨rfl, hb⟩; have n0_ := Aside0.mk (blk_below B_gp.out hb); have n1_ := Aside0.mk (blk_below B_gs.out hb); have n2_ := Aside0.mk (blk_below B_gy.out hb); have n3_ := Aside0.mk (below_step HB.out hb); clear B_gp B_gs B_gy HB; have B_gp := n0_; have B_gs := n1_; have B_gy := n2_; have HB := n3_; clear n0_ n1_ n2_ n3_; clear hb))
   clear hc_gp_0 hc_gp_1 hc_gp_2 hc_gp_3 hc_gp_4 hc_gp_5 hc_gp_6 hc_gp_7 hc_gp_8 hc_gp_9 hc_gp_10 hc_gp_11 hr1_gs_0 hr1_gs_1 hr1_gs_2 hr1_gs_3 hr1_gs_4 hr1_gs_5 hr1_gs_6 hr1_gs_7 hr1_gs_8 hr1_gs_9 hr1_gs_10 hr1_gy_0 hr1_gy_1 hr1_gy_2 hr1_gy_3 hr1_gy_4 hr1_gy_5 hr1_gy_6 hr1_gy_7 hr1_gy_8 hr1_gy_9 hr1_gy_10
   go_ret
   exact ⟨rfl, HB.out⟩
  case false =>
   rw [if_neg (by decide)] at h
   by_cases c8_ : nw > 72057594037927936
   ·have c8_d : decide (nw > 72057594037927936) = true := decide_eq_true c8_
    have c8_e : decide (72057594037927936 < nw) = true := decide_eq_true c8_
    clear h
    have hc_gp_0 : w4_.cell? ⟨gp, 0, none⟩ = some (.int .i64 p0) := (blk_cell B_gp.out 0).trans rfl
    have hc_gp_1 : w4_.cell? ⟨gp, 1, none⟩ = some (.int .i64 p1) := (blk_cell B_gp.out 1).trans rfl
    have hc_gp_2 : w4_.cell? ⟨gp, 2, none⟩ = some (.int .i64 p2) := (blk_cell B_gp.out 2).trans rfl
    have hc_gp_3 : w4_.cell? ⟨gp, 3, none⟩ = some (.int .i64 p3) := (blk_cell B_gp.out 3).trans rfl
    have hc_gp_4 : w4_.cell? ⟨gp, 4, none⟩ = some (.int .i64 p4) := (blk_cell B_gp.out 4).trans rfl
    have hc_gp_5 : w4_.cell? ⟨gp, 5, none⟩ = some (.int .i64 p5) := (blk_cell B_gp.out 5).trans rfl
    have hc_gp_6 : w4_.cell? ⟨gp, 6, none⟩ = some (.int .i64 p6) := (blk_cell B_gp.out 6).trans rfl
    have hc_gp_7 : w4_.cell? ⟨gp, 7, none⟩ = some (.int .i64 p7) := (blk_cell B_gp.out 7).trans rfl
    have hc_gp_8 : w4_.cell? ⟨gp, 8, none⟩ = some (.int .i64 p8) := (blk_cell B_gp.out 8).trans rfl
    have hc_gp_9 : w4_.cell? ⟨gp, 9, none⟩ = some (.int .i64 p9) := (blk_cell B_gp.out 9).trans rfl
    have hc_gp_10 : w4_.cell? ⟨gp, 10, none⟩ = some (.int .i64 p10) := (blk_cell B_gp.out 10).trans rfl
    have hc_gp_11 : w4_.cell? ⟨gp, 11, none⟩ = some (.int .i64 p11) := (blk_cell B_gp.out 11).trans rfl
    go_wp2_with (first | (go_at_call 19; (with_reducible refine (limit_Check.calls k p0 p1 p2 p3 p4 p5 p6 p7 p8 p9 p10 p11 0 _ HCK.out).mono ?_); rintro e w9_ ⟨rfl, hb⟩; have n0_ := Aside0.mk (blk_below B_gp.out hb); have n1_ := Aside0.mk (blk_below B_gs.out hb); have n2_ := Aside0.mk (blk_below B_gy.out hb); have n3_ := Aside0.mk (below_step HB.out hb); clear B_gp B_gs B_gy HB; have B_gp := n0_; have B_gs := n1_; have B_gy := n2_; have HB := n3_; clear n0_ n1_ n2_ n3_; clear hb; have hr2_gs_0 : w9_.cell? ⟨gs, 0, none⟩ = some (.int .i64 s0) := (blk_cell B_gs.out 0).trans rfl; have hr2_gs_1 : w9_.cell? ⟨gs, 1, none⟩ = some (.int .i64 s1) := (blk_cell B_gs.out 1).trans rfl; have hr2_gs_2 : w9_.cell? ⟨gs, 2, none⟩ = some (.int .i64 s2) := (blk_cell B_gs.out 2).trans rfl; have hr2_gs_3 : w9_.cell? ⟨gs, 3, none⟩ = some (.bool s3) := (blk_cell B_gs.out 3).trans rfl; have hr2_gs_4 : w9_.cell? ⟨gs, 4, none⟩ = some (.int .i64 s4) := (blk_cell B_gs.out 4).trans rfl; have hr2_gs_5 : w9_.cell? ⟨gs, 5, none⟩ = some (.int .i64 s5) := (blk_cell B_gs.out 5).trans rfl; have hr2_gs_6 : w9_.cell? ⟨gs, 6, none⟩ = some (.bool s6) := (blk_cell B_gs.out 6).trans rfl; have hr2_gs_7 : w9_.cell? ⟨gs, 7, none⟩ = some (.slice sA sl.length sc) := (blk_cell B_gs.out 7).trans rfl; have hr2_gs_8 : w9_.cell? ⟨gs, 8, none⟩ = some (.int .i64 s8) := (blk_cell B_gs.out 8).trans rfl; have hr2_gs_9 : w9_.cell? ⟨gs, 9, none⟩ = some (.int .i64 s9) := (blk_cell B_gs.out 9).trans rfl; have hr2_gs_10 : w9_.cell? ⟨gs, 10, none⟩ = some (.int .i64 s10) := (blk_cell B_gs.out 10).trans rfl; have hr2_gy_0 : w9_.cell? ⟨gy, 0, none⟩ = some (.int .i64 y0) := (blk_cell B_gy.out 0).trans rfl; have hr2_gy_1 : w9_.cell? ⟨gy, 1, none⟩ = some (.int .i64 y1) := (blk_cell B_gy.out 1).trans rfl; have hr2_gy_2 : w9_.cell? ⟨gy, 2, none⟩ = some (.int .i64 y2) := (blk_cell B_gy.out 2).trans rfl; have hr2_gy_3 : w9_.cell? ⟨gy, 3, none⟩ = some (.bool y3) := (blk_cell B_gy.out 3).trans rfl; have hr2_gy_4 : w9_.cell? ⟨gy, 4, none⟩ = some (.int .i64 y4) := (blk_cell B_gy.out 4).trans rfl; have hr2_gy_5 : w9_.cell? ⟨gy, 5, none⟩ = some (.int .i64 y5) := (blk_cell B_gy.out 5).trans rfl; have hr2_gy_6 : w9_.cell? ⟨gy, 6, none⟩ = some (.bool y6) := (blk_cell B_gy.out 6).trans rfl; have hr2_gy_7 : w9_.cell? ⟨gy, 7, none⟩ = some (.slice yA yl.length yc) := (blk_cell B_gy.out 7).trans rfl; have hr2_gy_8 : w9_.cell? ⟨gy, 8, none⟩ = some (.int .i64 y8) := (blk_cell B_gy.out 8).trans rfl; have hr2_gy_9 : w9_.cell? ⟨gy, 9, none⟩ = some (.int .i64 y9) := (blk_cell B_gy.out 9).trans rfl; have hr2_gy_10 : w9_.cell? ⟨gy, 10, none⟩ = some (.int .i64 y10) := (blk_cell B_gy.out 10).trans rfl) | (go_at_call 9; (with_reducible refine (clepsydralaw21_long.calls s0 s1 s2 s3 s4 s5 s6 sA sc sl s8 s9 s10 y0 y1 y2 y3 y4 y5 y6 yA yc yl y8 y9 y10 false _ (Kd.C_below HRs.out HB.out) HCs.out (Kd.C_below HRy.out HB.out) HCy.out HLG.out).mono ?_); rintro e w10_ ⟨rfl, hb⟩; have n0_ := Aside0.mk (blk_below B_gp.out hb); have n1_ := Aside0.mk (blk_below B_gs.out hb); have n2_ := Aside0.mk (blk_below B_gy.out hb); have n3_ := Aside0.mk (below_step HB.out hb); clear B_gp B_gs B_gy HB; have B_gp := n0_; have B_gs := n1_; have B_gy := n2_; have HB := n3_; clear n0_ n1_ n2_ n3_; clear hb; have hr3_gp_4 : w10_.cell? ⟨gp, 4, none⟩ = some (.int .i64 p4) := (blk_cell B_gp.out 4).trans rfl; have hr3_gp_9 : w10_.cell? ⟨gp, 9, none⟩ = some (.int .i64 p9) := (blk_cell B_gp.out 9).trans rfl; have hr3_gy_4 : w10_.cell? ⟨gy, 4, none⟩ = some (.int .i64 y4) := (blk_cell B_gy.out 4).trans rfl))
    clear hc_gp_0 hc_gp_1 hc_gp_2 hc_gp_3 hc_gp_4 hc_gp_5 hc_gp_6 hc_gp_7 hc_gp_8 hc_gp_9 hc_gp_10 hc_gp_11 hr2_gs_0 hr2_gs_1 hr2_gs_2 hr2_gs_3 hr2_gs_4 hr2_gs_5 hr2_gs_6 hr2_gs_7 hr2_gs_8 hr2_gs_9 hr2_gs_10 hr2_gy_0 hr2_gy_1 hr2_gy_2 hr2_gy_3 hr2_gy_4 hr2_gy_5 hr2_gy_6 hr2_gy_7 hr2_gy_8 hr2_gy_9 hr2_gy_10 hr3_gp_4 hr3_gp_9 hr3_gy_4
    go_ret
    exact ⟨rfl, HB.out⟩
   ·rw [if_neg c8_] at h
    have c8_d : decide (nw > 72057594037927936) = false := decide_eq_false c8_
    have c8_e : decide (72057594037927936 < nw) = false := decide_eq_false c8_
    clear c8_
    by_cases c11_ : nw < -72057594037927936
    ·have c11_d : decide (nw < -72057594037927936) = true := decide_eq_true c11_
     clear h
     have hc_gp_0 : w4_.cell? ⟨gp, 0, none⟩ = some (.int .i64 p0) := (blk_cell B_gp.out 0).trans rfl
     have hc_gp_1 : w4_.cell? ⟨gp, 1, none⟩ = some (.int .i64 p1) := (blk_cell B_gp.out 1).trans rfl
     have hc_gp_2 : w4_.cell? ⟨gp, 2, none⟩ = some (.int .i64 p2) := (blk_cell B_gp.out 2).trans rfl
     have hc_gp_3 : w4_.cell? ⟨gp, 3, none⟩ = some (.int .i64 p3) := (blk_cell B_gp.out 3).trans rfl
     have hc_gp_4 : w4_.cell? ⟨gp, 4, none⟩ = some (.int .i64 p4) := (blk_cell B_gp.out 4).trans rfl
     have hc_gp_5 : w4_.cell? ⟨gp, 5, none⟩ = some (.int .i64 p5) := (blk_cell B_gp.out 5).trans rfl
     have hc_gp_6 : w4_.cell? ⟨gp, 6, none⟩ = some (.int .i64 p6) := (blk_cell B_gp.out 6).trans rfl
     have hc_gp_7 : w4_.cell? ⟨gp, 7, none⟩ = some (.int .i64 p7) := (blk_cell B_gp.out 7).trans rfl
     have hc_gp_8 : w4_.cell? ⟨gp, 8, none⟩ = some (.int .i64 p8) := (blk_cell B_gp.out 8).trans rfl
     have hc_gp_9 : w4_.cell? ⟨gp, 9, none⟩ = some (.int .i64 p9) := (blk_cell B_gp.out 9).trans rfl
     have hc_gp_10 : w4_.cell? ⟨gp, 10, none⟩ = some (.int .i64 p10) := (blk_cell B_gp.out 10).trans rfl
     have hc_gp_11 : w4_.cell? ⟨gp, 11, none⟩ = some (.int .i64 p11) := (blk_cell B_gp.out 11).trans rfl
     go_wp2_with (first | (go_at_call 19; (with_reducible refine (limit_Check.calls k p0 p1 p2 p3 p4 p5 p6 p7 p8 p9 p10 p11 0 _ HCK.out).mono ?_); rintro e w12_ ⟨rfl, hb⟩; have n0_ := Aside0.mk (blk_below B_gp.out hb); have n1_ := Aside0.mk (blk_below B_gs.out hb); have n2_ := Aside0.mk (blk_below B_gy.out hb); have n3_ := Aside0.mk (below_step HB.out hb); clear B_gp B_gs B_gy HB; have B_gp := n0_; have B_gs := n1_; have B_gy := n2_; have HB := n3_; clear n0_ n1_ n2_ n3_; clear hb; have hr4_gs_0 : w12_.cell? ⟨gs, 0, none⟩ = some (.int .i64 s0) := (blk_cell B_gs.out 0).trans rfl; have hr4_gs_1 : w12_.cell? ⟨gs, 1, none⟩ = some (.int .i64 s1) := (blk_cell B_gs.out 1).trans rfl; have hr4_gs_2 : w12_.cell? ⟨gs, 2, none⟩ = some (.int .i64 s2) := (blk_cell B_gs.out 2).trans rfl; have hr4_gs_3 : w12_.cell? ⟨gs, 3, none⟩ = some (.bool s3) := (blk_cell B_gs.out 3).trans rfl; have hr4_gs_4 : w12_.cell? ⟨gs, 4, none⟩ = some (.int .i64 s4) := (blk_cell B_gs.out 4).trans rfl; have hr4_gs_5 : w12_.cell? ⟨gs, 5, none⟩ = some (.int .i64 s5) := (blk_cell B_gs.out 5).trans rfl; have hr4_gs_6 : w12_.cell? ⟨gs, 6, none⟩ = some (.bool s6) := (blk_cell B_gs.out 6).trans rfl; have hr4_gs_7 : w12_.cell? ⟨gs, 7, none⟩ = some (.slice sA sl.length sc) := (blk_cell B_gs.out 7).trans rfl; have hr4_gs_8 : w12_.cell? ⟨gs, 8, none⟩ = some (.int .i64 s8) := (blk_cell B_gs.out 8).trans rfl; have hr4_gs_9 : w12_.cell? ⟨gs, 9, none⟩ = some (.int .i64 s9) := (blk_cell B_gs.out 9).trans rfl; have hr4_gs_10 : w12_.cell? ⟨gs, 10, none⟩ = some (.int .i64 s10) := (blk_cell B_gs.out 10).trans rfl; have hr4_gy_0 : w12_.cell? ⟨gy, 0, none⟩ = some (.int .i64 y0) := (blk_cell B_gy.out 0).trans rfl; have hr4_gy_1 : w12_.cell? ⟨gy, 1, none⟩ = some (.int .i64 y1) := (blk_cell B_gy.out 1).trans rfl; have hr4_gy_2 : w12_.cell? ⟨gy, 2, none⟩ = some (.int .i64 y2) := (blk_cell B_gy.out 2).trans rfl; have hr4_gy_3 : w12_.cell? ⟨gy, 3, none⟩ = some (.bool y3) := (blk_cell B_gy.out 3).trans rfl; have hr4_gy_4 : w12_.cell? ⟨gy, 4, none⟩ = some (.int .i64 y4) := (blk_cell B_gy.out 4).trans rfl; have hr4_gy_5 : w12_.cell? ⟨gy, 5, none⟩ = some (.int .i64 y5) := (blk_cell B_gy.out 5).trans rfl; have hr4_gy_6 : w12_.cell? ⟨gy, 6, none⟩ = some (.bool y6) := (blk_cell B_gy.out 6).trans rfl; have hr4_gy_7 : w12_.cell? ⟨gy, 7, none⟩ = some (.slice yA yl.length yc) := (blk_cell B_gy.out 7).trans rfl; have hr4_gy_8 : w12_.cell? ⟨gy, 8, none⟩ = some (.int .i64 y8) := (blk_cell B_gy.out 8).trans rfl; have hr4_gy_9 : w12_.cell? ⟨gy, 9, none⟩ = some (.int .i64 y9) := (blk_cell B_gy.out 9).trans rfl; have hr4_gy_10 : w12_.cell? ⟨gy, 10, none⟩ = some (.int .i64 y10) := (blk_cell B_gy.out 10).trans rfl) | (go_at_call 9; (with_reducible refine (clepsydralaw21_long.calls s0 s1 s2 s3 s4 s5 s6 sA sc sl s8 s9 s10 y0 y1 y2 y3 y4 y5 y6 yA yc yl y8 y9 y10 false _ (Kd.C_below HRs.out HB.out) HCs.out (Kd.C_below HRy.out HB.out) HCy.out HLG.out).mono ?_); rintro e w13_ ⟨rfl, hb⟩; have n0_ := Aside0.mk (blk_below B_gp.out hb); have n1_ := Aside0.mk (blk_below B_gs.out hb); have n2_ := Aside0.mk (blk_below B_gy.out hb); have n3_ := Aside0.mk (below_step HB.out hb); clear B_gp B_gs B_gy HB; have B_gp := n0_; have B_gs := n1_; have B_gy := n2_; have HB := n3_; clear n0_ n1_ n2_ n3_; clear hb; have hr5_gp_4 : w13_.cell? ⟨gp, 4, none⟩ = some (.int .i64 p4) := (blk_cell B_gp.out 4).trans rfl; have hr5_gp_9 : w13_.cell? ⟨gp, 9, none⟩ = some (.int .i64 p9) := (blk_cell B_gp.out 9).trans rfl; have hr5_gy_4 : w13_.cell? ⟨gy, 4, none⟩ = some (.int .i64 y4) := (blk_cell B_gy.out 4).trans rfl))
     clear hc_gp_0 hc_gp_1 hc_gp_2 hc_gp_3 hc_gp_4 hc_gp_5 hc_gp_6 hc_gp_7 hc_gp_8 hc_gp_9 hc_gp_10 hc_gp_11 hr4_gs_0 hr4_gs_1 hr4_gs_2 hr4_gs_3 hr4_gs_4 hr4_gs_5 hr4_gs_6 hr4_gs_7 hr4_gs_8 hr4_gs_9 hr4_gs_10 hr4_gy_0 hr4_gy_1 hr4_gy_2 hr4_gy_3 hr4_gy_4 hr4_gy_5 hr4_gy_6 hr4_gy_7 hr4_gy_8 hr4_gy_9 hr4_gy_10 hr5_gp_4 hr5_gp_9 hr5_gy_4
     go_ret
     exact ⟨rfl, HB.out⟩
    ·rw [if_neg c11_] at h
     have c11_d : decide (nw < -72057594037927936) = false := decide_eq_false c11_
     clear c11_
     by_cases c14_ : er > p4
     ·have c14_d : decide (er > p4) = true := decide_eq_true c14_
      have c14_e : decide (p4 < er) = true := decide_eq_true c14_
      clear h
      have hc_gp_0 : w4_.cell? ⟨gp, 0, none⟩ = some (.int .i64 p0) := (blk_cell B_gp.out 0).trans rfl
      have hc_gp_1 : w4_.cell? ⟨gp, 1, none⟩ = some (.int .i64 p1) := (blk_cell B_gp.out 1).trans rfl
      have hc_gp_2 : w4_.cell? ⟨gp, 2, none⟩ = some (.int .i64 p2) := (blk_cell B_gp.out 2).trans rfl
      have hc_gp_3 : w4_.cell? ⟨gp, 3, none⟩ = some (.int .i64 p3) := (blk_cell B_gp.out 3).trans rfl
      have hc_gp_4 : w4_.cell? ⟨gp, 4, none⟩ = some (.int .i64 p4) := (blk_cell B_gp.out 4).trans rfl
      have hc_gp_5 : w4_.cell? ⟨gp, 5, none⟩ = some (.int .i64 p5) := (blk_cell B_gp.out 5).trans rfl
      have hc_gp_6 : w4_.cell? ⟨gp, 6, none⟩ = some (.int .i64 p6) := (blk_cell B_gp.out 6).trans rfl
      have hc_gp_7 : w4_.cell? ⟨gp, 7, none⟩ = some (.int .i64 p7) := (blk_cell B_gp.out 7).trans rfl
      have hc_gp_8 : w4_.cell? ⟨gp, 8, none⟩ = some (.int .i64 p8) := (blk_cell B_gp.out 8).trans rfl
      have hc_gp_9 : w4_.cell? ⟨gp, 9, none⟩ = some (.int .i64 p9) := (blk_cell B_gp.out 9).trans rfl
      have hc_gp_10 : w4_.cell? ⟨gp, 10, none⟩ = some (.int .i64 p10) := (blk_cell B_gp.out 10).trans rfl
      have hc_gp_11 : w4_.cell? ⟨gp, 11, none⟩ = some (.int .i64 p11) := (blk_cell B_gp.out 11).trans rfl
      go_wp2_with (first | (go_at_call 19; (with_reducible refine (limit_Check.calls k p0 p1 p2 p3 p4 p5 p6 p7 p8 p9 p10 p11 0 _ HCK.out).mono ?_); rintro e w15_ ⟨rfl, hb⟩; have n0_ := Aside0.mk (blk_below B_gp.out hb); have n1_ := Aside0.mk (blk_below B_gs.out hb); have n2_ := Aside0.mk (blk_below B_gy.out hb); have n3_ := Aside0.mk (below_step HB.out hb); clear B_gp B_gs B_gy HB; have B_gp := n0_; have B_gs := n1_; have B_gy := n2_; have HB := n3_; clear n0_ n1_ n2_ n3_; clear hb; have hr6_gs_0 : w15_.cell? ⟨gs, 0, none⟩ = some (.int .i64 s0) := (blk_cell B_gs.out 0).trans rfl; have hr6_gs_1 : w15_.cell? ⟨gs, 1, none⟩ = some (.int .i64 s1) := (blk_cell B_gs.out 1).trans rfl; have hr6_gs_2 : w15_.cell? ⟨gs, 2, none⟩ = some (.int .i64 s2) := (blk_cell B_gs.out 2).trans rfl; have hr6_gs_3 : w15_.cell? ⟨gs, 3, none⟩ = some (.bool s3) := (blk_cell B_gs.out 3).trans rfl; have hr6_gs_4 : w15_.cell? ⟨gs, 4, none⟩ = some (.int .i64 s4) := (blk_cell B_gs.out 4).trans rfl; have hr6_gs_5 : w15_.cell? ⟨gs, 5, none⟩ = some (.int .i64 s5) := (blk_cell B_gs.out 5).trans rfl; have hr6_gs_6 : w15_.cell? ⟨gs, 6, none⟩ = some (.bool s6) := (blk_cell B_gs.out 6).trans rfl; have hr6_gs_7 : w15_.cell? ⟨gs, 7, none⟩ = some (.slice sA sl.length sc) := (blk_cell B_gs.out 7).trans rfl; have hr6_gs_8 : w15_.cell? ⟨gs, 8, none⟩ = some (.int .i64 s8) := (blk_cell B_gs.out 8).trans rfl; have hr6_gs_9 : w15_.cell? ⟨gs, 9, none⟩ = some (.int .i64 s9) := (blk_cell B_gs.out 9).trans rfl; have hr6_gs_10 : w15_.cell? ⟨gs, 10, none⟩ = some (.int .i64 s10) := (blk_cell B_gs.out 10).trans rfl; have hr6_gy_0 : w15_.cell? ⟨gy, 0, none⟩ = some (.int .i64 y0) := (blk_cell B_gy.out 0).trans rfl; have hr6_gy_1 : w15_.cell? ⟨gy, 1, none⟩ = some (.int .i64 y1) := (blk_cell B_gy.out 1).trans rfl; have hr6_gy_2 : w15_.cell? ⟨gy, 2, none⟩ = some (.int .i64 y2) := (blk_cell B_gy.out 2).trans rfl; have hr6_gy_3 : w15_.cell? ⟨gy, 3, none⟩ = some (.bool y3) := (blk_cell B_gy.out 3).trans rfl; have hr6_gy_4 : w15_.cell? ⟨gy, 4, none⟩ = some (.int .i64 y4) := (blk_cell B_gy.out 4).trans rfl; have hr6_gy_5 : w15_.cell? ⟨gy, 5, none⟩ = some (.int .i64 y5) := (blk_cell B_gy.out 5).trans rfl; have hr6_gy_6 : w15_.cell? ⟨gy, 6, none⟩ = some (.bool y6) := (blk_cell B_gy.out 6).trans rfl; have hr6_gy_7 : w15_.cell? ⟨gy, 7, none⟩ = some (.slice yA yl.length yc) := (blk_cell B_gy.out 7).trans rfl; have hr6_gy_8 : w15_.cell? ⟨gy, 8, none⟩ = some (.int .i64 y8) := (blk_cell B_gy.out 8).trans rfl; have hr6_gy_9 : w15_.cell? ⟨gy, 9, none⟩ = some (.int .i64 y9) := (blk_cell B_gy.out 9).trans rfl; have hr6_gy_10 : w15_.cell? ⟨gy, 10, none⟩ = some (.int .i64 y10) := (blk_cell B_gy.out 10).trans rfl) | (go_at_call 9; (with_reducible refine (clepsydralaw21_long.calls s0 s1 s2 s3 s4 s5 s6 sA sc sl s8 s9 s10 y0 y1 y2 y3 y4 y5 y6 yA yc yl y8 y9 y10 false _ (Kd.C_below HRs.out HB.out) HCs.out (Kd.C_below HRy.out HB.out) HCy.out HLG.out).mono ?_); rintro e w16_ ⟨rfl, hb⟩; have n0_ := Aside0.mk (blk_below B_gp.out hb); have n1_ := Aside0.mk (blk_below B_gs.out hb); have n2_ := Aside0.mk (blk_below B_gy.out hb); have n3_ := Aside0.mk (below_step HB.out hb); clear B_gp B_gs B_gy HB; have B_gp := n0_; have B_gs := n1_; have B_gy := n2_; have HB := n3_; clear n0_ n1_ n2_ n3_; clear hb; have hr7_gp_4 : w16_.cell? ⟨gp, 4, none⟩ = some (.int .i64 p4) := (blk_cell B_gp.out 4).trans rfl; have hr7_gp_9 : w16_.cell? ⟨gp, 9, none⟩ = some (.int .i64 p9) := (blk_cell B_gp.out 9).trans rfl; have hr7_gy_4 : w16_.cell? ⟨gy, 4, none⟩ = some (.int .i64 y4) := (blk_cell B_gy.out 4).trans rfl))
      clear hc_gp_0 hc_gp_1 hc_gp_2 hc_gp_3 hc_gp_4 hc_gp_5 hc_gp_6 hc_gp_7 hc_gp_8 hc_gp_9 hc_gp_10 hc_gp_11 hr6_gs_0 hr6_gs_1 hr6_gs_2 hr6_gs_3 hr6_gs_4 hr6_gs_5 hr6_gs_6 hr6_gs_7 hr6_gs_8 hr6_gs_9 hr6_gs_10 hr6_gy_0 hr6_gy_1 hr6_gy_2 hr6_gy_3 hr6_gy_4 hr6_gy_5 hr6_gy_6 hr6_gy_7 hr6_gy_8 hr6_gy_9 hr6_gy_10 hr7_gp_4 hr7_gp_9 hr7_gy_4
      go_ret
      exact ⟨rfl, HB.out⟩
     ·rw [if_neg c14_] at h
      have c14_d : decide (er > p4) = false := decide_eq_false c14_
      have c14_e : decide (p4 < er) = false := decide_eq_false c14_
      clear c14_
      by_cases c17_ : er < Go.RowKit.wrap64 (-p4)
      ·have c17_d : decide (er < Go.RowKit.wrap64 (-p4)) = true := decide_eq_true c17_
       clear h
       have hc_gp_0 : w4_.cell? ⟨gp, 0, none⟩ = some (.int .i64 p0) := (blk_cell B_gp.out 0).trans rfl
       have hc_gp_1 : w4_.cell? ⟨gp, 1, none⟩ = some (.int .i64 p1) := (blk_cell B_gp.out 1).trans rfl
       have hc_gp_2 : w4_.cell? ⟨gp, 2, none⟩ = some (.int .i64 p2) := (blk_cell B_gp.out 2).trans rfl
       have hc_gp_3 : w4_.cell? ⟨gp, 3, none⟩ = some (.int .i64 p3) := (blk_cell B_gp.out 3).trans rfl
       have hc_gp_4 : w4_.cell? ⟨gp, 4, none⟩ = some (.int .i64 p4) := (blk_cell B_gp.out 4).trans rfl
       have hc_gp_5 : w4_.cell? ⟨gp, 5, none⟩ = some (.int .i64 p5) := (blk_cell B_gp.out 5).trans rfl
       have hc_gp_6 : w4_.cell? ⟨gp, 6, none⟩ = some (.int .i64 p6) := (blk_cell B_gp.out 6).trans rfl
       have hc_gp_7 : w4_.cell? ⟨gp, 7, none⟩ = some (.int .i64 p7) := (blk_cell B_gp.out 7).trans rfl
       have hc_gp_8 : w4_.cell? ⟨gp, 8, none⟩ = some (.int .i64 p8) := (blk_cell B_gp.out 8).trans rfl
       have hc_gp_9 : w4_.cell? ⟨gp, 9, none⟩ = some (.int .i64 p9) := (blk_cell B_gp.out 9).trans rfl
       have hc_gp_10 : w4_.cell? ⟨gp, 10, none⟩ = some (.int .i64 p10) := (blk_cell B_gp.out 10).trans rfl
       have hc_gp_11 : w4_.cell? ⟨gp, 11, none⟩ = some (.int .i64 p11) := (blk_cell B_gp.out 11).trans rfl
       go_wp2_with (first | (go_at_call 19; (with_reducible refine (limit_Check.calls k p0 p1 p2 p3 p4 p5 p6 p7 p8 p9 p10 p11 0 _ HCK.out).mono ?_); rintro e w18_ ⟨rfl, hb⟩; have n0_ := Aside0.mk (blk_below B_gp.out hb); have n1_ := Aside0.mk (blk_below B_gs.out hb); have n2_ := Aside0.mk (blk_below B_gy.out hb); have n3_ := Aside0.mk (below_step HB.out hb); clear B_gp B_gs B_gy HB; have B_gp := n0_; have B_gs := n1_; have B_gy := n2_; have HB := n3_; clear n0_ n1_ n2_ n3_; clear hb; have hr8_gs_0 : w18_.cell? ⟨gs, 0, none⟩ = some (.int .i64 s0) := (blk_cell B_gs.out 0).trans rfl; have hr8_gs_1 : w18_.cell? ⟨gs, 1, none⟩ = some (.int .i64 s1) := (blk_cell B_gs.out 1).trans rfl; have hr8_gs_2 : w18_.cell? ⟨gs, 2, none⟩ = some (.int .i64 s2) := (blk_cell B_gs.out 2).trans rfl; have hr8_gs_3 : w18_.cell? ⟨gs, 3, none⟩ = some (.bool s3) := (blk_cell B_gs.out 3).trans rfl; have hr8_gs_4 : w18_.cell? ⟨gs, 4, none⟩ = some (.int .i64 s4) := (blk_cell B_gs.out 4).trans rfl; have hr8_gs_5 : w18_.cell? ⟨gs, 5, none⟩ = some (.int .i64 s5) := (blk_cell B_gs.out 5).trans rfl; have hr8_gs_6 : w18_.cell? ⟨gs, 6, none⟩ = some (.bool s6) := (blk_cell B_gs.out 6).trans rfl; have hr8_gs_7 : w18_.cell? ⟨gs, 7, none⟩ = some (.slice sA sl.length sc) := (blk_cell B_gs.out 7).trans rfl; have hr8_gs_8 : w18_.cell? ⟨gs, 8, none⟩ = some (.int .i64 s8) := (blk_cell B_gs.out 8).trans rfl; have hr8_gs_9 : w18_.cell? ⟨gs, 9, none⟩ = some (.int .i64 s9) := (blk_cell B_gs.out 9).trans rfl; have hr8_gs_10 : w18_.cell? ⟨gs, 10, none⟩ = some (.int .i64 s10) := (blk_cell B_gs.out 10).trans rfl; have hr8_gy_0 : w18_.cell? ⟨gy, 0, none⟩ = some (.int .i64 y0) := (blk_cell B_gy.out 0).trans rfl; have hr8_gy_1 : w18_.cell? ⟨gy, 1, none⟩ = some (.int .i64 y1) := (blk_cell B_gy.out 1).trans rfl; have hr8_gy_2 : w18_.cell? ⟨gy, 2, none⟩ = some (.int .i64 y2) := (blk_cell B_gy.out 2).trans rfl; have hr8_gy_3 : w18_.cell? ⟨gy, 3, none⟩ = some (.bool y3) := (blk_cell B_gy.out 3).trans rfl; have hr8_gy_4 : w18_.cell? ⟨gy, 4, none⟩ = some (.int .i64 y4) := (blk_cell B_gy.out 4).trans rfl; have hr8_gy_5 : w18_.cell? ⟨gy, 5, none⟩ = some (.int .i64 y5) := (blk_cell B_gy.out 5).trans rfl; have hr8_gy_6 : w18_.cell? ⟨gy, 6, none⟩ = some (.bool y6) := (blk_cell B_gy.out 6).trans rfl; have hr8_gy_7 : w18_.cell? ⟨gy, 7, none⟩ = some (.slice yA yl.length yc) := (blk_cell B_gy.out 7).trans rfl; have hr8_gy_8 : w18_.cell? ⟨gy, 8, none⟩ = some (.int .i64 y8) := (blk_cell B_gy.out 8).trans rfl; have hr8_gy_9 : w18_.cell? ⟨gy, 9, none⟩ = some (.int .i64 y9) := (blk_cell B_gy.out 9).trans rfl; have hr8_gy_10 : w18_.cell? ⟨gy, 10, none⟩ = some (.int .i64 y10) := (blk_cell B_gy.out 10).trans rfl) | (go_at_call 9; (with_reducible refine (clepsydralaw21_long.calls s0 s1 s2 s3 s4 s5 s6 sA sc sl s8 s9 s10 y0 y1 y2 y3 y4 y5 y6 yA yc yl y8 y9 y10 false _ (Kd.C_below HRs.out HB.out) HCs.out (Kd.C_below HRy.out HB.out) HCy.out HLG.out).mono ?_); rintro e w19_ ⟨rfl, hb⟩; have n0_ := Aside0.mk (blk_below B_gp.out hb); have n1_ := Aside0.mk (blk_below B_gs.out hb); have n2_ := Aside0.mk (blk_below B_gy.out hb); have n3_ := Aside0.mk (below_step HB.out hb); clear B_gp B_gs B_gy HB; have B_gp := n0_; have B_gs := n1_; have B_gy := n2_; have HB := n3_; clear n0_ n1_ n2_ n3_; clear hb; have hr9_gp_4 : w19_.cell? ⟨gp, 4, none⟩ = some (.int .i64 p4) := (blk_cell B_gp.out 4).trans rfl; have hr9_gp_9 : w19_.cell? ⟨gp, 9, none⟩ = some (.int .i64 p9) := (blk_cell B_gp.out 9).trans rfl; have hr9_gy_4 : w19_.cell? ⟨gy, 4, none⟩ = some (.int .i64 y4) := (blk_cell B_gy.out 4).trans rfl))
       clear hc_gp_0 hc_gp_1 hc_gp_2 hc_gp_3 hc_gp_4 hc_gp_5 hc_gp_6 hc_gp_7 hc_gp_8 hc_gp_9 hc_gp_10 hc_gp_11 hr8_gs_0 hr8_gs_1 hr8_gs_2 hr8_gs_3 hr8_gs_4 hr8_gs_5 hr8_gs_6 hr8_gs_7 hr8_gs_8 hr8_gs_9 hr8_gs_10 hr8_gy_0 hr8_gy_1 hr8_gy_2 hr8_gy_3 hr8_gy_4 hr8_gy_5 hr8_gy_6 hr8_gy_7 hr8_gy_8 hr8_gy_9 hr8_gy_10 hr9_gp_4 hr9_gp_9 hr9_gy_4
       go_ret
       exact ⟨rfl, HB.out⟩
      ·rw [if_neg c17_] at h
       have c17_d : decide (er < Go.RowKit.wrap64 (-p4)) = false := decide_eq_false c17_
       clear c17_
       by_cases c20_ : y4 < 0
       ·have c20_d : decide (y4 < 0) = true := decide_eq_true c20_
        clear h
        have hc_gp_0 : w4_.cell? ⟨gp, 0, none⟩ = some (.int .i64 p0) := (blk_cell B_gp.out 0).trans rfl
        have hc_gp_1 : w4_.cell? ⟨gp, 1, none⟩ = some (.int .i64 p1) := (blk_cell B_gp.out 1).trans rfl
        have hc_gp_2 : w4_.cell? ⟨gp, 2, none⟩ = some (.int .i64 p2) := (blk_cell B_gp.out 2).trans rfl
        have hc_gp_3 : w4_.cell? ⟨gp, 3, none⟩ = some (.int .i64 p3) := (blk_cell B_gp.out 3).trans rfl
        have hc_gp_4 : w4_.cell? ⟨gp, 4, none⟩ = some (.int .i64 p4) := (blk_cell B_gp.out 4).trans rfl
        have hc_gp_5 : w4_.cell? ⟨gp, 5, none⟩ = some (.int .i64 p5) := (blk_cell B_gp.out 5).trans rfl
        have hc_gp_6 : w4_.cell? ⟨gp, 6, none⟩ = some (.int .i64 p6) := (blk_cell B_gp.out 6).trans rfl
        have hc_gp_7 : w4_.cell? ⟨gp, 7, none⟩ = some (.int .i64 p7) := (blk_cell B_gp.out 7).trans rfl
        have hc_gp_8 : w4_.cell? ⟨gp, 8, none⟩ = some (.int .i64 p8) := (blk_cell B_gp.out 8).trans rfl
        have hc_gp_9 : w4_.cell? ⟨gp, 9, none⟩ = some (.int .i64 p9) := (blk_cell B_gp.out 9).trans rfl
        have hc_gp_10 : w4_.cell? ⟨gp, 10, none⟩ = some (.int .i64 p10) := (blk_cell B_gp.out 10).trans rfl
        have hc_gp_11 : w4_.cell? ⟨gp, 11, none⟩ = some (.int .i64 p11) := (blk_cell B_gp.out 11).trans rfl
        go_wp2_with (first | (go_at_call 19; (with_reducible refine (limit_Check.calls k p0 p1 p2 p3 p4 p5 p6 p7 p8 p9 p10 p11 0 _ HCK.out).mono ?_); rintro e w21_ ⟨rfl, hb⟩; have n0_ := Aside0.mk (blk_below B_gp.out hb); have n1_ := Aside0.mk (blk_below B_gs.out hb); have n2_ := Aside0.mk (blk_below B_gy.out hb); have n3_ := Aside0.mk (below_step HB.out hb); clear B_gp B_gs B_gy HB; have B_gp := n0_; have B_gs := n1_; have B_gy := n2_; have HB := n3_; clear n0_ n1_ n2_ n3_; clear hb; have hr10_gs_0 : w21_.cell? ⟨gs, 0, none⟩ = some (.int .i64 s0) := (blk_cell B_gs.out 0).trans rfl; have hr10_gs_1 : w21_.cell? ⟨gs, 1, none⟩ = some (.int .i64 s1) := (blk_cell B_gs.out 1).trans rfl; have hr10_gs_2 : w21_.cell? ⟨gs, 2, none⟩ = some (.int .i64 s2) := (blk_cell B_gs.out 2).trans rfl; have hr10_gs_3 : w21_.cell? ⟨gs, 3, none⟩ = some (.bool s3) := (blk_cell B_gs.out 3).trans rfl; have hr10_gs_4 : w21_.cell? ⟨gs, 4, none⟩ = some (.int .i64 s4) := (blk_cell B_gs.out 4).trans rfl; have hr10_gs_5 : w21_.cell? ⟨gs, 5, none⟩ = some (.int .i64 s5) := (blk_cell B_gs.out 5).trans rfl; have hr10_gs_6 : w21_.cell? ⟨gs, 6, none⟩ = some (.bool s6) := (blk_cell B_gs.out 6).trans rfl; have hr10_gs_7 : w21_.cell? ⟨gs, 7, none⟩ = some (.slice sA sl.length sc) := (blk_cell B_gs.out 7).trans rfl; have hr10_gs_8 : w21_.cell? ⟨gs, 8, none⟩ = some (.int .i64 s8) := (blk_cell B_gs.out 8).trans rfl; have hr10_gs_9 : w21_.cell? ⟨gs, 9, none⟩ = some (.int .i64 s9) := (blk_cell B_gs.out 9).trans rfl; have hr10_gs_10 : w21_.cell? ⟨gs, 10, none⟩ = some (.int .i64 s10) := (blk_cell B_gs.out 10).trans rfl; have hr10_gy_0 : w21_.cell? ⟨gy, 0, none⟩ = some (.int .i64 y0) := (blk_cell B_gy.out 0).trans rfl; have hr10_gy_1 : w21_.cell? ⟨gy, 1, none⟩ = some (.int .i64 y1) := (blk_cell B_gy.out 1).trans rfl; have hr10_gy_2 : w21_.cell? ⟨gy, 2, none⟩ = some (.int .i64 y2) := (blk_cell B_gy.out 2).trans rfl; have hr10_gy_3 : w21_.cell? ⟨gy, 3, none⟩ = some (.bool y3) := (blk_cell B_gy.out 3).trans rfl; have hr10_gy_4 : w21_.cell? ⟨gy, 4, none⟩ = some (.int .i64 y4) := (blk_cell B_gy.out 4).trans rfl; have hr10_gy_5 : w21_.cell? ⟨gy, 5, none⟩ = some (.int .i64 y5) := (blk_cell B_gy.out 5).trans rfl; have hr10_gy_6 : w21_.cell? ⟨gy, 6, none⟩ = some (.bool y6) := (blk_cell B_gy.out 6).trans rfl; have hr10_gy_7 : w21_.cell? ⟨gy, 7, none⟩ = some (.slice yA yl.length yc) := (blk_cell B_gy.out 7).trans rfl; have hr10_gy_8 : w21_.cell? ⟨gy, 8, none⟩ = some (.int .i64 y8) := (blk_cell B_gy.out 8).trans rfl; have hr10_gy_9 : w21_.cell? ⟨gy, 9, none⟩ = some (.int .i64 y9) := (blk_cell B_gy.out 9).trans rfl; have hr10_gy_10 : w21_.cell? ⟨gy, 10, none⟩ = some (.int .i64 y10) := (blk_cell B_gy.out 10).trans rfl) | (go_at_call 9; (with_reducible refine (clepsydralaw21_long.calls s0 s1 s2 s3 s4 s5 s6 sA sc sl s8 s9 s10 y0 y1 y2 y3 y4 y5 y6 yA yc yl y8 y9 y10 false _ (Kd.C_below HRs.out HB.out) HCs.out (Kd.C_below HRy.out HB.out) HCy.out HLG.out).mono ?_); rintro e w22_ ⟨rfl, hb⟩; have n0_ := Aside0.mk (blk_below B_gp.out hb); have n1_ := Aside0.mk (blk_below B_gs.out hb); have n2_ := Aside0.mk (blk_below B_gy.out hb); have n3_ := Aside0.mk (below_step HB.out hb); clear B_gp B_gs B_gy HB; have B_gp := n0_; have B_gs := n1_; have B_gy := n2_; have HB := n3_; clear n0_ n1_ n2_ n3_; clear hb; have hr11_gp_4 : w22_.cell? ⟨gp, 4, none⟩ = some (.int .i64 p4) := (blk_cell B_gp.out 4).trans rfl; have hr11_gp_9 : w22_.cell? ⟨gp, 9, none⟩ = some (.int .i64 p9) := (blk_cell B_gp.out 9).trans rfl; have hr11_gy_4 : w22_.cell? ⟨gy, 4, none⟩ = some (.int .i64 y4) := (blk_cell B_gy.out 4).trans rfl))
        clear hc_gp_0 hc_gp_1 hc_gp_2 hc_gp_3 hc_gp_4 hc_gp_5 hc_gp_6 hc_gp_7 hc_gp_8 hc_gp_9 hc_gp_10 hc_gp_11 hr10_gs_0 hr10_gs_1 hr10_gs_2 hr10_gs_3 hr10_gs_4 hr10_gs_5 hr10_gs_6 hr10_gs_7 hr10_gs_8 hr10_gs_9 hr10_gs_10 hr10_gy_0 hr10_gy_1 hr10_gy_2 hr10_gy_3 hr10_gy_4 hr10_gy_5 hr10_gy_6 hr10_gy_7 hr10_gy_8 hr10_gy_9 hr10_gy_10 hr11_gp_4 hr11_gp_9 hr11_gy_4
        go_ret
        exact ⟨rfl, HB.out⟩
       ·rw [if_neg c20_] at h
        have c20_d : decide (y4 < 0) = false := decide_eq_false c20_
        clear c20_
        by_cases c23_ : y4 > p9
        ·have c23_d : decide (y4 > p9) = true := decide_eq_true c23_
         have c23_e : decide (p9 < y4) = true := decide_eq_true c23_
         clear h
         have hc_gp_0 : w4_.cell? ⟨gp, 0, none⟩ = some (.int .i64 p0) := (blk_cell B_gp.out 0).trans rfl
         have hc_gp_1 : w4_.cell? ⟨gp, 1, none⟩ = some (.int .i64 p1) := (blk_cell B_gp.out 1).trans rfl
         have hc_gp_2 : w4_.cell? ⟨gp, 2, none⟩ = some (.int .i64 p2) := (blk_cell B_gp.out 2).trans rfl
         have hc_gp_3 : w4_.cell? ⟨gp, 3, none⟩ = some (.int .i64 p3) := (blk_cell B_gp.out 3).trans rfl
         have hc_gp_4 : w4_.cell? ⟨gp, 4, none⟩ = some (.int .i64 p4) := (blk_cell B_gp.out 4).trans rfl
         have hc_gp_5 : w4_.cell? ⟨gp, 5, none⟩ = some (.int .i64 p5) := (blk_cell B_gp.out 5).trans rfl
         have hc_gp_6 : w4_.cell? ⟨gp, 6, none⟩ = some (.int .i64 p6) := (blk_cell B_gp.out 6).trans rfl
         have hc_gp_7 : w4_.cell? ⟨gp, 7, none⟩ = some (.int .i64 p7) := (blk_cell B_gp.out 7).trans rfl
         have hc_gp_8 : w4_.cell? ⟨gp, 8, none⟩ = some (.int .i64 p8) := (blk_cell B_gp.out 8).trans rfl
         have hc_gp_9 : w4_.cell? ⟨gp, 9, none⟩ = some (.int .i64 p9) := (blk_cell B_gp.out 9).trans rfl
         have hc_gp_10 : w4_.cell? ⟨gp, 10, none⟩ = some (.int .i64 p10) := (blk_cell B_gp.out 10).trans rfl
         have hc_gp_11 : w4_.cell? ⟨gp, 11, none⟩ = some (.int .i64 p11) := (blk_cell B_gp.out 11).trans rfl
         go_wp2_with (first | (go_at_call 19; (with_reducible refine (limit_Check.calls k p0 p1 p2 p3 p4 p5 p6 p7 p8 p9 p10 p11 0 _ HCK.out).mono ?_); rintro e w24_ ⟨rfl, hb⟩; have n0_ := Aside0.mk (blk_below B_gp.out hb); have n1_ := Aside0.mk (blk_below B_gs.out hb); have n2_ := Aside0.mk (blk_below B_gy.out hb); have n3_ := Aside0.mk (below_step HB.out hb); clear B_gp B_gs B_gy HB; have B_gp := n0_; have B_gs := n1_; have B_gy := n2_; have HB := n3_; clear n0_ n1_ n2_ n3_; clear hb; have hr12_gs_0 : w24_.cell? ⟨gs, 0, none⟩ = some (.int .i64 s0) := (blk_cell B_gs.out 0).trans rfl; have hr12_gs_1 : w24_.cell? ⟨gs, 1, none⟩ = some (.int .i64 s1) := (blk_cell B_gs.out 1).trans rfl; have hr12_gs_2 : w24_.cell? ⟨gs, 2, none⟩ = some (.int .i64 s2) := (blk_cell B_gs.out 2).trans rfl; have hr12_gs_3 : w24_.cell? ⟨gs, 3, none⟩ = some (.bool s3) := (blk_cell B_gs.out 3).trans rfl; have hr12_gs_4 : w24_.cell? ⟨gs, 4, none⟩ = some (.int .i64 s4) := (blk_cell B_gs.out 4).trans rfl; have hr12_gs_5 : w24_.cell? ⟨gs, 5, none⟩ = some (.int .i64 s5) := (blk_cell B_gs.out 5).trans rfl; have hr12_gs_6 : w24_.cell? ⟨gs, 6, none⟩ = some (.bool s6) := (blk_cell B_gs.out 6).trans rfl; have hr12_gs_7 : w24_.cell? ⟨gs, 7, none⟩ = some (.slice sA sl.length sc) := (blk_cell B_gs.out 7).trans rfl; have hr12_gs_8 : w24_.cell? ⟨gs, 8, none⟩ = some (.int .i64 s8) := (blk_cell B_gs.out 8).trans rfl; have hr12_gs_9 : w24_.cell? ⟨gs, 9, none⟩ = some (.int .i64 s9) := (blk_cell B_gs.out 9).trans rfl; have hr12_gs_10 : w24_.cell? ⟨gs, 10, none⟩ = some (.int .i64 s10) := (blk_cell B_gs.out 10).trans rfl; have hr12_gy_0 : w24_.cell? ⟨gy, 0, none⟩ = some (.int .i64 y0) := (blk_cell B_gy.out 0).trans rfl; have hr12_gy_1 : w24_.cell? ⟨gy, 1, none⟩ = some (.int .i64 y1) := (blk_cell B_gy.out 1).trans rfl; have hr12_gy_2 : w24_.cell? ⟨gy, 2, none⟩ = some (.int .i64 y2) := (blk_cell B_gy.out 2).trans rfl; have hr12_gy_3 : w24_.cell? ⟨gy, 3, none⟩ = some (.bool y3) := (blk_cell B_gy.out 3).trans rfl; have hr12_gy_4 : w24_.cell? ⟨gy, 4, none⟩ = some (.int .i64 y4) := (blk_cell B_gy.out 4).trans rfl; have hr12_gy_5 : w24_.cell? ⟨gy, 5, none⟩ = some (.int .i64 y5) := (blk_cell B_gy.out 5).trans rfl; have hr12_gy_6 : w24_.cell? ⟨gy, 6, none⟩ = some (.bool y6) := (blk_cell B_gy.out 6).trans rfl; have hr12_gy_7 : w24_.cell? ⟨gy, 7, none⟩ = some (.slice yA yl.length yc) := (blk_cell B_gy.out 7).trans rfl; have hr12_gy_8 : w24_.cell? ⟨gy, 8, none⟩ = some (.int .i64 y8) := (blk_cell B_gy.out 8).trans rfl; have hr12_gy_9 : w24_.cell? ⟨gy, 9, none⟩ = some (.int .i64 y9) := (blk_cell B_gy.out 9).trans rfl; have hr12_gy_10 : w24_.cell? ⟨gy, 10, none⟩ = some (.int .i64 y10) := (blk_cell B_gy.out 10).trans rfl) | (go_at_call 9; (with_reducible refine (clepsydralaw21_long.calls s0 s1 s2 s3 s4 s5 s6 sA sc sl s8 s9 s10 y0 y1 y2 y3 y4 y5 y6 yA yc yl y8 y9 y10 false _ (Kd.C_below HRs.out HB.out) HCs.out (Kd.C_below HRy.out HB.out) HCy.out HLG.out).mono ?_); rintro e w25_ ⟨rfl, hb⟩; have n0_ := Aside0.mk (blk_below B_gp.out hb); have n1_ := Aside0.mk (blk_below B_gs.out hb); have n2_ := Aside0.mk (blk_below B_gy.out hb); have n3_ := Aside0.mk (below_step HB.out hb); clear B_gp B_gs B_gy HB; have B_gp := n0_; have B_gs := n1_; have B_gy := n2_; have HB := n3_; clear n0_ n1_ n2_ n3_; clear hb; have hr13_gp_4 : w25_.cell? ⟨gp, 4, none⟩ = some (.int .i64 p4) := (blk_cell B_gp.out 4).trans rfl; have hr13_gp_9 : w25_.cell? ⟨gp, 9, none⟩ = some (.int .i64 p9) := (blk_cell B_gp.out 9).trans rfl; have hr13_gy_4 : w25_.cell? ⟨gy, 4, none⟩ = some (.int .i64 y4) := (blk_cell B_gy.out 4).trans rfl))
         clear hc_gp_0 hc_gp_1 hc_gp_2 hc_gp_3 hc_gp_4 hc_gp_5 hc_gp_6 hc_gp_7 hc_gp_8 hc_gp_9 hc_gp_10 hc_gp_11 hr12_gs_0 hr12_gs_1 hr12_gs_2 hr12_gs_3 hr12_gs_4 hr12_gs_5 hr12_gs_6 hr12_gs_7 hr12_gs_8 hr12_gs_9 hr12_gs_10 hr12_gy_0 hr12_gy_1 hr12_gy_2 hr12_gy_3 hr12_gy_4 hr12_gy_5 hr12_gy_6 hr12_gy_7 hr12_gy_8 hr12_gy_9 hr12_gy_10 hr13_gp_4 hr13_gp_9 hr13_gy_4
         go_ret
         exact ⟨rfl, HB.out⟩
        ·rw [if_neg c23_] at h
         have c23_d : decide (y4 > p9) = false := decide_eq_false c23_
         have c23_e : decide (p9 < y4) = false := decide_eq_false c23_
         clear c23_
         obtain ⟨fr, hfr, h⟩ := Option.bind_eq_some_iff.mp h
         obtain ⟨hh, hhh, h⟩ := Option.bind_eq_some_iff.mp h
         have HFR := Aside0.mk hfr
         have HHH := Aside0.mk hhh
         clear hfr hhh
         have hc_gp_0 : w4_.cell? ⟨gp, 0, none⟩ = some (.int .i64 p0) := (blk_cell B_gp.out 0).trans rfl
         have hc_gp_1 : w4_.cell? ⟨gp, 1, none⟩ = some (.int .i64 p1) := (blk_cell B_gp.out 1).trans rfl
         have hc_gp_2 : w4_.cell? ⟨gp, 2, none⟩ = some (.int .i64 p2) := (blk_cell B_gp.out 2).trans rfl
         have hc_gp_3 : w4_.cell? ⟨gp, 3, none⟩ = some (.int .i64 p3) := (blk_cell B_gp.out 3).trans rfl
         have hc_gp_4 : w4_.cell? ⟨gp, 4, none⟩ = some (.int .i64 p4) := (blk_cell B_gp.out 4).trans rfl
         have hc_gp_5 : w4_.cell? ⟨gp, 5, none⟩ = some (.int .i64 p5) := (blk_cell B_gp.out 5).trans rfl
         have hc_gp_6 : w4_.cell? ⟨gp, 6, none⟩ = some (.int .i64 p6) := (blk_cell B_gp.out 6).trans rfl
         have hc_gp_7 : w4_.cell? ⟨gp, 7, none⟩ = some (.int .i64 p7) := (blk_cell B_gp.out 7).trans rfl
         have hc_gp_8 : w4_.cell? ⟨gp, 8, none⟩ = some (.int .i64 p8) := (blk_cell B_gp.out 8).trans rfl
         have hc_gp_9 : w4_.cell? ⟨gp, 9, none⟩ = some (.int .i64 p9) := (blk_cell B_gp.out 9).trans rfl
         have hc_gp_10 : w4_.cell? ⟨gp, 10, none⟩ = some (.int .i64 p10) := (blk_cell B_gp.out 10).trans rfl
         have hc_gp_11 : w4_.cell? ⟨gp, 11, none⟩ = some (.int .i64 p11) := (blk_cell B_gp.out 11).trans rfl
         go_upto_region 5 with (first | (go_at_call 19; (with_reducible refine (limit_Check.calls k p0 p1 p2 p3 p4 p5 p6 p7 p8 p9 p10 p11 0 _ HCK.out).mono ?_); rintro e w26_ ⟨rfl, hb⟩; have n0_ := Aside0.mk (blk_below B_gp.out hb); have n1_ := Aside0.mk (blk_below B_gs.out hb); have n2_ := Aside0.mk (blk_below B_gy.out hb); have n3_ := Aside0.mk (below_step HB.out hb); clear B_gp B_gs B_gy HB; have B_gp := n0_; have B_gs := n1_; have B_gy := n2_; have HB := n3_; clear n0_ n1_ n2_ n3_; clear hb; have hr14_gs_0 : w26_.cell? ⟨gs, 0, none⟩ = some (.int .i64 s0) := (blk_cell B_gs.out 0).trans rfl; have hr14_gs_1 : w26_.cell? ⟨gs, 1, none⟩ = some (.int .i64 s1) := (blk_cell B_gs.out 1).trans rfl; have hr14_gs_2 : w26_.cell? ⟨gs, 2, none⟩ = some (.int .i64 s2) := (blk_cell B_gs.out 2).trans rfl; have hr14_gs_3 : w26_.cell? ⟨gs, 3, none⟩ = some (.bool s3) := (blk_cell B_gs.out 3).trans rfl; have hr14_gs_4 : w26_.cell? ⟨gs, 4, none⟩ = some (.int .i64 s4) := (blk_cell B_gs.out 4).trans rfl; have hr14_gs_5 : w26_.cell? ⟨gs, 5, none⟩ = some (.int .i64 s5) := (blk_cell B_gs.out 5).trans rfl; have hr14_gs_6 : w26_.cell? ⟨gs, 6, none⟩ = some (.bool s6) := (blk_cell B_gs.out 6).trans rfl; have hr14_gs_7 : w26_.cell? ⟨gs, 7, none⟩ = some (.slice sA sl.length sc) := (blk_cell B_gs.out 7).trans rfl; have hr14_gs_8 : w26_.cell? ⟨gs, 8, none⟩ = some (.int .i64 s8) := (blk_cell B_gs.out 8).trans rfl; have hr14_gs_9 : w26_.cell? ⟨gs, 9, none⟩ = some (.int .i64 s9) := (blk_cell B_gs.out 9).trans rfl; have hr14_gs_10 : w26_.cell? ⟨gs, 10, none⟩ = some (.int .i64 s10) := (blk_cell B_gs.out 10).trans rfl; have hr14_gy_0 : w26_.cell? ⟨gy, 0, none⟩ = some (.int .i64 y0) := (blk_cell B_gy.out 0).trans rfl; have hr14_gy_1 : w26_.cell? ⟨gy, 1, none⟩ = some (.int .i64 y1) := (blk_cell B_gy.out 1).trans rfl; have hr14_gy_2 : w26_.cell? ⟨gy, 2, none⟩ = some (.int .i64 y2) := (blk_cell B_gy.out 2).trans rfl; have hr14_gy_3 : w26_.cell? ⟨gy, 3, none⟩ = some (.bool y3) := (blk_cell B_gy.out 3).trans rfl; have hr14_gy_4 : w26_.cell? ⟨gy, 4, none⟩ = some (.int .i64 y4) := (blk_cell B_gy.out 4).trans rfl; have hr14_gy_5 : w26_.cell? ⟨gy, 5, none⟩ = some (.int .i64 y5) := (blk_cell B_gy.out 5).trans rfl; have hr14_gy_6 : w26_.cell? ⟨gy, 6, none⟩ = some (.bool y6) := (blk_cell B_gy.out 6).trans rfl; have hr14_gy_7 : w26_.cell? ⟨gy, 7, none⟩ = some (.slice yA yl.length yc) := (blk_cell B_gy.out 7).trans rfl; have hr14_gy_8 : w26_.cell? ⟨gy, 8, none⟩ = some (.int .i64 y8) := (blk_cell B_gy.out 8).trans rfl; have hr14_gy_9 : w26_.cell? ⟨gy, 9, none⟩ = some (.int .i64 y9) := (blk_cell B_gy.out 9).trans rfl; have hr14_gy_10 : w26_.cell? ⟨gy, 10, none⟩ = some (.int .i64 y10) := (blk_cell B_gy.out 10).trans rfl) | (go_at_call 9; (with_reducible refine (clepsydralaw21_long.calls s0 s1 s2 s3 s4 s5 s6 sA sc sl s8 s9 s10 y0 y1 y2 y3 y4 y5 y6 yA yc yl y8 y9 y10 false _ (Kd.C_below HRs.out HB.out) HCs.out (Kd.C_below HRy.out HB.out) HCy.out HLG.out).mono ?_); rintro e w27_ ⟨rfl, hb⟩; have n0_ := Aside0.mk (blk_below B_gp.out hb); have n1_ := Aside0.mk (blk_below B_gs.out hb); have n2_ := Aside0.mk (blk_below B_gy.out hb); have n3_ := Aside0.mk (below_step HB.out hb); clear B_gp B_gs B_gy HB; have B_gp := n0_; have B_gs := n1_; have B_gy := n2_; have HB := n3_; clear n0_ n1_ n2_ n3_; clear hb; have hr15_gp_4 : w27_.cell? ⟨gp, 4, none⟩ = some (.int .i64 p4) := (blk_cell B_gp.out 4).trans rfl; have hr15_gp_9 : w27_.cell? ⟨gp, 9, none⟩ = some (.int .i64 p9) := (blk_cell B_gp.out 9).trans rfl; have hr15_gy_4 : w27_.cell? ⟨gy, 4, none⟩ = some (.int .i64 y4) := (blk_cell B_gy.out 4).trans rfl))
         clear hc_gp_0 hc_gp_1 hc_gp_2 hc_gp_3 hc_gp_4 hc_gp_5 hc_gp_6 hc_gp_7 hc_gp_8 hc_gp_9 hc_gp_10 hc_gp_11 hr14_gs_0 hr14_gs_1 hr14_gs_2 hr14_gs_3 hr14_gs_4 hr14_gs_5 hr14_gs_6 hr14_gs_7 hr14_gs_8 hr14_gs_9 hr14_gs_10 hr14_gy_0 hr14_gy_1 hr14_gy_2 hr14_gy_3 hr14_gy_4 hr14_gy_5 hr14_gy_6 hr14_gy_7 hr14_gy_8 hr14_gy_9 hr14_gy_10 hr15_gp_4 hr15_gp_9 hr15_gy_4
         have hc_gp_0 : w27_.cell? ⟨gp, 0, none⟩ = some (.int .i64 p0) := (blk_cell B_gp.out 0).trans rfl
         have hc_gp_1 : w27_.cell? ⟨gp, 1, none⟩ = some (.int .i64 p1) := (blk_cell B_gp.out 1).trans rfl
         have hc_gp_2 : w27_.cell? ⟨gp, 2, none⟩ = some (.int .i64 p2) := (blk_cell B_gp.out 2).trans rfl
         have hc_gp_3 : w27_.cell? ⟨gp, 3, none⟩ = some (.int .i64 p3) := (blk_cell B_gp.out 3).trans rfl
         have hc_gp_4 : w27_.cell? ⟨gp, 4, none⟩ = some (.int .i64 p4) := (blk_cell B_gp.out 4).trans rfl
         have hc_gp_5 : w27_.cell? ⟨gp, 5, none⟩ = some (.int .i64 p5) := (blk_cell B_gp.out 5).trans rfl
         have hc_gp_6 : w27_.cell? ⟨gp, 6, none⟩ = some (.int .i64 p6) := (blk_cell B_gp.out 6).trans rfl
         have hc_gp_7 : w27_.cell? ⟨gp, 7, none⟩ = some (.int .i64 p7) := (blk_cell B_gp.out 7).trans rfl
         have hc_gp_8 : w27_.cell? ⟨gp, 8, none⟩ = some (.int .i64 p8) := (blk_cell B_gp.out 8).trans rfl
         have hc_gp_9 : w27_.cell? ⟨gp, 9, none⟩ = some (.int .i64 p9) := (blk_cell B_gp.out 9).trans rfl
         have hc_gp_10 : w27_.cell? ⟨gp, 10, none⟩ = some (.int .i64 p10) := (blk_cell B_gp.out 10).trans rfl
         have hc_gp_11 : w27_.cell? ⟨gp, 11, none⟩ = some (.int .i64 p11) := (blk_cell B_gp.out 11).trans rfl
         go_upto_region 6 with ((go_at_call 15; (with_reducible refine (health_Far.calls k p0 p1 p2 p3 p4 p5 p6 p7 p8 p9 p10 p11 p9 fr _ HFR.out).mono ?_); rintro e w28_ ⟨rfl, hb⟩; have n0_ := Aside0.mk (blk_below B_gp.out hb); have n1_ := Aside0.mk (blk_below B_gs.out hb); have n2_ := Aside0.mk (blk_below B_gy.out hb); have n3_ := Aside0.mk (below_step HB.out hb); clear B_gp B_gs B_gy HB; have B_gp := n0_; have B_gs := n1_; have B_gy := n2_; have HB := n3_; clear n0_ n1_ n2_ n3_; clear hb))
         clear hc_gp_0 hc_gp_1 hc_gp_2 hc_gp_3 hc_gp_4 hc_gp_5 hc_gp_6 hc_gp_7 hc_gp_8 hc_gp_9 hc_gp_10 hc_gp_11
         have hc_gp_3 : w28_.cell? ⟨gp, 3, none⟩ = some (.int .i64 p3) := (blk_cell B_gp.out 3).trans rfl
         go_upto_region 7 with (fail)
         clear hc_gp_3
         by_cases hz2 : hh = 0
         ·subst hz2
          have hc_gp_0 : w28_.cell? ⟨gp, 0, none⟩ = some (.int .i64 p0) := (blk_cell B_gp.out 0).trans rfl
          have hc_gp_1 : w28_.cell? ⟨gp, 1, none⟩ = some (.int .i64 p1) := (blk_cell B_gp.out 1).trans rfl
          have hc_gp_2 : w28_.cell? ⟨gp, 2, none⟩ = some (.int .i64 p2) := (blk_cell B_gp.out 2).trans rfl
          have hc_gp_3 : w28_.cell? ⟨gp, 3, none⟩ = some (.int .i64 p3) := (blk_cell B_gp.out 3).trans rfl
          have hc_gp_4 : w28_.cell? ⟨gp, 4, none⟩ = some (.int .i64 p4) := (blk_cell B_gp.out 4).trans rfl
          have hc_gp_5 : w28_.cell? ⟨gp, 5, none⟩ = some (.int .i64 p5) := (blk_cell B_gp.out 5).trans rfl
          have hc_gp_6 : w28_.cell? ⟨gp, 6, none⟩ = some (.int .i64 p6) := (blk_cell B_gp.out 6).trans rfl
          have hc_gp_7 : w28_.cell? ⟨gp, 7, none⟩ = some (.int .i64 p7) := (blk_cell B_gp.out 7).trans rfl
          have hc_gp_8 : w28_.cell? ⟨gp, 8, none⟩ = some (.int .i64 p8) := (blk_cell B_gp.out 8).trans rfl
          have hc_gp_9 : w28_.cell? ⟨gp, 9, none⟩ = some (.int .i64 p9) := (blk_cell B_gp.out 9).trans rfl
          have hc_gp_10 : w28_.cell? ⟨gp, 10, none⟩ = some (.int .i64 p10) := (blk_cell B_gp.out 10).trans rfl
          have hc_gp_11 : w28_.cell? ⟨gp, 11, none⟩ = some (.int .i64 p11) := (blk_cell B_gp.out 11).trans rfl
          have hc_gs_0 : w28_.cell? ⟨gs, 0, none⟩ = some (.int .i64 s0) := (blk_cell B_gs.out 0).trans rfl
          have hc_gs_1 : w28_.cell? ⟨gs, 1, none⟩ = some (.int .i64 s1) := (blk_cell B_gs.out 1).trans rfl
          have hc_gs_2 : w28_.cell? ⟨gs, 2, none⟩ = some (.int .i64 s2) := (blk_cell B_gs.out 2).trans rfl
          have hc_gs_3 : w28_.cell? ⟨gs, 3, none⟩ = some (.bool s3) := (blk_cell B_gs.out 3).trans rfl
          have hc_gs_4 : w28_.cell? ⟨gs, 4, none⟩ = some (.int .i64 s4) := (blk_cell B_gs.out 4).trans rfl
          have hc_gs_5 : w28_.cell? ⟨gs, 5, none⟩ = some (.int .i64 s5) := (blk_cell B_gs.out 5).trans rfl
          have hc_gs_6 : w28_.cell? ⟨gs, 6, none⟩ = some (.bool s6) := (blk_cell B_gs.out 6).trans rfl
          have hc_gs_7 : w28_.cell? ⟨gs, 7, none⟩ = some (.slice sA sl.length sc) := (blk_cell B_gs.out 7).trans rfl
          have hc_gs_8 : w28_.cell? ⟨gs, 8, none⟩ = some (.int .i64 s8) := (blk_cell B_gs.out 8).trans rfl
          have hc_gs_9 : w28_.cell? ⟨gs, 9, none⟩ = some (.int .i64 s9) := (blk_cell B_gs.out 9).trans rfl
          have hc_gs_10 : w28_.cell? ⟨gs, 10, none⟩ = some (.int .i64 s10) := (blk_cell B_gs.out 10).trans rfl
          go_upto_region 8 with ((go_at_call 13; (with_reducible refine (health_Of.calls k p0 p1 p2 p3 p4 p5 p6 p7 p8 p9 p10 p11 s0 s1 s2 s3 s4 s5 s6 sA sc sl s8 s9 s10 0 _ (Kd.C_below HRs.out HB.out) HCs.out HHH.out).mono ?_); rintro e w29_ ⟨rfl, hb⟩; have n0_ := Aside0.mk (blk_below B_gp.out hb); have n1_ := Aside0.mk (blk_below B_gs.out hb); have n2_ := Aside0.mk (blk_below B_gy.out hb); have n3_ := Aside0.mk (below_step HB.out hb); clear B_gp B_gs B_gy HB; have B_gp := n0_; have B_gs := n1_; have B_gy := n2_; have HB := n3_; clear n0_ n1_ n2_ n3_; clear hb))
          clear hc_gp_0 hc_gp_1 hc_gp_2 hc_gp_3 hc_gp_4 hc_gp_5 hc_gp_6 hc_gp_7 hc_gp_8 hc_gp_9 hc_gp_10 hc_gp_11 hc_gs_0 hc_gs_1 hc_gs_2 hc_gs_3 hc_gs_4 hc_gs_5 hc_gs_6 hc_gs_7 hc_gs_8 hc_gs_9 hc_gs_10
          by_cases c30_ : (Go.RowKit.wrap64 (Int.tdiv fr 2)) > 72057594037927936
          ·have c30_d : decide ((Go.RowKit.wrap64 (Int.tdiv fr 2)) > 72057594037927936) = true := decide_eq_true c30_
           have c30_e : decide (72057594037927936 < (Go.RowKit.wrap64 (Int.tdiv fr 2))) = true := decide_eq_true c30_
           clear h
           have hc_gs_2 : w29_.cell? ⟨gs, 2, none⟩ = some (.int .i64 s2) := (blk_cell B_gs.out 2).trans rfl
           have hc_gy_0 : w29_.cell? ⟨gy, 0, none⟩ = some (.int .i64 y0) := (blk_cell B_gy.out 0).trans rfl
           have hc_gy_1 : w29_.cell? ⟨gy, 1, none⟩ = some (.int .i64 y1) := (blk_cell B_gy.out 1).trans rfl
           go_wp2_with (fail)
           clear hc_gs_2 hc_gy_0 hc_gy_1
           go_ret
           exact ⟨rfl, HB.out⟩
          ·rw [if_neg c30_] at h
           have c30_d : decide ((Go.RowKit.wrap64 (Int.tdiv fr 2)) > 72057594037927936) = false := decide_eq_false c30_
           have c30_e : decide (72057594037927936 < (Go.RowKit.wrap64 (Int.tdiv fr 2))) = false := decide_eq_false c30_
           clear c30_
           first | rw [if_pos rfl] at h | rw [if_pos trivial] at h
           unfold clepsydralaw21_HealthStays.g at h
           by_cases c31_ : y0 > (Go.RowKit.wrap64 (nw + p3))
           ·have c31_d : decide (y0 > (Go.RowKit.wrap64 (nw + p3))) = true := decide_eq_true c31_
            have c31_e : decide ((Go.RowKit.wrap64 (nw + p3)) < y0) = true := decide_eq_true c31_
            clear h
            have hc_gs_2 : w29_.cell? ⟨gs, 2, none⟩ = some (.int .i64 s2) := (blk_cell B_gs.out 2).trans rfl
            have hc_gy_0 : w29_.cell? ⟨gy, 0, none⟩ = some (.int .i64 y0) := (blk_cell B_gy.out 0).trans rfl
            have hc_gy_1 : w29_.cell? ⟨gy, 1, none⟩ = some (.int .i64 y1) := (blk_cell B_gy.out 1).trans rfl
            go_wp2_with (fail)
            clear hc_gs_2 hc_gy_0 hc_gy_1
            go_ret
            exact ⟨rfl, HB.out⟩
           ·rw [if_neg c31_] at h
            have c31_d : decide (y0 > (Go.RowKit.wrap64 (nw + p3))) = false := decide_eq_false c31_
            have c31_e : decide ((Go.RowKit.wrap64 (nw + p3)) < y0) = false := decide_eq_false c31_
            clear c31_
            by_cases c32_ : y1 < (Go.RowKit.wrap64 (nw + p3))
            ·have c32_d : decide (y1 < (Go.RowKit.wrap64 (nw + p3))) = true := decide_eq_true c32_
             clear h
             have hc_gs_2 : w29_.cell? ⟨gs, 2, none⟩ = some (.int .i64 s2) := (blk_cell B_gs.out 2).trans rfl
             have hc_gy_0 : w29_.cell? ⟨gy, 0, none⟩ = some (.int .i64 y0) := (blk_cell B_gy.out 0).trans rfl
             have hc_gy_1 : w29_.cell? ⟨gy, 1, none⟩ = some (.int .i64 y1) := (blk_cell B_gy.out 1).trans rfl
             go_wp2_with (fail)
             clear hc_gs_2 hc_gy_0 hc_gy_1
             go_ret
             exact ⟨rfl, HB.out⟩
            ·rw [if_neg c32_] at h
             have c32_d : decide (y1 < (Go.RowKit.wrap64 (nw + p3))) = false := decide_eq_false c32_
             clear c32_
             by_cases c33_ : y0 < Go.RowKit.wrap64 ((Go.RowKit.wrap64 (nw + p3)) - (Go.RowKit.wrap64 (Int.tdiv fr 2)))
             ·have c33_d : decide (y0 < Go.RowKit.wrap64 ((Go.RowKit.wrap64 (nw + p3)) - (Go.RowKit.wrap64 (Int.tdiv fr 2)))) = true := decide_eq_true c33_
              clear h
              have hc_gs_2 : w29_.cell? ⟨gs, 2, none⟩ = some (.int .i64 s2) := (blk_cell B_gs.out 2).trans rfl
              have hc_gy_0 : w29_.cell? ⟨gy, 0, none⟩ = some (.int .i64 y0) := (blk_cell B_gy.out 0).trans rfl
              have hc_gy_1 : w29_.cell? ⟨gy, 1, none⟩ = some (.int .i64 y1) := (blk_cell B_gy.out 1).trans rfl
              go_wp2_with (fail)
              clear hc_gs_2 hc_gy_0 hc_gy_1
              go_ret
              exact ⟨rfl, HB.out⟩
             ·rw [if_neg c33_] at h
              have c33_d : decide (y0 < Go.RowKit.wrap64 ((Go.RowKit.wrap64 (nw + p3)) - (Go.RowKit.wrap64 (Int.tdiv fr 2)))) = false := decide_eq_false c33_
              clear c33_
              by_cases c34_ : y1 > Go.RowKit.wrap64 ((Go.RowKit.wrap64 (nw + p3)) + (Go.RowKit.wrap64 (Int.tdiv fr 2)))
              ·have c34_d : decide (y1 > Go.RowKit.wrap64 ((Go.RowKit.wrap64 (nw + p3)) + (Go.RowKit.wrap64 (Int.tdiv fr 2)))) = true := decide_eq_true c34_
               have c34_e : decide (Go.RowKit.wrap64 ((Go.RowKit.wrap64 (nw + p3)) + (Go.RowKit.wrap64 (Int.tdiv fr 2))) < y1) = true := decide_eq_true c34_
               clear h
               have hc_gs_2 : w29_.cell? ⟨gs, 2, none⟩ = some (.int .i64 s2) := (blk_cell B_gs.out 2).trans rfl
               have hc_gy_0 : w29_.cell? ⟨gy, 0, none⟩ = some (.int .i64 y0) := (blk_cell B_gy.out 0).trans rfl
               have hc_gy_1 : w29_.cell? ⟨gy, 1, none⟩ = some (.int .i64 y1) := (blk_cell B_gy.out 1).trans rfl
               go_wp2_with (fail)
               clear hc_gs_2 hc_gy_0 hc_gy_1
               go_ret
               exact ⟨rfl, HB.out⟩
              ·rw [if_neg c34_] at h
               have c34_d : decide (y1 > Go.RowKit.wrap64 ((Go.RowKit.wrap64 (nw + p3)) + (Go.RowKit.wrap64 (Int.tdiv fr 2)))) = false := decide_eq_false c34_
               have c34_e : decide (Go.RowKit.wrap64 ((Go.RowKit.wrap64 (nw + p3)) + (Go.RowKit.wrap64 (Int.tdiv fr 2))) < y1) = false := decide_eq_false c34_
               clear c34_
               by_cases c35_ : Go.RowKit.wrap64 (y1 - y0) > (Go.RowKit.wrap64 (Int.tdiv fr 2))
               ·have c35_d : decide (Go.RowKit.wrap64 (y1 - y0) > (Go.RowKit.wrap64 (Int.tdiv fr 2))) = true := decide_eq_true c35_
                have c35_e : decide ((Go.RowKit.wrap64 (Int.tdiv fr 2)) < Go.RowKit.wrap64 (y1 - y0)) = true := decide_eq_true c35_
                clear h
                have hc_gs_2 : w29_.cell? ⟨gs, 2, none⟩ = some (.int .i64 s2) := (blk_cell B_gs.out 2).trans rfl
                have hc_gy_0 : w29_.cell? ⟨gy, 0, none⟩ = some (.int .i64 y0) := (blk_cell B_gy.out 0).trans rfl
                have hc_gy_1 : w29_.cell? ⟨gy, 1, none⟩ = some (.int .i64 y1) := (blk_cell B_gy.out 1).trans rfl
                go_wp2_with (fail)
                clear hc_gs_2 hc_gy_0 hc_gy_1
                go_ret
                exact ⟨rfl, HB.out⟩
               ·rw [if_neg c35_] at h
                have c35_d : decide (Go.RowKit.wrap64 (y1 - y0) > (Go.RowKit.wrap64 (Int.tdiv fr 2))) = false := decide_eq_false c35_
                have c35_e : decide ((Go.RowKit.wrap64 (Int.tdiv fr 2)) < Go.RowKit.wrap64 (y1 - y0)) = false := decide_eq_false c35_
                clear c35_
                obtain ⟨⟨r0, r1, r2, r3, r4, r5, r6, ml, r8, r9, r10⟩, hst, h⟩ := Option.bind_eq_some_iff.mp h
                split at h
                case isFalse => cases h
                next hq =>
                 obtain ⟨hq1, hq2, hq3⟩ := hq
                 clear h
                 dsimp only at hq1 hq2 hq3
                 have HST := Aside0.mk hst
                 clear hst
                 have f1 : decide (r2 > Go.RowKit.wrap64 ((Go.RowKit.wrap64 (nw + p3)) + (Go.RowKit.wrap64 (Int.tdiv fr 2)))) = false := decide_eq_false hq1
                 have f2 : decide (Go.RowKit.wrap64 ((Go.RowKit.wrap64 (nw + p3)) + (Go.RowKit.wrap64 (Int.tdiv fr 2))) < r2) = false := decide_eq_false hq1
                 have f3 : decide (r2 < Go.RowKit.wrap64 ((Go.RowKit.wrap64 (nw + p3)) - (Go.RowKit.wrap64 (Int.tdiv fr 2)))) = false := decide_eq_false hq2
                 have hc_gs_2 : w29_.cell? ⟨gs, 2, none⟩ = some (.int .i64 s2) := (blk_cell B_gs.out 2).trans rfl
                 have hc_gy_0 : w29_.cell? ⟨gy, 0, none⟩ = some (.int .i64 y0) := (blk_cell B_gy.out 0).trans rfl
                 have hc_gy_1 : w29_.cell? ⟨gy, 1, none⟩ = some (.int .i64 y1) := (blk_cell B_gy.out 1).trans rfl
                 go_upto_region 10 with (fail)
                 clear hc_gs_2 hc_gy_0 hc_gy_1
                 have hc_gp_0 : w29_.cell? ⟨gp, 0, none⟩ = some (.int .i64 p0) := (blk_cell B_gp.out 0).trans rfl
                 have hc_gp_1 : w29_.cell? ⟨gp, 1, none⟩ = some (.int .i64 p1) := (blk_cell B_gp.out 1).trans rfl
                 have hc_gp_2 : w29_.cell? ⟨gp, 2, none⟩ = some (.int .i64 p2) := (blk_cell B_gp.out 2).trans rfl
                 have hc_gp_3 : w29_.cell? ⟨gp, 3, none⟩ = some (.int .i64 p3) := (blk_cell B_gp.out 3).trans rfl
                 have hc_gp_4 : w29_.cell? ⟨gp, 4, none⟩ = some (.int .i64 p4) := (blk_cell B_gp.out 4).trans rfl
                 have hc_gp_5 : w29_.cell? ⟨gp, 5, none⟩ = some (.int .i64 p5) := (blk_cell B_gp.out 5).trans rfl
                 have hc_gp_6 : w29_.cell? ⟨gp, 6, none⟩ = some (.int .i64 p6) := (blk_cell B_gp.out 6).trans rfl
                 have hc_gp_7 : w29_.cell? ⟨gp, 7, none⟩ = some (.int .i64 p7) := (blk_cell B_gp.out 7).trans rfl
                 have hc_gp_8 : w29_.cell? ⟨gp, 8, none⟩ = some (.int .i64 p8) := (blk_cell B_gp.out 8).trans rfl
                 have hc_gp_9 : w29_.cell? ⟨gp, 9, none⟩ = some (.int .i64 p9) := (blk_cell B_gp.out 9).trans rfl
                 have hc_gp_10 : w29_.cell? ⟨gp, 10, none⟩ = some (.int .i64 p10) := (blk_cell B_gp.out 10).trans rfl
                 have hc_gp_11 : w29_.cell? ⟨gp, 11, none⟩ = some (.int .i64 p11) := (blk_cell B_gp.out 11).trans rfl
                 have hc_gs_0 : w29_.cell? ⟨gs, 0, none⟩ = some (.int .i64 s0) := (blk_cell B_gs.out 0).trans rfl
                 have hc_gs_1 : w29_.cell? ⟨gs, 1, none⟩ = some (.int .i64 s1) := (blk_cell B_gs.out 1).trans rfl
                 have hc_gs_2 : w29_.cell? ⟨gs, 2, none⟩ = some (.int .i64 s2) := (blk_cell B_gs.out 2).trans rfl
                 have hc_gs_3 : w29_.cell? ⟨gs, 3, none⟩ = some (.bool s3) := (blk_cell B_gs.out 3).trans rfl
                 have hc_gs_4 : w29_.cell? ⟨gs, 4, none⟩ = some (.int .i64 s4) := (blk_cell B_gs.out 4).trans rfl
                 have hc_gs_5 : w29_.cell? ⟨gs, 5, none⟩ = some (.int .i64 s5) := (blk_cell B_gs.out 5).trans rfl
                 have hc_gs_6 : w29_.cell? ⟨gs, 6, none⟩ = some (.bool s6) := (blk_cell B_gs.out 6).trans rfl
                 have hc_gs_7 : w29_.cell? ⟨gs, 7, none⟩ = some (.slice sA sl.length sc) := (blk_cell B_gs.out 7).trans rfl
                 have hc_gs_8 : w29_.cell? ⟨gs, 8, none⟩ = some (.int .i64 s8) := (blk_cell B_gs.out 8).trans rfl
                 have hc_gs_9 : w29_.cell? ⟨gs, 9, none⟩ = some (.int .i64 s9) := (blk_cell B_gs.out 9).trans rfl
                 have hc_gs_10 : w29_.cell? ⟨gs, 10, none⟩ = some (.int .i64 s10) := (blk_cell B_gs.out 10).trans rfl
                 go_upto_region 11 with (((with_reducible refine gate_dst (N := 139) rfl ?_); refine box_event ?hg (N := 139) ?hd (cs := #[.int .i64 p0, .int .i64 p1, .int .i64 p2, .int .i64 p3, .int .i64 p4, .int .i64 p5, .int .i64 p6, .int .i64 p7, .int .i64 p8, .int .i64 p9, .int .i64 p10, .int .i64 p11, .int .i64 s0, .int .i64 s1, .int .i64 s2, .bool s3, .int .i64 s4, .int .i64 s5, .bool s6, .slice sA sl.length sc, .int .i64 s8, .int .i64 s9, .int .i64 s10]) (t := 39) ?hr ?_; (case hd => rfl); (case hg => rfl); (case hr => first | (go_simp; done) | (go_simp; rfl)); intro gf hg w36_ hbox hb; have N_gp_gf := nl hg B_gp.out; have N_gs_gf := nl hg B_gs.out; have N_gy_gf := nl hg B_gy.out; have N_gf_gp := ng hg B_gp.out; have N_gf_gs := ng hg B_gs.out; have N_gf_gy := ng hg B_gy.out; have E_gf : Aside0 (w.heap.size ≤ gf) := ⟨by rw [hg]; exact below_size HB.out⟩; have n0_ := Aside0.mk (blk_below B_gp.out hb); have n1_ := Aside0.mk (blk_below B_gs.out hb); have n2_ := Aside0.mk (blk_below B_gy.out hb); have n3_ := Aside0.mk (below_step HB.out hb); clear B_gp B_gs B_gy HB; have B_gp := n0_; have B_gs := n1_; have B_gy := n2_; have HB := n3_; clear n0_ n1_ n2_ n3_; have B_gf := Aside0.mk hbox; clear hb hbox hg))
                 clear hc_gp_0 hc_gp_1 hc_gp_2 hc_gp_3 hc_gp_4 hc_gp_5 hc_gp_6 hc_gp_7 hc_gp_8 hc_gp_9 hc_gp_10 hc_gp_11 hc_gs_0 hc_gs_1 hc_gs_2 hc_gs_3 hc_gs_4 hc_gs_5 hc_gs_6 hc_gs_7 hc_gs_8 hc_gs_9 hc_gs_10
                 have hc_gp_3 : w36_.cell? ⟨gp, 3, none⟩ = some (.int .i64 p3) := (blk_cell B_gp.out 3).trans rfl
                 have hc_gy_0 : w36_.cell? ⟨gy, 0, none⟩ = some (.int .i64 y0) := (blk_cell B_gy.out 0).trans rfl
                 have hc_gy_1 : w36_.cell? ⟨gy, 1, none⟩ = some (.int .i64 y1) := (blk_cell B_gy.out 1).trans rfl
                 have hc_gy_2 : w36_.cell? ⟨gy, 2, none⟩ = some (.int .i64 y2) := (blk_cell B_gy.out 2).trans rfl
                 have hc_gy_3 : w36_.cell? ⟨gy, 3, none⟩ = some (.bool y3) := (blk_cell B_gy.out 3).trans rfl
                 have hc_gy_4 : w36_.cell? ⟨gy, 4, none⟩ = some (.int .i64 y4) := (blk_cell B_gy.out 4).trans rfl
                 have hc_gy_5 : w36_.cell? ⟨gy, 5, none⟩ = some (.int .i64 y5) := (blk_cell B_gy.out 5).trans rfl
                 have hc_gy_6 : w36_.cell? ⟨gy, 6, none⟩ = some (.bool y6) := (blk_cell B_gy.out 6).trans rfl
                 have hc_gy_7 : w36_.cell? ⟨gy, 7, none⟩ = some (.slice yA yl.length yc) := (blk_cell B_gy.out 7).trans rfl
                 have hc_gy_8 : w36_.cell? ⟨gy, 8, none⟩ = some (.int .i64 y8) := (blk_cell B_gy.out 8).trans rfl
                 have hc_gy_9 : w36_.cell? ⟨gy, 9, none⟩ = some (.int .i64 y9) := (blk_cell B_gy.out 9).trans rfl
                 have hc_gy_10 : w36_.cell? ⟨gy, 10, none⟩ = some (.int .i64 y10) := (blk_cell B_gy.out 10).trans rfl
                 go_upto_region 12 with ((go_at_call 17; (with_reducible refine (health_Front_Step.does k gf p0 p1 p2 p3 p4 p5 p6 p7 p8 p9 p10 p11 s0 s1 s2 s3 s4 s5 s6 sA sc sl s8 s9 s10 (Go.RowKit.wrap64 (p3 + er)) y0 y1 y2 y3 y4 y5 y6 yA yc yl y8 y9 y10 r0 r1 r2 r3 r4 r5 r6 ml r8 r9 r10 _ (Kd.C_below HRs.out HB.out) HCs.out (Kd.C_below HRy.out HB.out) HCy.out B_gf.out HST.out).mono ?_); rintro e w37_ ⟨mA, mc, rfl, hg, hn, ho⟩; have R_m := Aside0.mk (Kd.R_lower ho (below_size HB.out)); have n0_ := Aside0.mk (blk_grown B_gp.out hg (fun e_ => N_gp_gf.out (Option.some.inj e_))); have n1_ := Aside0.mk (blk_grown B_gs.out hg (fun e_ => N_gs_gf.out (Option.some.inj e_))); have n2_ := Aside0.mk (blk_grown B_gy.out hg (fun e_ => N_gy_gf.out (Option.some.inj e_))); have n3_ := Aside0.mk (hn); have n4_ := Aside0.mk (pw_below_grown HB.out (some gf) (below_size HB.out) hg (fun k_ e_ => by cases e_; exact E_gf.out)); clear B_gp B_gs B_gy B_gf HB; have B_gp := n0_; have B_gs := n1_; have B_gy := n2_; have B_gf := n3_; have HB := n4_; clear n0_ n1_ n2_ n3_ n4_; clear hg hn ho))
                 clear hc_gp_3 hc_gy_0 hc_gy_1 hc_gy_2 hc_gy_3 hc_gy_4 hc_gy_5 hc_gy_6 hc_gy_7 hc_gy_8 hc_gy_9 hc_gy_10
                 have hc_gf_14 : w37_.cell? ⟨gf, 14, none⟩ = some (.int .i64 r2) := (blk_cell B_gf.out 14).trans rfl
                 go_upto_region 14 with (fail)
                 clear hc_gf_14
                 have n0_ := Aside0.mk (blk_drew B_gp.out)
                 have n1_ := Aside0.mk (blk_drew B_gs.out)
                 have n2_ := Aside0.mk (blk_drew B_gy.out)
                 have n3_ := Aside0.mk (blk_drew B_gf.out)
                 have n4_ := Aside0.mk (Kd.R_drew R_m.out)
                 have n5_ := Aside0.mk (below_drew1 HB.out)
                 clear B_gp B_gs B_gy B_gf R_m HB
                 have B_gp := n0_
                 have B_gs := n1_
                 have B_gy := n2_
                 have B_gf := n3_
                 have R_m := n4_
                 have HB := n5_
                 clear n0_ n1_ n2_ n3_ n4_ n5_
                 refine start_ (n := 14) (S := fun w' => w'.heap[gf]? = some (.cells #[.int .i64 p0, .int .i64 p1, .int .i64 p2, .int .i64 p3, .int .i64 p4, .int .i64 p5, .int .i64 p6, .int .i64 p7, .int .i64 p8, .int .i64 p9, .int .i64 p10, .int .i64 p11, .int .i64 r0, .int .i64 r1, .int .i64 r2, .bool r3, .int .i64 r4, .int .i64 r5, .bool r6, .slice mA ml.length mc, .int .i64 r8, .int .i64 r9, .int .i64 r10] 39 (0, 0)) ∧ w'.heap[gs]? = some (.cells #[.int .i64 s0, .int .i64 s1, .int .i64 s2, .bool s3, .int .i64 s4, .int .i64 s5, .bool s6, .slice sA sl.length sc, .int .i64 s8, .int .i64 s9, .int .i64 s10] 30 (0, 0)) ∧ w'.heap[gp]? = some (.cells #[.int .i64 p0, .int .i64 p1, .int .i64 p2, .int .i64 p3, .int .i64 p4, .int .i64 p5, .int .i64 p6, .int .i64 p7, .int .i64 p8, .int .i64 p9, .int .i64 p10, .int .i64 p11] 23 (0, 0))) (ds := []) (bs 14 0) (by kernel_rfl) rfl (by rfl) ⟨B_gf.out, B_gs.out, B_gp.out⟩ (fun hHeld => ?_)
                 generalize w37_.drew = w38_ at B_gp B_gs B_gy B_gf R_m HB hHeld ⊢
                 refine pure_ (i := 0) (N := some 167) (v := ?_) (a' := ?_) (bs 14 1) rfl rfl (by kernel_rfl) (fun _ _ _ h => h) (Or.inl ⟨by rfl, ?_⟩) ?_ ?_
                 rotate_left
                 ·intro w'
                  go_simp
                  with_reducible rfl
                 rotate_left
                 ·simp only [Act.put, List.setIfInBounds_toArray, List.set_cons_zero, List.set_cons_succ, i64_w, i32_w]
                  rfl
                 refine pure_ (i := 1) (N := some 168) (v := ?_) (a' := ?_) (bs 14 3) rfl rfl (by kernel_rfl) (fun _ _ _ h => h) (Or.inl ⟨by rfl, ?_⟩) ?_ ?_
                 rotate_left
                 ·intro w'
                  go_simp
                  with_reducible rfl
                 rotate_left
                 ·simp only [Act.put, List.setIfInBounds_toArray, List.set_cons_zero, List.set_cons_succ, i64_w, i32_w]
                  rfl
                 refine pure_ (i := 2) (N := some 169) (v := ?_) (a' := ?_) (bs 14 7) rfl rfl (by kernel_rfl) (fun _ _ _ h => h) (Or.inl ⟨by rfl, ?_⟩) ?_ ?_
                 rotate_left
                 ·intro w'
                  go_simp
                  with_reducible rfl
                 rotate_left
                 ·simp only [Act.put, List.setIfInBounds_toArray, List.set_cons_zero, List.set_cons_succ, i64_w, i32_w]
                  rfl
                 refine pure_ (i := 3) (N := some 170) (v := ?_) (a' := ?_) (bs 14 15) rfl rfl (by kernel_rfl) (fun _ _ _ h => h) (Or.inl ⟨by rfl, ?_⟩) ?_ ?_
                 rotate_left
                 ·intro w'
                  go_simp
                  with_reducible rfl
                 rotate_left
                 ·simp only [Act.put, List.setIfInBounds_toArray, List.set_cons_zero, List.set_cons_succ, i64_w, i32_w]
                  rfl
                 refine pure_ (i := 5) (N := some 172) (v := ?_) (a' := ?_) (bs 14 47) rfl rfl (by kernel_rfl) (fun _ _ _ h => h) (Or.inl ⟨by rfl, ?_⟩) ?_ ?_
                 rotate_left
                 ·intro w'
                  go_simp
                  with_reducible rfl
                 rotate_left
                 ·simp only [Act.put, List.setIfInBounds_toArray, List.set_cons_zero, List.set_cons_succ, i64_w, i32_w]
                  rfl
                 refine pure_ (i := 8) (N := some 175) (v := ?_) (a' := ?_) (bs 14 303) rfl rfl (by kernel_rfl) (fun _ _ _ h => h) (Or.inl ⟨by rfl, ?_⟩) ?_ ?_
                 rotate_left
                 ·intro w'
                  go_simp
                  with_reducible rfl
                 rotate_left
                 ·simp only [Act.put, List.setIfInBounds_toArray, List.set_cons_zero, List.set_cons_succ, i64_w, i32_w]
                  rfl
                 refine pure_ (i := 11) (N := some 178) (v := ?_) (a' := ?_) (bs 14 2351) rfl rfl (by kernel_rfl) (fun _ _ _ h => h) (Or.inl ⟨by rfl, ?_⟩) ?_ ?_
                 rotate_left
                 ·intro w'
                  go_simp
                  with_reducible rfl
                 rotate_left
                 ·simp only [Act.put, List.setIfInBounds_toArray, List.set_cons_zero, List.set_cons_succ, i64_w, i32_w]
                  rfl
                 refine take_ (i := 4) (N := some 171) (v := ?_) (a' := ?_) (bs 14 2367) rfl rfl (by kernel_rfl) (fun _ _ _ h => h) (Or.inl ⟨by rfl, ?_⟩) hHeld ?_ ?_
                 rotate_left
                 ·rintro w' ⟨s_gf, s_gs, s_gp⟩
                  have c_14 : w'.cell? ⟨gf, 14, none⟩ = some (.int .i64 r2) := (blk_cell s_gf 14).trans rfl
                  clear s_gf s_gs s_gp
                  go_simp
                  with_reducible rfl
                 rotate_left
                 ·simp only [Act.put, List.setIfInBounds_toArray, List.set_cons_zero, List.set_cons_succ, i64_w, i32_w]
                  rfl
                 refine take_ (i := 6) (N := some 173) (v := ?_) (a' := ?_) (bs 14 2431) rfl rfl (by kernel_rfl) (fun _ _ _ h => h) (Or.inl ⟨by rfl, ?_⟩) hHeld ?_ ?_
                 rotate_left
                 ·rintro w' ⟨s_gf, s_gs, s_gp⟩
                  have c_2 : w'.cell? ⟨gs, 2, none⟩ = some (.int .i64 s2) := (blk_cell s_gs 2).trans rfl
                  clear s_gf s_gs s_gp
                  go_simp
                  with_reducible rfl
                 rotate_left
                 ·simp only [Act.put, List.setIfInBounds_toArray, List.set_cons_zero, List.set_cons_succ, i64_w, i32_w]
                  rfl
                 refine pure_ (i := 7) (N := some 174) (v := ?_) (a' := ?_) (bs 14 2559) rfl rfl (by kernel_rfl) (fun _ _ _ h => h) (Or.inl ⟨by rfl, ?_⟩) ?_ ?_
                 rotate_left
                 ·intro w'
                  go_simp
                  with_reducible rfl
                 rotate_left
                 ·simp only [Act.put, List.setIfInBounds_toArray, List.set_cons_zero, List.set_cons_succ, i64_w, i32_w]
                  rfl
                 refine take_ (i := 9) (N := some 176) (v := ?_) (a' := ?_) (bs 14 3071) rfl rfl (by kernel_rfl) (fun _ _ _ h => h) (Or.inl ⟨by rfl, ?_⟩) hHeld ?_ ?_
                 rotate_left
                 ·rintro w' ⟨s_gf, s_gs, s_gp⟩
                  have c_3 : w'.cell? ⟨gp, 3, none⟩ = some (.int .i64 p3) := (blk_cell s_gp 3).trans rfl
                  clear s_gf s_gs s_gp
                  go_simp
                  with_reducible rfl
                 rotate_left
                 ·simp only [Act.put, List.setIfInBounds_toArray, List.set_cons_zero, List.set_cons_succ, i64_w, i32_w]
                  rfl
                 refine pure_ (i := 10) (N := some 177) (v := ?_) (a' := ?_) (bs 14 4095) rfl rfl (by kernel_rfl) (fun _ _ _ h => h) (Or.inl ⟨by rfl, ?_⟩) ?_ ?_
                 rotate_left
                 ·intro w'
                  go_simp
                  with_reducible rfl
                 rotate_left
                 ·simp only [Act.put, List.setIfInBounds_toArray, List.set_cons_zero, List.set_cons_succ, i64_w, i32_w]
                  rfl
                 refine pure_ (i := 12) (N := some 179) (v := ?_) (a' := ?_) (bs 14 8191) rfl rfl (by kernel_rfl) (fun _ _ _ h => h) (Or.inl ⟨by rfl, ?_⟩) ?_ ?_
                 rotate_left
                 ·intro w'
                  go_simp
                  with_reducible rfl
                 rotate_left
                 ·simp only [Act.put, List.setIfInBounds_toArray, List.set_cons_zero, List.set_cons_succ, i64_w, i32_w]
                  rfl
                 refine pure_ (i := 13) (N := some 15) (v := ?_) (a' := ?_) (bs 14 16383) rfl rfl (by kernel_rfl) (fun _ _ _ h => h) (Or.inl ⟨by rfl, ?_⟩) ?_ ?_
                 rotate_left
                 ·intro w'
                  go_simp
                  with_reducible rfl
                 rotate_left
                 ·simp only [Act.put, List.setIfInBounds_toArray, List.set_cons_zero, List.set_cons_succ, i64_w, i32_w]
                  rfl
                 refine done_ (by kernel_rfl) ?_
                 go_upto_region 15 with (fail)
                 have hc_gp_8 : w38_.cell? ⟨gp, 8, none⟩ = some (.int .i64 p8) := (blk_cell B_gp.out 8).trans rfl
                 go_wp2_with (fail)
                 clear hc_gp_8
                 go_ret
                 exact ⟨rfl, HB.out⟩
         ·have hz3 : decide (hh = 0) = false := decide_eq_false hz2
          have hc_gp_0 : w28_.cell? ⟨gp, 0, none⟩ = some (.int .i64 p0) := (blk_cell B_gp.out 0).trans rfl
          have hc_gp_1 : w28_.cell? ⟨gp, 1, none⟩ = some (.int .i64 p1) := (blk_cell B_gp.out 1).trans rfl
          have hc_gp_2 : w28_.cell? ⟨gp, 2, none⟩ = some (.int .i64 p2) := (blk_cell B_gp.out 2).trans rfl
          have hc_gp_3 : w28_.cell? ⟨gp, 3, none⟩ = some (.int .i64 p3) := (blk_cell B_gp.out 3).trans rfl
          have hc_gp_4 : w28_.cell? ⟨gp, 4, none⟩ = some (.int .i64 p4) := (blk_cell B_gp.out 4).trans rfl
          have hc_gp_5 : w28_.cell? ⟨gp, 5, none⟩ = some (.int .i64 p5) := (blk_cell B_gp.out 5).trans rfl
          have hc_gp_6 : w28_.cell? ⟨gp, 6, none⟩ = some (.int .i64 p6) := (blk_cell B_gp.out 6).trans rfl
          have hc_gp_7 : w28_.cell? ⟨gp, 7, none⟩ = some (.int .i64 p7) := (blk_cell B_gp.out 7).trans rfl
          have hc_gp_8 : w28_.cell? ⟨gp, 8, none⟩ = some (.int .i64 p8) := (blk_cell B_gp.out 8).trans rfl
          have hc_gp_9 : w28_.cell? ⟨gp, 9, none⟩ = some (.int .i64 p9) := (blk_cell B_gp.out 9).trans rfl
          have hc_gp_10 : w28_.cell? ⟨gp, 10, none⟩ = some (.int .i64 p10) := (blk_cell B_gp.out 10).trans rfl
          have hc_gp_11 : w28_.cell? ⟨gp, 11, none⟩ = some (.int .i64 p11) := (blk_cell B_gp.out 11).trans rfl
          have hc_gs_0 : w28_.cell? ⟨gs, 0, none⟩ = some (.int .i64 s0) := (blk_cell B_gs.out 0).trans rfl
          have hc_gs_1 : w28_.cell? ⟨gs, 1, none⟩ = some (.int .i64 s1) := (blk_cell B_gs.out 1).trans rfl
          have hc_gs_2 : w28_.cell? ⟨gs, 2, none⟩ = some (.int .i64 s2) := (blk_cell B_gs.out 2).trans rfl
          have hc_gs_3 : w28_.cell? ⟨gs, 3, none⟩ = some (.bool s3) := (blk_cell B_gs.out 3).trans rfl
          have hc_gs_4 : w28_.cell? ⟨gs, 4, none⟩ = some (.int .i64 s4) := (blk_cell B_gs.out 4).trans rfl
          have hc_gs_5 : w28_.cell? ⟨gs, 5, none⟩ = some (.int .i64 s5) := (blk_cell B_gs.out 5).trans rfl
          have hc_gs_6 : w28_.cell? ⟨gs, 6, none⟩ = some (.bool s6) := (blk_cell B_gs.out 6).trans rfl
          have hc_gs_7 : w28_.cell? ⟨gs, 7, none⟩ = some (.slice sA sl.length sc) := (blk_cell B_gs.out 7).trans rfl
          have hc_gs_8 : w28_.cell? ⟨gs, 8, none⟩ = some (.int .i64 s8) := (blk_cell B_gs.out 8).trans rfl
          have hc_gs_9 : w28_.cell? ⟨gs, 9, none⟩ = some (.int .i64 s9) := (blk_cell B_gs.out 9).trans rfl
          have hc_gs_10 : w28_.cell? ⟨gs, 10, none⟩ = some (.int .i64 s10) := (blk_cell B_gs.out 10).trans rfl
          go_upto_region 8 with ((go_at_call 13; (with_reducible refine (health_Of.calls k p0 p1 p2 p3 p4 p5 p6 p7 p8 p9 p10 p11 s0 s1 s2 s3 s4 s5 s6 sA sc sl s8 s9 s10 hh _ (Kd.C_below HRs.out HB.out) HCs.out HHH.out).mono ?_); rintro e w39_ ⟨rfl, hb⟩; have n0_ := Aside0.mk (blk_below B_gp.out hb); have n1_ := Aside0.mk (blk_below B_gs.out hb); have n2_ := Aside0.mk (blk_below B_gy.out hb); have n3_ := Aside0.mk (below_step HB.out hb); clear B_gp B_gs B_gy HB; have B_gp := n0_; have B_gs := n1_; have B_gy := n2_; have HB := n3_; clear n0_ n1_ n2_ n3_; clear hb))
          clear hc_gp_0 hc_gp_1 hc_gp_2 hc_gp_3 hc_gp_4 hc_gp_5 hc_gp_6 hc_gp_7 hc_gp_8 hc_gp_9 hc_gp_10 hc_gp_11 hc_gs_0 hc_gs_1 hc_gs_2 hc_gs_3 hc_gs_4 hc_gs_5 hc_gs_6 hc_gs_7 hc_gs_8 hc_gs_9 hc_gs_10
          by_cases c40_ : (Go.RowKit.wrap64 (Int.tdiv fr 2)) > 72057594037927936
          ·have c40_d : decide ((Go.RowKit.wrap64 (Int.tdiv fr 2)) > 72057594037927936) = true := decide_eq_true c40_
           have c40_e : decide (72057594037927936 < (Go.RowKit.wrap64 (Int.tdiv fr 2))) = true := decide_eq_true c40_
           clear h
           have hc_gs_2 : w39_.cell? ⟨gs, 2, none⟩ = some (.int .i64 s2) := (blk_cell B_gs.out 2).trans rfl
           have hc_gy_0 : w39_.cell? ⟨gy, 0, none⟩ = some (.int .i64 y0) := (blk_cell B_gy.out 0).trans rfl
           have hc_gy_1 : w39_.cell? ⟨gy, 1, none⟩ = some (.int .i64 y1) := (blk_cell B_gy.out 1).trans rfl
           go_wp2_with (fail)
           clear hc_gs_2 hc_gy_0 hc_gy_1
           go_ret
           exact ⟨rfl, HB.out⟩
          ·rw [if_neg c40_] at h
           have c40_d : decide ((Go.RowKit.wrap64 (Int.tdiv fr 2)) > 72057594037927936) = false := decide_eq_false c40_
           have c40_e : decide (72057594037927936 < (Go.RowKit.wrap64 (Int.tdiv fr 2))) = false := decide_eq_false c40_
           clear c40_
           rw [if_neg hz2] at h
           by_cases c41_ : s2 > Go.RowKit.wrap64 (nw + (Go.RowKit.wrap64 (Int.tdiv fr 2)))
           ·have c41_d : decide (s2 > Go.RowKit.wrap64 (nw + (Go.RowKit.wrap64 (Int.tdiv fr 2)))) = true := decide_eq_true c41_
            have c41_e : decide (Go.RowKit.wrap64 (nw + (Go.RowKit.wrap64 (Int.tdiv fr 2))) < s2) = true := decide_eq_true c41_
            clear h
            have hc_gs_2 : w39_.cell? ⟨gs, 2, none⟩ = some (.int .i64 s2) := (blk_cell B_gs.out 2).trans rfl
            have hc_gy_0 : w39_.cell? ⟨gy, 0, none⟩ = some (.int .i64 y0) := (blk_cell B_gy.out 0).trans rfl
            have hc_gy_1 : w39_.cell? ⟨gy, 1, none⟩ = some (.int .i64 y1) := (blk_cell B_gy.out 1).trans rfl
            go_wp2_with (fail)
            clear hc_gs_2 hc_gy_0 hc_gy_1
            go_ret
            exact ⟨rfl, HB.out⟩
           ·rw [if_neg c41_] at h
            have c41_d : decide (s2 > Go.RowKit.wrap64 (nw + (Go.RowKit.wrap64 (Int.tdiv fr 2)))) = false := decide_eq_false c41_
            have c41_e : decide (Go.RowKit.wrap64 (nw + (Go.RowKit.wrap64 (Int.tdiv fr 2))) < s2) = false := decide_eq_false c41_
            clear c41_
            by_cases c42_ : s2 < Go.RowKit.wrap64 (nw - (Go.RowKit.wrap64 (Int.tdiv fr 2)))
            ·have c42_d : decide (s2 < Go.RowKit.wrap64 (nw - (Go.RowKit.wrap64 (Int.tdiv fr 2)))) = true := decide_eq_true c42_
             clear h
             have hc_gs_2 : w39_.cell? ⟨gs, 2, none⟩ = some (.int .i64 s2) := (blk_cell B_gs.out 2).trans rfl
             have hc_gy_0 : w39_.cell? ⟨gy, 0, none⟩ = some (.int .i64 y0) := (blk_cell B_gy.out 0).trans rfl
             have hc_gy_1 : w39_.cell? ⟨gy, 1, none⟩ = some (.int .i64 y1) := (blk_cell B_gy.out 1).trans rfl
             go_wp2_with (fail)
             clear hc_gs_2 hc_gy_0 hc_gy_1
             go_ret
             exact ⟨rfl, HB.out⟩
            ·rw [if_neg c42_] at h
             have c42_d : decide (s2 < Go.RowKit.wrap64 (nw - (Go.RowKit.wrap64 (Int.tdiv fr 2)))) = false := decide_eq_false c42_
             clear c42_
             unfold clepsydralaw21_HealthStays.g at h
             by_cases c43_ : y0 > (Go.RowKit.wrap64 (nw + p3))
             ·have c43_d : decide (y0 > (Go.RowKit.wrap64 (nw + p3))) = true := decide_eq_true c43_
              have c43_e : decide ((Go.RowKit.wrap64 (nw + p3)) < y0) = true := decide_eq_true c43_
              clear h
              have hc_gs_2 : w39_.cell? ⟨gs, 2, none⟩ = some (.int .i64 s2) := (blk_cell B_gs.out 2).trans rfl
              have hc_gy_0 : w39_.cell? ⟨gy, 0, none⟩ = some (.int .i64 y0) := (blk_cell B_gy.out 0).trans rfl
              have hc_gy_1 : w39_.cell? ⟨gy, 1, none⟩ = some (.int .i64 y1) := (blk_cell B_gy.out 1).trans rfl
              go_wp2_with (fail)
              clear hc_gs_2 hc_gy_0 hc_gy_1
              go_ret
              exact ⟨rfl, HB.out⟩
             ·rw [if_neg c43_] at h
              have c43_d : decide (y0 > (Go.RowKit.wrap64 (nw + p3))) = false := decide_eq_false c43_
              have c43_e : decide ((Go.RowKit.wrap64 (nw + p3)) < y0) = false := decide_eq_false c43_
              clear c43_
              by_cases c44_ : y1 < (Go.RowKit.wrap64 (nw + p3))
              ·have c44_d : decide (y1 < (Go.RowKit.wrap64 (nw + p3))) = true := decide_eq_true c44_
               clear h
               have hc_gs_2 : w39_.cell? ⟨gs, 2, none⟩ = some (.int .i64 s2) := (blk_cell B_gs.out 2).trans rfl
               have hc_gy_0 : w39_.cell? ⟨gy, 0, none⟩ = some (.int .i64 y0) := (blk_cell B_gy.out 0).trans rfl
               have hc_gy_1 : w39_.cell? ⟨gy, 1, none⟩ = some (.int .i64 y1) := (blk_cell B_gy.out 1).trans rfl
               go_wp2_with (fail)
               clear hc_gs_2 hc_gy_0 hc_gy_1
               go_ret
               exact ⟨rfl, HB.out⟩
              ·rw [if_neg c44_] at h
               have c44_d : decide (y1 < (Go.RowKit.wrap64 (nw + p3))) = false := decide_eq_false c44_
               clear c44_
               by_cases c45_ : y0 < Go.RowKit.wrap64 ((Go.RowKit.wrap64 (nw + p3)) - (Go.RowKit.wrap64 (Int.tdiv fr 2)))
               ·have c45_d : decide (y0 < Go.RowKit.wrap64 ((Go.RowKit.wrap64 (nw + p3)) - (Go.RowKit.wrap64 (Int.tdiv fr 2)))) = true := decide_eq_true c45_
                clear h
                have hc_gs_2 : w39_.cell? ⟨gs, 2, none⟩ = some (.int .i64 s2) := (blk_cell B_gs.out 2).trans rfl
                have hc_gy_0 : w39_.cell? ⟨gy, 0, none⟩ = some (.int .i64 y0) := (blk_cell B_gy.out 0).trans rfl
                have hc_gy_1 : w39_.cell? ⟨gy, 1, none⟩ = some (.int .i64 y1) := (blk_cell B_gy.out 1).trans rfl
                go_wp2_with (fail)
                clear hc_gs_2 hc_gy_0 hc_gy_1
                go_ret
                exact ⟨rfl, HB.out⟩
               ·rw [if_neg c45_] at h
                have c45_d : decide (y0 < Go.RowKit.wrap64 ((Go.RowKit.wrap64 (nw + p3)) - (Go.RowKit.wrap64 (Int.tdiv fr 2)))) = false := decide_eq_false c45_
                clear c45_
                by_cases c46_ : y1 > Go.RowKit.wrap64 ((Go.RowKit.wrap64 (nw + p3)) + (Go.RowKit.wrap64 (Int.tdiv fr 2)))
                ·have c46_d : decide (y1 > Go.RowKit.wrap64 ((Go.RowKit.wrap64 (nw + p3)) + (Go.RowKit.wrap64 (Int.tdiv fr 2)))) = true := decide_eq_true c46_
                 have c46_e : decide (Go.RowKit.wrap64 ((Go.RowKit.wrap64 (nw + p3)) + (Go.RowKit.wrap64 (Int.tdiv fr 2))) < y1) = true := decide_eq_true c46_
                 clear h
                 have hc_gs_2 : w39_.cell? ⟨gs, 2, none⟩ = some (.int .i64 s2) := (blk_cell B_gs.out 2).trans rfl
                 have hc_gy_0 : w39_.cell? ⟨gy, 0, none⟩ = some (.int .i64 y0) := (blk_cell B_gy.out 0).trans rfl
                 have hc_gy_1 : w39_.cell? ⟨gy, 1, none⟩ = some (.int .i64 y1) := (blk_cell B_gy.out 1).trans rfl
                 go_wp2_with (fail)
                 clear hc_gs_2 hc_gy_0 hc_gy_1
                 go_ret
                 exact ⟨rfl, HB.out⟩
                ·rw [if_neg c46_] at h
                 have c46_d : decide (y1 > Go.RowKit.wrap64 ((Go.RowKit.wrap64 (nw + p3)) + (Go.RowKit.wrap64 (Int.tdiv fr 2)))) = false := decide_eq_false c46_
                 have c46_e : decide (Go.RowKit.wrap64 ((Go.RowKit.wrap64 (nw + p3)) + (Go.RowKit.wrap64 (Int.tdiv fr 2))) < y1) = false := decide_eq_false c46_
                 clear c46_
                 by_cases c47_ : Go.RowKit.wrap64 (y1 - y0) > (Go.RowKit.wrap64 (Int.tdiv fr 2))
                 ·have c47_d : decide (Go.RowKit.wrap64 (y1 - y0) > (Go.RowKit.wrap64 (Int.tdiv fr 2))) = true := decide_eq_true c47_
                  have c47_e : decide ((Go.RowKit.wrap64 (Int.tdiv fr 2)) < Go.RowKit.wrap64 (y1 - y0)) = true := decide_eq_true c47_
                  clear h
                  have hc_gs_2 : w39_.cell? ⟨gs, 2, none⟩ = some (.int .i64 s2) := (blk_cell B_gs.out 2).trans rfl
                  have hc_gy_0 : w39_.cell? ⟨gy, 0, none⟩ = some (.int .i64 y0) := (blk_cell B_gy.out 0).trans rfl
                  have hc_gy_1 : w39_.cell? ⟨gy, 1, none⟩ = some (.int .i64 y1) := (blk_cell B_gy.out 1).trans rfl
                  go_wp2_with (fail)
                  clear hc_gs_2 hc_gy_0 hc_gy_1
                  go_ret
                  exact ⟨rfl, HB.out⟩
                 ·rw [if_neg c47_] at h
                  have c47_d : decide (Go.RowKit.wrap64 (y1 - y0) > (Go.RowKit.wrap64 (Int.tdiv fr 2))) = false := decide_eq_false c47_
                  have c47_e : decide ((Go.RowKit.wrap64 (Int.tdiv fr 2)) < Go.RowKit.wrap64 (y1 - y0)) = false := decide_eq_false c47_
                  clear c47_
                  obtain ⟨⟨r0, r1, r2, r3, r4, r5, r6, ml, r8, r9, r10⟩, hst, h⟩ := Option.bind_eq_some_iff.mp h
                  split at h
                  case isFalse => cases h
                  next hq =>
                   obtain ⟨hq1, hq2, hq3⟩ := hq
                   clear h
                   dsimp only at hq1 hq2 hq3
                   have HST := Aside0.mk hst
                   clear hst
                   have f1 : decide (r2 > Go.RowKit.wrap64 ((Go.RowKit.wrap64 (nw + p3)) + (Go.RowKit.wrap64 (Int.tdiv fr 2)))) = false := decide_eq_false hq1
                   have f2 : decide (Go.RowKit.wrap64 ((Go.RowKit.wrap64 (nw + p3)) + (Go.RowKit.wrap64 (Int.tdiv fr 2))) < r2) = false := decide_eq_false hq1
                   have f3 : decide (r2 < Go.RowKit.wrap64 ((Go.RowKit.wrap64 (nw + p3)) - (Go.RowKit.wrap64 (Int.tdiv fr 2)))) = false := decide_eq_false hq2
                   have hq4 := hq3.resolve_left hz2
                   have f4 : decide (Go.RowKit.wrap64 (Go.RowKit.wrap64 (Go.RowKit.wrap64 (r2 - s2) - p3) - er) ≤ p8) = true := decide_eq_true hq4.1
                   have f5 : decide (Go.RowKit.wrap64 (Go.RowKit.wrap64 (Go.RowKit.wrap64 (r2 - s2) - p3) - er) ≥ Go.RowKit.wrap64 (-p8)) = true := decide_eq_true hq4.2
                   have f6 : decide (Go.RowKit.wrap64 (-p8) ≤ Go.RowKit.wrap64 (Go.RowKit.wrap64 (Go.RowKit.wrap64 (r2 - s2) - p3) - er)) = true := decide_eq_true hq4.2
                   have hc_gs_2 : w39_.cell? ⟨gs, 2, none⟩ = some (.int .i64 s2) := (blk_cell B_gs.out 2).trans rfl
                   have hc_gy_0 : w39_.cell? ⟨gy, 0, none⟩ = some (.int .i64 y0) := (blk_cell B_gy.out 0).trans rfl
                   have hc_gy_1 : w39_.cell? ⟨gy, 1, none⟩ = some (.int .i64 y1) := (blk_cell B_gy.out 1).trans rfl
                   go_upto_region 10 with (fail)
                   clear hc_gs_2 hc_gy_0 hc_gy_1
                   have hc_gp_0 : w39_.cell? ⟨gp, 0, none⟩ = some (.int .i64 p0) := (blk_cell B_gp.out 0).trans rfl
                   have hc_gp_1 : w39_.cell? ⟨gp, 1, none⟩ = some (.int .i64 p1) := (blk_cell B_gp.out 1).trans rfl
                   have hc_gp_2 : w39_.cell? ⟨gp, 2, none⟩ = some (.int .i64 p2) := (blk_cell B_gp.out 2).trans rfl
                   have hc_gp_3 : w39_.cell? ⟨gp, 3, none⟩ = some (.int .i64 p3) := (blk_cell B_gp.out 3).trans rfl
                   have hc_gp_4 : w39_.cell? ⟨gp, 4, none⟩ = some (.int .i64 p4) := (blk_cell B_gp.out 4).trans rfl
                   have hc_gp_5 : w39_.cell? ⟨gp, 5, none⟩ = some (.int .i64 p5) := (blk_cell B_gp.out 5).trans rfl
                   have hc_gp_6 : w39_.cell? ⟨gp, 6, none⟩ = some (.int .i64 p6) := (blk_cell B_gp.out 6).trans rfl
                   have hc_gp_7 : w39_.cell? ⟨gp, 7, none⟩ = some (.int .i64 p7) := (blk_cell B_gp.out 7).trans rfl
                   have hc_gp_8 : w39_.cell? ⟨gp, 8, none⟩ = some (.int .i64 p8) := (blk_cell B_gp.out 8).trans rfl
                   have hc_gp_9 : w39_.cell? ⟨gp, 9, none⟩ = some (.int .i64 p9) := (blk_cell B_gp.out 9).trans rfl
                   have hc_gp_10 : w39_.cell? ⟨gp, 10, none⟩ = some (.int .i64 p10) := (blk_cell B_gp.out 10).trans rfl
                   have hc_gp_11 : w39_.cell? ⟨gp, 11, none⟩ = some (.int .i64 p11) := (blk_cell B_gp.out 11).trans rfl
                   have hc_gs_0 : w39_.cell? ⟨gs, 0, none⟩ = some (.int .i64 s0) := (blk_cell B_gs.out 0).trans rfl
                   have hc_gs_1 : w39_.cell? ⟨gs, 1, none⟩ = some (.int .i64 s1) := (blk_cell B_gs.out 1).trans rfl
                   have hc_gs_2 : w39_.cell? ⟨gs, 2, none⟩ = some (.int .i64 s2) := (blk_cell B_gs.out 2).trans rfl
                   have hc_gs_3 : w39_.cell? ⟨gs, 3, none⟩ = some (.bool s3) := (blk_cell B_gs.out 3).trans rfl
                   have hc_gs_4 : w39_.cell? ⟨gs, 4, none⟩ = some (.int .i64 s4) := (blk_cell B_gs.out 4).trans rfl
                   have hc_gs_5 : w39_.cell? ⟨gs, 5, none⟩ = some (.int .i64 s5) := (blk_cell B_gs.out 5).trans rfl
                   have hc_gs_6 : w39_.cell? ⟨gs, 6, none⟩ = some (.bool s6) := (blk_cell B_gs.out 6).trans rfl
                   have hc_gs_7 : w39_.cell? ⟨gs, 7, none⟩ = some (.slice sA sl.length sc) := (blk_cell B_gs.out 7).trans rfl
                   have hc_gs_8 : w39_.cell? ⟨gs, 8, none⟩ = some (.int .i64 s8) := (blk_cell B_gs.out 8).trans rfl
                   have hc_gs_9 : w39_.cell? ⟨gs, 9, none⟩ = some (.int .i64 s9) := (blk_cell B_gs.out 9).trans rfl
                   have hc_gs_10 : w39_.cell? ⟨gs, 10, none⟩ = some (.int .i64 s10) := (blk_cell B_gs.out 10).trans rfl
                   go_upto_region 11 with (((with_reducible refine gate_dst (N := 139) rfl ?_); refine box_event ?hg (N := 139) ?hd (cs := #[.int .i64 p0, .int .i64 p1, .int .i64 p2, .int .i64 p3, .int .i64 p4, .int .i64 p5, .int .i64 p6, .int .i64 p7, .int .i64 p8, .int .i64 p9, .int .i64 p10, .int .i64 p11, .int .i64 s0, .int .i64 s1, .int .i64 s2, .bool s3, .int .i64 s4, .int .i64 s5, .bool s6, .slice sA sl.length sc, .int .i64 s8, .int .i64 s9, .int .i64 s10]) (t := 39) ?hr ?_; (case hd => rfl); (case hg => rfl); (case hr => first | (go_simp; done) | (go_simp; rfl)); intro gf hg w48_ hbox hb; have N_gp_gf := nl hg B_gp.out; have N_gs_gf := nl hg B_gs.out; have N_gy_gf := nl hg B_gy.out; have N_gf_gp := ng hg B_gp.out; have N_gf_gs := ng hg B_gs.out; have N_gf_gy := ng hg B_gy.out; have E_gf : Aside0 (w.heap.size ≤ gf) := ⟨by rw [hg]; exact below_size HB.out⟩; have n0_ := Aside0.mk (blk_below B_gp.out hb); have n1_ := Aside0.mk (blk_below B_gs.out hb); have n2_ := Aside0.mk (blk_below B_gy.out hb); have n3_ := Aside0.mk (below_step HB.out hb); clear B_gp B_gs B_gy HB; have B_gp := n0_; have B_gs := n1_; have B_gy := n2_; have HB := n3_; clear n0_ n1_ n2_ n3_; have B_gf := Aside0.mk hbox; clear hb hbox hg))
                   clear hc_gp_0 hc_gp_1 hc_gp_2 hc_gp_3 hc_gp_4 hc_gp_5 hc_gp_6 hc_gp_7 hc_gp_8 hc_gp_9 hc_gp_10 hc_gp_11 hc_gs_0 hc_gs_1 hc_gs_2 hc_gs_3 hc_gs_4 hc_gs_5 hc_gs_6 hc_gs_7 hc_gs_8 hc_gs_9 hc_gs_10
                   have hc_gp_3 : w48_.cell? ⟨gp, 3, none⟩ = some (.int .i64 p3) := (blk_cell B_gp.out 3).trans rfl
                   have hc_gy_0 : w48_.cell? ⟨gy, 0, none⟩ = some (.int .i64 y0) := (blk_cell B_gy.out 0).trans rfl
                   have hc_gy_1 : w48_.cell? ⟨gy, 1, none⟩ = some (.int .i64 y1) := (blk_cell B_gy.out 1).trans rfl
                   have hc_gy_2 : w48_.cell? ⟨gy, 2, none⟩ = some (.int .i64 y2) := (blk_cell B_gy.out 2).trans rfl
                   have hc_gy_3 : w48_.cell? ⟨gy, 3, none⟩ = some (.bool y3) := (blk_cell B_gy.out 3).trans rfl
                   have hc_gy_4 : w48_.cell? ⟨gy, 4, none⟩ = some (.int .i64 y4) := (blk_cell B_gy.out 4).trans rfl
                   have hc_gy_5 : w48_.cell? ⟨gy, 5, none⟩ = some (.int .i64 y5) := (blk_cell B_gy.out 5).trans rfl
                   have hc_gy_6 : w48_.cell? ⟨gy, 6, none⟩ = some (.bool y6) := (blk_cell B_gy.out 6).trans rfl
                   have hc_gy_7 : w48_.cell? ⟨gy, 7, none⟩ = some (.slice yA yl.length yc) := (blk_cell B_gy.out 7).trans rfl
                   have hc_gy_8 : w48_.cell? ⟨gy, 8, none⟩ = some (.int .i64 y8) := (blk_cell B_gy.out 8).trans rfl
                   have hc_gy_9 : w48_.cell? ⟨gy, 9, none⟩ = some (.int .i64 y9) := (blk_cell B_gy.out 9).trans rfl
                   have hc_gy_10 : w48_.cell? ⟨gy, 10, none⟩ = some (.int .i64 y10) := (blk_cell B_gy.out 10).trans rfl
                   go_upto_region 12 with ((go_at_call 17; (with_reducible refine (health_Front_Step.does k gf p0 p1 p2 p3 p4 p5 p6 p7 p8 p9 p10 p11 s0 s1 s2 s3 s4 s5 s6 sA sc sl s8 s9 s10 (Go.RowKit.wrap64 (p3 + er)) y0 y1 y2 y3 y4 y5 y6 yA yc yl y8 y9 y10 r0 r1 r2 r3 r4 r5 r6 ml r8 r9 r10 _ (Kd.C_below HRs.out HB.out) HCs.out (Kd.C_below HRy.out HB.out) HCy.out B_gf.out HST.out).mono ?_); rintro e w49_ ⟨mA, mc, rfl, hg, hn, ho⟩; have R_m := Aside0.mk (Kd.R_lower ho (below_size HB.out)); have n0_ := Aside0.mk (blk_grown B_gp.out hg (fun e_ => N_gp_gf.out (Option.some.inj e_))); have n1_ := Aside0.mk (blk_grown B_gs.out hg (fun e_ => N_gs_gf.out (Option.some.inj e_))); have n2_ := Aside0.mk (blk_grown B_gy.out hg (fun e_ => N_gy_gf.out (Option.some.inj e_))); have n3_ := Aside0.mk (hn); have n4_ := Aside0.mk (pw_below_grown HB.out (some gf) (below_size HB.out) hg (fun k_ e_ => by cases e_; exact E_gf.out)); clear B_gp B_gs B_gy B_gf HB; have B_gp := n0_; have B_gs := n1_; have B_gy := n2_; have B_gf := n3_; have HB := n4_; clear n0_ n1_ n2_ n3_ n4_; clear hg hn ho))
                   clear hc_gp_3 hc_gy_0 hc_gy_1 hc_gy_2 hc_gy_3 hc_gy_4 hc_gy_5 hc_gy_6 hc_gy_7 hc_gy_8 hc_gy_9 hc_gy_10
                   have hc_gf_14 : w49_.cell? ⟨gf, 14, none⟩ = some (.int .i64 r2) := (blk_cell B_gf.out 14).trans rfl
                   go_upto_region 14 with (fail)
                   clear hc_gf_14
                   have n0_ := Aside0.mk (blk_drew B_gp.out)
                   have n1_ := Aside0.mk (blk_drew B_gs.out)
                   have n2_ := Aside0.mk (blk_drew B_gy.out)
                   have n3_ := Aside0.mk (blk_drew B_gf.out)
                   have n4_ := Aside0.mk (Kd.R_drew R_m.out)
                   have n5_ := Aside0.mk (below_drew1 HB.out)
                   clear B_gp B_gs B_gy B_gf R_m HB
                   have B_gp := n0_
                   have B_gs := n1_
                   have B_gy := n2_
                   have B_gf := n3_
                   have R_m := n4_
                   have HB := n5_
                   clear n0_ n1_ n2_ n3_ n4_ n5_
                   refine start_ (n := 14) (S := fun w' => w'.heap[gf]? = some (.cells #[.int .i64 p0, .int .i64 p1, .int .i64 p2, .int .i64 p3, .int .i64 p4, .int .i64 p5, .int .i64 p6, .int .i64 p7, .int .i64 p8, .int .i64 p9, .int .i64 p10, .int .i64 p11, .int .i64 r0, .int .i64 r1, .int .i64 r2, .bool r3, .int .i64 r4, .int .i64 r5, .bool r6, .slice mA ml.length mc, .int .i64 r8, .int .i64 r9, .int .i64 r10] 39 (0, 0)) ∧ w'.heap[gs]? = some (.cells #[.int .i64 s0, .int .i64 s1, .int .i64 s2, .bool s3, .int .i64 s4, .int .i64 s5, .bool s6, .slice sA sl.length sc, .int .i64 s8, .int .i64 s9, .int .i64 s10] 30 (0, 0)) ∧ w'.heap[gp]? = some (.cells #[.int .i64 p0, .int .i64 p1, .int .i64 p2, .int .i64 p3, .int .i64 p4, .int .i64 p5, .int .i64 p6, .int .i64 p7, .int .i64 p8, .int .i64 p9, .int .i64 p10, .int .i64 p11] 23 (0, 0))) (ds := []) (bs 14 0) (by kernel_rfl) rfl (by rfl) ⟨B_gf.out, B_gs.out, B_gp.out⟩ (fun hHeld => ?_)
                   generalize w49_.drew = w50_ at B_gp B_gs B_gy B_gf R_m HB hHeld ⊢
                   refine pure_ (i := 0) (N := some 167) (v := ?_) (a' := ?_) (bs 14 1) rfl rfl (by kernel_rfl) (fun _ _ _ h => h) (Or.inl ⟨by rfl, ?_⟩) ?_ ?_
                   rotate_left
                   ·intro w'
                    go_simp
                    with_reducible rfl
                   rotate_left
                   ·simp only [Act.put, List.setIfInBounds_toArray, List.set_cons_zero, List.set_cons_succ, i64_w, i32_w]
                    rfl
                   refine pure_ (i := 1) (N := some 168) (v := ?_) (a' := ?_) (bs 14 3) rfl rfl (by kernel_rfl) (fun _ _ _ h => h) (Or.inl ⟨by rfl, ?_⟩) ?_ ?_
                   rotate_left
                   ·intro w'
                    go_simp
                    with_reducible rfl
                   rotate_left
                   ·simp only [Act.put, List.setIfInBounds_toArray, List.set_cons_zero, List.set_cons_succ, i64_w, i32_w]
                    rfl
                   refine pure_ (i := 2) (N := some 169) (v := ?_) (a' := ?_) (bs 14 7) rfl rfl (by kernel_rfl) (fun _ _ _ h => h) (Or.inl ⟨by rfl, ?_⟩) ?_ ?_
                   rotate_left
                   ·intro w'
                    go_simp
                    with_reducible rfl
                   rotate_left
                   ·simp only [Act.put, List.setIfInBounds_toArray, List.set_cons_zero, List.set_cons_succ, i64_w, i32_w]
                    rfl
                   refine pure_ (i := 3) (N := some 170) (v := ?_) (a' := ?_) (bs 14 15) rfl rfl (by kernel_rfl) (fun _ _ _ h => h) (Or.inl ⟨by rfl, ?_⟩) ?_ ?_
                   rotate_left
                   ·intro w'
                    go_simp
                    with_reducible rfl
                   rotate_left
                   ·simp only [Act.put, List.setIfInBounds_toArray, List.set_cons_zero, List.set_cons_succ, i64_w, i32_w]
                    rfl
                   refine pure_ (i := 5) (N := some 172) (v := ?_) (a' := ?_) (bs 14 47) rfl rfl (by kernel_rfl) (fun _ _ _ h => h) (Or.inl ⟨by rfl, ?_⟩) ?_ ?_
                   rotate_left
                   ·intro w'
                    go_simp
                    with_reducible rfl
                   rotate_left
                   ·simp only [Act.put, List.setIfInBounds_toArray, List.set_cons_zero, List.set_cons_succ, i64_w, i32_w]
                    rfl
                   refine pure_ (i := 8) (N := some 175) (v := ?_) (a' := ?_) (bs 14 303) rfl rfl (by kernel_rfl) (fun _ _ _ h => h) (Or.inl ⟨by rfl, ?_⟩) ?_ ?_
                   rotate_left
                   ·intro w'
                    go_simp
                    with_reducible rfl
                   rotate_left
                   ·simp only [Act.put, List.setIfInBounds_toArray, List.set_cons_zero, List.set_cons_succ, i64_w, i32_w]
                    rfl
                   refine pure_ (i := 11) (N := some 178) (v := ?_) (a' := ?_) (bs 14 2351) rfl rfl (by kernel_rfl) (fun _ _ _ h => h) (Or.inl ⟨by rfl, ?_⟩) ?_ ?_
                   rotate_left
                   ·intro w'
                    go_simp
                    with_reducible rfl
                   rotate_left
                   ·simp only [Act.put, List.setIfInBounds_toArray, List.set_cons_zero, List.set_cons_succ, i64_w, i32_w]
                    rfl
                   refine take_ (i := 4) (N := some 171) (v := ?_) (a' := ?_) (bs 14 2367) rfl rfl (by kernel_rfl) (fun _ _ _ h => h) (Or.inl ⟨by rfl, ?_⟩) hHeld ?_ ?_
                   rotate_left
                   ·rintro w' ⟨s_gf, s_gs, s_gp⟩
                    have c_14 : w'.cell? ⟨gf, 14, none⟩ = some (.int .i64 r2) := (blk_cell s_gf 14).trans rfl
                    clear s_gf s_gs s_gp
                    go_simp
                    with_reducible rfl
                   rotate_left
                   ·simp only [Act.put, List.setIfInBounds_toArray, List.set_cons_zero, List.set_cons_succ, i64_w, i32_w]
                    rfl
                   refine take_ (i := 6) (N := some 173) (v := ?_) (a' := ?_) (bs 14 2431) rfl rfl (by kernel_rfl) (fun _ _ _ h => h) (Or.inl ⟨by rfl, ?_⟩) hHeld ?_ ?_
                   rotate_left
                   ·rintro w' ⟨s_gf, s_gs, s_gp⟩
                    have c_2 : w'.cell? ⟨gs, 2, none⟩ = some (.int .i64 s2) := (blk_cell s_gs 2).trans rfl
                    clear s_gf s_gs s_gp
                    go_simp
                    with_reducible rfl
                   rotate_left
                   ·simp only [Act.put, List.setIfInBounds_toArray, List.set_cons_zero, List.set_cons_succ, i64_w, i32_w]
                    rfl
                   refine pure_ (i := 7) (N := some 174) (v := ?_) (a' := ?_) (bs 14 2559) rfl rfl (by kernel_rfl) (fun _ _ _ h => h) (Or.inl ⟨by rfl, ?_⟩) ?_ ?_
                   rotate_left
                   ·intro w'
                    go_simp
                    with_reducible rfl
                   rotate_left
                   ·simp only [Act.put, List.setIfInBounds_toArray, List.set_cons_zero, List.set_cons_succ, i64_w, i32_w]
                    rfl
                   refine take_ (i := 9) (N := some 176) (v := ?_) (a' := ?_) (bs 14 3071) rfl rfl (by kernel_rfl) (fun _ _ _ h => h) (Or.inl ⟨by rfl, ?_⟩) hHeld ?_ ?_
                   rotate_left
                   ·rintro w' ⟨s_gf, s_gs, s_gp⟩
                    have c_3 : w'.cell? ⟨gp, 3, none⟩ = some (.int .i64 p3) := (blk_cell s_gp 3).trans rfl
                    clear s_gf s_gs s_gp
                    go_simp
                    with_reducible rfl
                   rotate_left
                   ·simp only [Act.put, List.setIfInBounds_toArray, List.set_cons_zero, List.set_cons_succ, i64_w, i32_w]
                    rfl
                   refine pure_ (i := 10) (N := some 177) (v := ?_) (a' := ?_) (bs 14 4095) rfl rfl (by kernel_rfl) (fun _ _ _ h => h) (Or.inl ⟨by rfl, ?_⟩) ?_ ?_
                   rotate_left
                   ·intro w'
                    go_simp
                    with_reducible rfl
                   rotate_left
                   ·simp only [Act.put, List.setIfInBounds_toArray, List.set_cons_zero, List.set_cons_succ, i64_w, i32_w]
                    rfl
                   refine pure_ (i := 12) (N := some 179) (v := ?_) (a' := ?_) (bs 14 8191) rfl rfl (by kernel_rfl) (fun _ _ _ h => h) (Or.inl ⟨by rfl, ?_⟩) ?_ ?_
                   rotate_left
                   ·intro w'
                    go_simp
                    with_reducible rfl
                   rotate_left
                   ·simp only [Act.put, List.setIfInBounds_toArray, List.set_cons_zero, List.set_cons_succ, i64_w, i32_w]
                    rfl
                   refine pure_ (i := 13) (N := some 15) (v := ?_) (a' := ?_) (bs 14 16383) rfl rfl (by kernel_rfl) (fun _ _ _ h => h) (Or.inl ⟨by rfl, ?_⟩) ?_ ?_
                   rotate_left
                   ·intro w'
                    go_simp
                    with_reducible rfl
                   rotate_left
                   ·simp only [Act.put, List.setIfInBounds_toArray, List.set_cons_zero, List.set_cons_succ, i64_w, i32_w]
                    rfl
                   refine done_ (by kernel_rfl) ?_
                   go_upto_region 15 with (fail)
                   have hc_gp_8 : w50_.cell? ⟨gp, 8, none⟩ = some (.int .i64 p8) := (blk_cell B_gp.out 8).trans rfl
                   go_wp2_with (fail)
                   clear hc_gp_8
                   go_ret
                   exact ⟨rfl, HB.out⟩

end Go.Proofs.Ytigkjbaclpklpaa.Q
