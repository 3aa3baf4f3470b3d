/- The call of this law answers true where the plain function beside it does: a proof by hand (generated in parts by my own program), step by step through the Go code; under the conditions that stand in the theorem. -/
import Derived.Test.YtigkjbaclpklpaaDoorQx0
import Derived.Test.YtigkjbaclpklpaaDoorQx4
import Derived.Test.YtigkjbaclpklpaaDoorQx9
import Derived.Test.YtigkjbaclpklpaaDoorQx12
import Derived.Test.YtigkjbaclpklpaaDoorQx15
import Derived.Test.YtigkjbaclpklpaaDoorQx16
import Derived.Test.YtigkjbaclpklpaaDoorQx17
import Derived.Test.YtigkjbaclpklpaaDoorQx20
import Derived.Test.YtigkjbaclpklpaaDoorQx26
import Derived.Test.YtigkjbaclpklpaaDoorQx27
import Derived.Test.YtigkjbaclpklpaaDoorQx30
namespace Go.Proofs.YtigkjbaclpklpaaDoor.Q
open Go.RowKit Go.Proofs.YtigkjbaclpklpaaDoorW.PrintWords Go.Proofs.YtigkjbaclpklpaaDoorW.PrintLast Go.Proofs.YtigkjbaclpklpaaDoorW.PrintMore
attribute [local go_sem] max2_int min2_int max_two min_two max_three min_three max_four min_four   -- for this text's walks alone
set_option linter.unusedVariables false
set_option linter.unusedSimpArgs false

/-! the law, by hand -/
attribute [local go_sem] hx.fl
def clepsydralaw21_HealthTells.f (k : Nat) (p0 p1 p2 p3 p4 p5 p6 p7 p8 p9 p10 p11 : Int) (s0 s1 s2 : Int) (s3 : Bool) (s4 s5 : Int) (s6 : Bool) (sl : List S82) (s8 s9 s10 : Int) : Option Bool := (clepsydralaw21_long.f s0 s1 s2 s3 s4 s5 s6 sl s8 s9 s10 s0 s1 s2 s3 s4 s5 s6 sl s8 s9 s10).bind fun lg => if lg = true then some true else (health_Of.f k p0 p1 p2 p3 p4 p5 p6 p7 p8 p9 p10 p11 s0 s1 s2 s3 s4 s5 s6 sl s8 s9 s10).bind fun hh => (clepsydraref21_Of.f k p0 p1 p2 p3 p4 p5 p6 p7 p8 p9 p10 p11 s0 s1 s2 s3 s4 s5 s6 sl s8 s9 s10).bind fun h2 => (clepsydraref13_Number.f p0 p1 p2 p3 p4 p5 p6 p7 p8 p9 p10 p11 s2).bind fun nb => (clepsydraref21_UTC.f k p0 p1 p2 p3 p4 p5 p6 p7 p8 p9 p10 p11 s0 s1 s2 s3 s4 s5 s6 sl s8 s9 s10).bind fun v => (clepsydraref21_Same.f k s0 s1 s2 s3 s4 s5 s6 sl s8 s9 s10 s0 s1 s2 s3 s4 s5 s6 sl s8 s9 s10).bind fun sm => if h2 = hh ∧ sm = true then (if hh = 0 then (if v = (0, 0, 0, 0, 0, 0, 20) then some true else none) else (wide_Div.f k s2 p11).bind fun dv => (leap_ToLabel.f k sl dv.1).bind fun lb => (pulse_Number.f k p0 p1 p2 p3 p4 p5 p6 p7 p8 p9 p10 p11 s2).bind fun n2 => if lb = v ∧ n2 = nb then some true else none) else none
set_option maxHeartbeats 8000000 in
set_option maxRecDepth 100000 in
theorem clepsydralaw21_HealthTells.calls (k : Nat) (p0 p1 p2 p3 p4 p5 p6 p7 p8 p9 p10 p11 : Int) (s0 s1 s2 : Int) (s3 : Bool) (s4 s5 : Int) (s6 : Bool) (sA : Option Addr) (sc : Nat) (sl : List S82) (s8 s9 s10 : Int) (r : Bool) (w : World) (hM : GM w) (hrs : Kd.C k82 w sA sl.length sl) (hcs : sl.length ≤ sc) (hT : Aside0 (r = true)) (h : clepsydralaw21_HealthTells.f k p0 p1 p2 p3 p4 p5 p6 p7 p8 p9 p10 p11 s0 s1 s2 s3 s4 s5 s6 sl s8 s9 s10 = some r) :
  Calls Tryd.prog 3 #[.agg #[.int .i64 p0, .int .i64 p1, .int .i64 p2, .int .i64 p3, .int .i64 p4, .int .i64 p5, .int .i64 p6, .int .i64 p7, .int .i64 p8, .int .i64 p9, .int .i64 p10, .int .i64 p11], .agg #[.int .i64 s0, .int .i64 s1, .int .i64 s2, .bool s3, .int .i64 s4, .int .i64 s5, .bool s6, .slice sA sl.length sc, .int .i64 s8, .int .i64 s9, .int .i64 s10]] w fun e w' => e = .returned (.bool r) ∧ Below w.heap.size w w' := by
 obtain rfl := hT.out
 clear hT
 unfold clepsydralaw21_HealthTells.f at h
 obtain ⟨lg, hlg, h⟩ := Option.bind_eq_some_iff.mp h
 have HRs := Aside0.mk hrs
 have HCs := Aside0.mk hcs
 have HGM := Aside0.mk hM
 have HLG := Aside0.mk hlg
 clear hrs hcs hM hlg
 have HB := Aside0.mk (Below.refl w.heap.size w)
 go_enter Tryd.func3, Tryd.ntmps3
 go_upto_region 1 with (first | ((with_reducible refine gate_dst (N := 2) rfl ?_); refine bx 2 #[.int .i64 p0, .int .i64 p1, .int .i64 p2, .int .i64 p3, .int .i64 p4, .int .i64 p5, .int .i64 p6, .int .i64 p7, .int .i64 p8, .int .i64 p9, .int .i64 p10, .int .i64 p11] 23 ?_; intro gp hg w1_ hbox hb; have E_gp : Aside0 (w.heap.size ≤ gp) := ⟨by rw [hg]; exact below_size HB.1⟩; replace HB := Aside0.mk (below_step HB.1 hb); have B_gp := Aside0.mk hbox; clear hb hbox hg) | ((with_reducible refine gate_dst (N := 3) rfl ?_); refine bx 3 #[.int .i64 s0, .int .i64 s1, .int .i64 s2, .bool s3, .int .i64 s4, .int .i64 s5, .bool s6, .slice sA sl.length sc, .int .i64 s8, .int .i64 s9, .int .i64 s10] 30 ?_; intro gs hg w2_ hbox hb; have N_gp_gs := nl hg B_gp.1; have N_gs_gp := ng hg B_gp.1; have E_gs : Aside0 (w.heap.size ≤ gs) := ⟨by rw [hg]; exact below_size HB.1⟩; replace B_gp := bb hb B_gp.1; replace HB := Aside0.mk (below_step HB.1 hb); have B_gs := Aside0.mk hbox; clear hb hbox hg))
 go_upto_region 3 with ((go_at_call 4; (with_reducible refine (clepsydralaw21_alive.calls true _ rfl).mono ?_); rintro e w3_ ⟨rfl, hb⟩; replace B_gp := bb hb B_gp.1; replace B_gs := bb hb B_gs.1; replace HB := Aside0.mk (below_step HB.1 hb); clear hb))
 cases lg
 case true =>
  obtain ⟨hc_gs_0, hc_gs_1, hc_gs_2, hc_gs_3, hc_gs_4, hc_gs_5, hc_gs_6, hc_gs_7, hc_gs_8, hc_gs_9, hc_gs_10⟩ := cc11 B_gs.1
  go_wp2_with ((go_at_call 5; (with_reducible refine (clepsydralaw21_long.calls s0 s1 s2 s3 s4 s5 s6 sA sc sl s8 s9 s10 s0 s1 s2 s3 s4 s5 s6 sA sc sl s8 s9 s10 true _ (Kd.C_below HRs.1 HB.1) HCs.1 (Kd.C_below HRs.1 HB.1) HCs.1 HLG.1).mono ?_); rintro e w4_ ⟨rfl, hb⟩; replace B_gp := bb hb B_gp.1; replace B_gs := bb hb B_gs.1; replace HB := Aside0.mk (below_step HB.1 hb); clear hb))
  clear hc_gs_0 hc_gs_1 hc_gs_2 hc_gs_3 hc_gs_4 hc_gs_5 hc_gs_6 hc_gs_7 hc_gs_8 hc_gs_9 hc_gs_10
  go_ret
  exact ⟨rfl, HB.1⟩
 case false =>
  rw [if_neg (by decide)] at h
  obtain ⟨hh, hhh, h⟩ := Option.bind_eq_some_iff.mp h
  obtain ⟨h2, hh2, h⟩ := Option.bind_eq_some_iff.mp h
  obtain ⟨nb, hnb, h⟩ := Option.bind_eq_some_iff.mp h
  obtain ⟨⟨u1, u2, u3, u4, u5, u6, u7⟩, hv, h⟩ := Option.bind_eq_some_iff.mp h
  obtain ⟨sm, hsm, h⟩ := Option.bind_eq_some_iff.mp h
  split at h
  case isFalse => cases h
  next hz =>
   obtain ⟨rfl, rfl⟩ := hz
   have HHH := Aside0.mk hhh
   have HH2 := Aside0.mk hh2
   have HNB := Aside0.mk hnb
   have HV := Aside0.mk hv
   have HSM := Aside0.mk hsm
   clear hhh hh2 hnb hv hsm
   split at h
   ·next hz2 =>
     split at h
     case isFalse => cases h
     next hz3 =>
      subst hz2
      simp only [Prod.mk.injEq] at hz3
      obtain ⟨rfl, rfl, rfl, rfl, rfl, rfl, rfl⟩ := hz3
      clear h
      obtain ⟨hc_gs_0, hc_gs_1, hc_gs_2, hc_gs_3, hc_gs_4, hc_gs_5, hc_gs_6, hc_gs_7, hc_gs_8, hc_gs_9, hc_gs_10⟩ := cc11 B_gs.1
      go_upto_region 5 with ((go_at_call 5; (with_reducible refine (clepsydralaw21_long.calls s0 s1 s2 s3 s4 s5 s6 sA sc sl s8 s9 s10 s0 s1 s2 s3 s4 s5 s6 sA sc sl s8 s9 s10 false _ (Kd.C_below HRs.1 HB.1) HCs.1 (Kd.C_below HRs.1 HB.1) HCs.1 HLG.1).mono ?_); rintro e w5_ ⟨rfl, hb⟩; replace B_gp := bb hb B_gp.1; replace B_gs := bb hb B_gs.1; replace HB := Aside0.mk (below_step HB.1 hb); clear hb))
      clear hc_gs_0 hc_gs_1 hc_gs_2 hc_gs_3 hc_gs_4 hc_gs_5 hc_gs_6 hc_gs_7 hc_gs_8 hc_gs_9 hc_gs_10
      obtain ⟨hc_gp_0, hc_gp_1, hc_gp_2, hc_gp_3, hc_gp_4, hc_gp_5, hc_gp_6, hc_gp_7, hc_gp_8, hc_gp_9, hc_gp_10, hc_gp_11⟩ := cc12 B_gp.1
      obtain ⟨hc_gs_0, hc_gs_1, hc_gs_2, hc_gs_3, hc_gs_4, hc_gs_5, hc_gs_6, hc_gs_7, hc_gs_8, hc_gs_9, hc_gs_10⟩ := cc11 B_gs.1
      go_upto_region 6 with (((with_reducible refine gate_dst (N := 32) rfl ?_); refine bx 32 #[.int .i64 p0, .int .i64 p1, .int .i64 p2, .int .i64 p3, .int .i64 p4, .int .i64 p5, .int .i64 p6, .int .i64 p7, .int .i64 p8, .int .i64 p9, .int .i64 p10, .int .i64 p11, .int .i64 s0, .int .i64 s1, .int .i64 s2, .bool s3, .int .i64 s4, .int .i64 s5, .bool s6, .slice sA sl.length sc, .int .i64 s8, .int .i64 s9, .int .i64 s10] 35 ?_; intro gf hg w6_ hbox hb; have N_gp_gf := nl hg B_gp.1; have N_gs_gf := nl hg B_gs.1; have N_gf_gp := ng hg B_gp.1; have N_gf_gs := ng hg B_gs.1; have E_gf : Aside0 (w.heap.size ≤ gf) := ⟨by rw [hg]; exact below_size HB.1⟩; replace B_gp := bb hb B_gp.1; replace B_gs := bb hb B_gs.1; replace HB := Aside0.mk (below_step HB.1 hb); have B_gf := Aside0.mk hbox; clear hb hbox hg))
      clear hc_gp_0 hc_gp_1 hc_gp_2 hc_gp_3 hc_gp_4 hc_gp_5 hc_gp_6 hc_gp_7 hc_gp_8 hc_gp_9 hc_gp_10 hc_gp_11 hc_gs_0 hc_gs_1 hc_gs_2 hc_gs_3 hc_gs_4 hc_gs_5 hc_gs_6 hc_gs_7 hc_gs_8 hc_gs_9 hc_gs_10
      obtain ⟨hc_gp_0, hc_gp_1, hc_gp_2, hc_gp_3, hc_gp_4, hc_gp_5, hc_gp_6, hc_gp_7, hc_gp_8, hc_gp_9, hc_gp_10, hc_gp_11⟩ := cc12 B_gp.1
      obtain ⟨hc_gs_0, hc_gs_1, hc_gs_2, hc_gs_3, hc_gs_4, hc_gs_5, hc_gs_6, hc_gs_7, hc_gs_8, hc_gs_9, hc_gs_10⟩ := cc11 B_gs.1
      go_upto_region 7 with ((go_at_call 6; (with_reducible refine (clepsydraref21_Of.calls k p0 p1 p2 p3 p4 p5 p6 p7 p8 p9 p10 p11 s0 s1 s2 s3 s4 s5 s6 sA sc sl s8 s9 s10 0 _ (Kd.C_below HRs.1 HB.1) HCs.1 HH2.1).mono ?_); rintro e w7_ ⟨rfl, hb⟩; replace B_gp := bb hb B_gp.1; replace B_gs := bb hb B_gs.1; replace B_gf := bb hb B_gf.1; replace HB := Aside0.mk (below_step HB.1 hb); clear hb))
      clear hc_gp_0 hc_gp_1 hc_gp_2 hc_gp_3 hc_gp_4 hc_gp_5 hc_gp_6 hc_gp_7 hc_gp_8 hc_gp_9 hc_gp_10 hc_gp_11 hc_gs_0 hc_gs_1 hc_gs_2 hc_gs_3 hc_gs_4 hc_gs_5 hc_gs_6 hc_gs_7 hc_gs_8 hc_gs_9 hc_gs_10
      go_upto_region 8 with ((go_at_call 7; (with_reducible refine (health_Front_Now.boot k gf p0 p1 p2 p3 p4 p5 p6 p7 p8 p9 p10 p11 s0 s1 s2 s3 s4 s5 s6 sA sc sl s8 s9 s10 _ (Kd.C_below HRs.1 HB.1) HCs.1 B_gf.1 HHH.1).mono ?_); rintro e w8_ ⟨rfl, hb⟩; replace B_gp := bb hb B_gp.1; replace B_gs := bb hb B_gs.1; replace B_gf := bb hb B_gf.1; replace HB := Aside0.mk (below_step HB.1 hb); clear hb))
      go_upto_region 9 with (first | (go_at_call 8; (with_reducible refine (health_Front_Interval.boot k gf p0 p1 p2 p3 p4 p5 p6 p7 p8 p9 p10 p11 s0 s1 s2 s3 s4 s5 s6 sA sc sl s8 s9 s10 _ (Kd.C_below HRs.1 HB.1) HCs.1 B_gf.1 HHH.1).mono ?_); rintro e w9_ ⟨rfl, hb⟩; replace B_gp := bb hb B_gp.1; replace B_gs := bb hb B_gs.1; replace B_gf := bb hb B_gf.1; replace HB := Aside0.mk (below_step HB.1 hb); clear hb) | ((with_reducible refine gate_dst (N := 9) rfl ?_); refine bx 9 #[.int .i64 0, .int .i64 0] 25 ?_; intro gi hg w10_ hbox hb; have N_gp_gi := nl hg B_gp.1; have N_gs_gi := nl hg B_gs.1; have N_gf_gi := nl hg B_gf.1; have N_gi_gp := ng hg B_gp.1; have N_gi_gs := ng hg B_gs.1; have N_gi_gf := ng hg B_gf.1; have E_gi : Aside0 (w.heap.size ≤ gi) := ⟨by rw [hg]; exact below_size HB.1⟩; replace B_gp := bb hb B_gp.1; replace B_gs := bb hb B_gs.1; replace B_gf := bb hb B_gf.1; replace HB := Aside0.mk (below_step HB.1 hb); have B_gi := Aside0.mk hbox; clear hb hbox hg; have hr1f_gi_0 := blk_frozen B_gi.1 0; have hr1_gi_0 : w10_.cell? ⟨gi, 0, none⟩ = some (.int .i64 0) := (blk_cell B_gi.1 0).trans rfl; have hr1f_gi_1 := blk_frozen B_gi.1 1; have hr1_gi_1 : w10_.cell? ⟨gi, 1, none⟩ = some (.int .i64 0) := (blk_cell B_gi.1 1).trans rfl))
      clear hr1f_gi_0 hr1_gi_0 hr1f_gi_1 hr1_gi_1
      have n0_ : Aside0 (((w10_.setCell ⟨gi, 0, none⟩ (.int .i64 0)).setCell ⟨gi, 1, none⟩ (.int .i64 0)).heap[gp]? = some (.cells #[.int .i64 p0, .int .i64 p1, .int .i64 p2, .int .i64 p3, .int .i64 p4, .int .i64 p5, .int .i64 p6, .int .i64 p7, .int .i64 p8, .int .i64 p9, .int .i64 p10, .int .i64 p11] 23 (0, 0))) := ⟨blk_far (blk_far (B_gp.1) N_gp_gi.1 _) N_gp_gi.1 _⟩
      have n1_ : Aside0 (((w10_.setCell ⟨gi, 0, none⟩ (.int .i64 0)).setCell ⟨gi, 1, none⟩ (.int .i64 0)).heap[gs]? = some (.cells #[.int .i64 s0, .int .i64 s1, .int .i64 s2, .bool s3, .int .i64 s4, .int .i64 s5, .bool s6, .slice sA sl.length sc, .int .i64 s8, .int .i64 s9, .int .i64 s10] 30 (0, 0))) := ⟨blk_far (blk_far (B_gs.1) N_gs_gi.1 _) N_gs_gi.1 _⟩
      have n2_ : Aside0 (((w10_.setCell ⟨gi, 0, none⟩ (.int .i64 0)).setCell ⟨gi, 1, none⟩ (.int .i64 0)).heap[gf]? = some (.cells #[.int .i64 p0, .int .i64 p1, .int .i64 p2, .int .i64 p3, .int .i64 p4, .int .i64 p5, .int .i64 p6, .int .i64 p7, .int .i64 p8, .int .i64 p9, .int .i64 p10, .int .i64 p11, .int .i64 s0, .int .i64 s1, .int .i64 s2, .bool s3, .int .i64 s4, .int .i64 s5, .bool s6, .slice sA sl.length sc, .int .i64 s8, .int .i64 s9, .int .i64 s10] 35 (0, 0))) := ⟨blk_far (blk_far (B_gf.1) N_gf_gi.1 _) N_gf_gi.1 _⟩
      have n3_ : Aside0 (((w10_.setCell ⟨gi, 0, none⟩ (.int .i64 0)).setCell ⟨gi, 1, none⟩ (.int .i64 0)).heap[gi]? = some (.cells #[.int .i64 0, .int .i64 0] 25 (0, 0))) := ⟨by have h_ := blk_set (blk_set (B_gi.1) 0 (.int .i64 0)) 1 (.int .i64 0); simp only [List.setIfInBounds_toArray, List.set_cons_zero, List.set_cons_succ] at h_; exact h_⟩
      have n4_ : Aside0 (Below w.heap.size w ((w10_.setCell ⟨gi, 0, none⟩ (.int .i64 0)).setCell ⟨gi, 1, none⟩ (.int .i64 0))) := ⟨below_set (below_set (HB.1) E_gi.1) E_gi.1⟩
      clear B_gp B_gs B_gf B_gi HB
      have B_gp := n0_
      have B_gs := n1_
      have B_gf := n2_
      have B_gi := n3_
      have HB := n4_
      clear n0_ n1_ n2_ n3_ n4_
      generalize ((w10_.setCell ⟨gi, 0, none⟩ (.int .i64 0)).setCell ⟨gi, 1, none⟩ (.int .i64 0)) = w11_ at B_gp B_gs B_gf B_gi HB ⊢
      go_upto_region 10 with (first | (go_at_call 9; (with_reducible refine (health_Front_UTC.boot k gf p0 p1 p2 p3 p4 p5 p6 p7 p8 p9 p10 p11 s0 s1 s2 s3 s4 s5 s6 sA sc sl s8 s9 s10 _ (Kd.C_below HRs.1 HB.1) HCs.1 B_gf.1 HHH.1).mono ?_); rintro e w12_ ⟨rfl, hb⟩; replace B_gp := bb hb B_gp.1; replace B_gs := bb hb B_gs.1; replace B_gf := bb hb B_gf.1; replace B_gi := bb hb B_gi.1; replace HB := Aside0.mk (below_step HB.1 hb); clear hb) | ((with_reducible refine gate_dst (N := 11) rfl ?_); refine bx 11 #[.int .i64 0, .int .i64 0, .int .i64 0, .int .i64 0, .int .i64 0, .int .i64 0] 43 ?_; intro gl hg w13_ hbox hb; have N_gp_gl := nl hg B_gp.1; have N_gs_gl := nl hg B_gs.1; have N_gf_gl := nl hg B_gf.1; have N_gi_gl := nl hg B_gi.1; have N_gl_gp := ng hg B_gp.1; have N_gl_gs := ng hg B_gs.1; have N_gl_gf := ng hg B_gf.1; have N_gl_gi := ng hg B_gi.1; have E_gl : Aside0 (w.heap.size ≤ gl) := ⟨by rw [hg]; exact below_size HB.1⟩; replace B_gp := bb hb B_gp.1; replace B_gs := bb hb B_gs.1; replace B_gf := bb hb B_gf.1; replace B_gi := bb hb B_gi.1; replace HB := Aside0.mk (below_step HB.1 hb); have B_gl := Aside0.mk hbox; clear hb hbox hg; have hr2f_gl_0 := blk_frozen B_gl.1 0; have hr2_gl_0 : w13_.cell? ⟨gl, 0, none⟩ = some (.int .i64 0) := (blk_cell B_gl.1 0).trans rfl; have hr2f_gl_1 := blk_frozen B_gl.1 1; have hr2_gl_1 : w13_.cell? ⟨gl, 1, none⟩ = some (.int .i64 0) := (blk_cell B_gl.1 1).trans rfl; have hr2f_gl_2 := blk_frozen B_gl.1 2; have hr2_gl_2 : w13_.cell? ⟨gl, 2, none⟩ = some (.int .i64 0) := (blk_cell B_gl.1 2).trans rfl; have hr2f_gl_3 := blk_frozen B_gl.1 3; have hr2_gl_3 : w13_.cell? ⟨gl, 3, none⟩ = some (.int .i64 0) := (blk_cell B_gl.1 3).trans rfl; have hr2f_gl_4 := blk_frozen B_gl.1 4; have hr2_gl_4 : w13_.cell? ⟨gl, 4, none⟩ = some (.int .i64 0) := (blk_cell B_gl.1 4).trans rfl; have hr2f_gl_5 := blk_frozen B_gl.1 5; have hr2_gl_5 : w13_.cell? ⟨gl, 5, none⟩ = some (.int .i64 0) := (blk_cell B_gl.1 5).trans rfl))
      clear hr2f_gl_0 hr2_gl_0 hr2f_gl_1 hr2_gl_1 hr2f_gl_2 hr2_gl_2 hr2f_gl_3 hr2_gl_3 hr2f_gl_4 hr2_gl_4 hr2f_gl_5 hr2_gl_5
      have n0_ : Aside0 (((((((w13_.setCell ⟨gl, 0, none⟩ (.int .i64 0)).setCell ⟨gl, 1, none⟩ (.int .i64 0)).setCell ⟨gl, 2, none⟩ (.int .i64 0)).setCell ⟨gl, 3, none⟩ (.int .i64 0)).setCell ⟨gl, 4, none⟩ (.int .i64 0)).setCell ⟨gl, 5, none⟩ (.int .i64 0)).heap[gp]? = some (.cells #[.int .i64 p0, .int .i64 p1, .int .i64 p2, .int .i64 p3, .int .i64 p4, .int .i64 p5, .int .i64 p6, .int .i64 p7, .int .i64 p8, .int .i64 p9, .int .i64 p10, .int .i64 p11] 23 (0, 0))) := ⟨blk_far (blk_far (blk_far (blk_far (blk_far (blk_far (B_gp.1) N_gp_gl.1 _) N_gp_gl.1 _) N_gp_gl.1 _) N_gp_gl.1 _) N_gp_gl.1 _) N_gp_gl.1 _⟩
      have n1_ : Aside0 (((((((w13_.setCell ⟨gl, 0, none⟩ (.int .i64 0)).setCell ⟨gl, 1, none⟩ (.int .i64 0)).setCell ⟨gl, 2, none⟩ (.int .i64 0)).setCell ⟨gl, 3, none⟩ (.int .i64 0)).setCell ⟨gl, 4, none⟩ (.int .i64 0)).setCell ⟨gl, 5, none⟩ (.int .i64 0)).heap[gs]? = some (.cells #[.int .i64 s0, .int .i64 s1, .int .i64 s2, .bool s3, .int .i64 s4, .int .i64 s5, .bool s6, .slice sA sl.length sc, .int .i64 s8, .int .i64 s9, .int .i64 s10] 30 (0, 0))) := ⟨blk_far (blk_far (blk_far (blk_far (blk_far (blk_far (B_gs.1) N_gs_gl.1 _) N_gs_gl.1 _) N_gs_gl.1 _) N_gs_gl.1 _) N_gs_gl.1 _) N_gs_gl.1 _⟩
      have n2_ : Aside0 (((((((w13_.setCell ⟨gl, 0, none⟩ (.int .i64 0)).setCell ⟨gl, 1, none⟩ (.int .i64 0)).setCell ⟨gl, 2, none⟩ (.int .i64 0)).setCell ⟨gl, 3, none⟩ (.int .i64 0)).setCell ⟨gl, 4, none⟩ (.int .i64 0)).setCell ⟨gl, 5, none⟩ (.int .i64 0)).heap[gf]? = some (.cells #[.int .i64 p0, .int .i64 p1, .int .i64 p2, .int .i64 p3, .int .i64 p4, .int .i64 p5, .int .i64 p6, .int .i64 p7, .int .i64 p8, .int .i64 p9, .int .i64 p10, .int .i64 p11, .int .i64 s0, .int .i64 s1, .int .i64 s2, .bool s3, .int .i64 s4, .int .i64 s5, .bool s6, .slice sA sl.length sc, .int .i64 s8, .int .i64 s9, .int .i64 s10] 35 (0, 0))) := ⟨blk_far (blk_far (blk_far (blk_far (blk_far (blk_far (B_gf.1) N_gf_gl.1 _) N_gf_gl.1 _) N_gf_gl.1 _) N_gf_gl.1 _) N_gf_gl.1 _) N_gf_gl.1 _⟩
      have n3_ : Aside0 (((((((w13_.setCell ⟨gl, 0, none⟩ (.int .i64 0)).setCell ⟨gl, 1, none⟩ (.int .i64 0)).setCell ⟨gl, 2, none⟩ (.int .i64 0)).setCell ⟨gl, 3, none⟩ (.int .i64 0)).setCell ⟨gl, 4, none⟩ (.int .i64 0)).setCell ⟨gl, 5, none⟩ (.int .i64 0)).heap[gi]? = some (.cells #[.int .i64 0, .int .i64 0] 25 (0, 0))) := ⟨blk_far (blk_far (blk_far (blk_far (blk_far (blk_far (B_gi.1) N_gi_gl.1 _) N_gi_gl.1 _) N_gi_gl.1 _) N_gi_gl.1 _) N_gi_gl.1 _) N_gi_gl.1 _⟩
      have n4_ : Aside0 (((((((w13_.setCell ⟨gl, 0, none⟩ (.int .i64 0)).setCell ⟨gl, 1, none⟩ (.int .i64 0)).setCell ⟨gl, 2, none⟩ (.int .i64 0)).setCell ⟨gl, 3, none⟩ (.int .i64 0)).setCell ⟨gl, 4, none⟩ (.int .i64 0)).setCell ⟨gl, 5, none⟩ (.int .i64 0)).heap[gl]? = some (.cells #[.int .i64 0, .int .i64 0, .int .i64 0, .int .i64 0, .int .i64 0, .int .i64 0] 43 (0, 0))) := ⟨by have h_ := blk_set (blk_set (blk_set (blk_set (blk_set (blk_set (B_gl.1) 0 (.int .i64 0)) 1 (.int .i64 0)) 2 (.int .i64 0)) 3 (.int .i64 0)) 4 (.int .i64 0)) 5 (.int .i64 0); simp only [List.setIfInBounds_toArray, List.set_cons_zero, List.set_cons_succ] at h_; exact h_⟩
      have n5_ : Aside0 (Below w.heap.size w ((((((w13_.setCell ⟨gl, 0, none⟩ (.int .i64 0)).setCell ⟨gl, 1, none⟩ (.int .i64 0)).setCell ⟨gl, 2, none⟩ (.int .i64 0)).setCell ⟨gl, 3, none⟩ (.int .i64 0)).setCell ⟨gl, 4, none⟩ (.int .i64 0)).setCell ⟨gl, 5, none⟩ (.int .i64 0))) := ⟨below_set (below_set (below_set (below_set (below_set (below_set (HB.1) E_gl.1) E_gl.1) E_gl.1) E_gl.1) E_gl.1) E_gl.1⟩
      clear B_gp B_gs B_gf B_gi B_gl HB
      have B_gp := n0_
      have B_gs := n1_
      have B_gf := n2_
      have B_gi := n3_
      have B_gl := n4_
      have HB := n5_
      clear n0_ n1_ n2_ n3_ n4_ n5_
      generalize ((((((w13_.setCell ⟨gl, 0, none⟩ (.int .i64 0)).setCell ⟨gl, 1, none⟩ (.int .i64 0)).setCell ⟨gl, 2, none⟩ (.int .i64 0)).setCell ⟨gl, 3, none⟩ (.int .i64 0)).setCell ⟨gl, 4, none⟩ (.int .i64 0)).setCell ⟨gl, 5, none⟩ (.int .i64 0)) = w14_ at B_gp B_gs B_gf B_gi B_gl HB ⊢
      obtain ⟨hc_gp_0, hc_gp_1, hc_gp_2, hc_gp_3, hc_gp_4, hc_gp_5, hc_gp_6, hc_gp_7, hc_gp_8, hc_gp_9, hc_gp_10, hc_gp_11⟩ := cc12 B_gp.1
      obtain ⟨hc_gs_0, hc_gs_1, hc_gs_2, hc_gs_3, hc_gs_4, hc_gs_5, hc_gs_6, hc_gs_7, hc_gs_8, hc_gs_9, hc_gs_10⟩ := cc11 B_gs.1
      go_upto_region 11 with (first | (go_at_call 10; (with_reducible refine (clepsydraref21_UTC.calls k p0 p1 p2 p3 p4 p5 p6 p7 p8 p9 p10 p11 s0 s1 s2 s3 s4 s5 s6 sA sc sl s8 s9 s10 0 0 0 0 0 0 20 _ (Kd.C_below HRs.1 HB.1) HCs.1 HV.1).mono ?_); rintro e w15_ ⟨rfl, hb⟩; replace B_gp := bb hb B_gp.1; replace B_gs := bb hb B_gs.1; replace B_gf := bb hb B_gf.1; replace B_gi := bb hb B_gi.1; replace B_gl := bb hb B_gl.1; replace HB := Aside0.mk (below_step HB.1 hb); clear hb) | ((with_reducible refine gate_dst (N := 13) rfl ?_); refine bx 13 #[.int .i64 0, .int .i64 0, .int .i64 0, .int .i64 0, .int .i64 0, .int .i64 0] 43 ?_; intro gm hg w16_ hbox hb; have N_gp_gm := nl hg B_gp.1; have N_gs_gm := nl hg B_gs.1; have N_gf_gm := nl hg B_gf.1; have N_gi_gm := nl hg B_gi.1; have N_gl_gm := nl hg B_gl.1; have N_gm_gp := ng hg B_gp.1; have N_gm_gs := ng hg B_gs.1; have N_gm_gf := ng hg B_gf.1; have N_gm_gi := ng hg B_gi.1; have N_gm_gl := ng hg B_gl.1; have E_gm : Aside0 (w.heap.size ≤ gm) := ⟨by rw [hg]; exact below_size HB.1⟩; replace B_gp := bb hb B_gp.1; replace B_gs := bb hb B_gs.1; replace B_gf := bb hb B_gf.1; replace B_gi := bb hb B_gi.1; replace B_gl := bb hb B_gl.1; replace HB := Aside0.mk (below_step HB.1 hb); have B_gm := Aside0.mk hbox; clear hb hbox hg; have hr3f_gm_0 := blk_frozen B_gm.1 0; have hr3_gm_0 : w16_.cell? ⟨gm, 0, none⟩ = some (.int .i64 0) := (blk_cell B_gm.1 0).trans rfl; have hr3f_gm_1 := blk_frozen B_gm.1 1; have hr3_gm_1 : w16_.cell? ⟨gm, 1, none⟩ = some (.int .i64 0) := (blk_cell B_gm.1 1).trans rfl; have hr3f_gm_2 := blk_frozen B_gm.1 2; have hr3_gm_2 : w16_.cell? ⟨gm, 2, none⟩ = some (.int .i64 0) := (blk_cell B_gm.1 2).trans rfl; have hr3f_gm_3 := blk_frozen B_gm.1 3; have hr3_gm_3 : w16_.cell? ⟨gm, 3, none⟩ = some (.int .i64 0) := (blk_cell B_gm.1 3).trans rfl; have hr3f_gm_4 := blk_frozen B_gm.1 4; have hr3_gm_4 : w16_.cell? ⟨gm, 4, none⟩ = some (.int .i64 0) := (blk_cell B_gm.1 4).trans rfl; have hr3f_gm_5 := blk_frozen B_gm.1 5; have hr3_gm_5 : w16_.cell? ⟨gm, 5, none⟩ = some (.int .i64 0) := (blk_cell B_gm.1 5).trans rfl))
      clear hc_gp_0 hc_gp_1 hc_gp_2 hc_gp_3 hc_gp_4 hc_gp_5 hc_gp_6 hc_gp_7 hc_gp_8 hc_gp_9 hc_gp_10 hc_gp_11 hc_gs_0 hc_gs_1 hc_gs_2 hc_gs_3 hc_gs_4 hc_gs_5 hc_gs_6 hc_gs_7 hc_gs_8 hc_gs_9 hc_gs_10 hr3f_gm_0 hr3_gm_0 hr3f_gm_1 hr3_gm_1 hr3f_gm_2 hr3_gm_2 hr3f_gm_3 hr3_gm_3 hr3f_gm_4 hr3_gm_4 hr3f_gm_5 hr3_gm_5
      have n0_ : Aside0 (((((((w16_.setCell ⟨gm, 0, none⟩ (.int .i64 0)).setCell ⟨gm, 1, none⟩ (.int .i64 0)).setCell ⟨gm, 2, none⟩ (.int .i64 0)).setCell ⟨gm, 3, none⟩ (.int .i64 0)).setCell ⟨gm, 4, none⟩ (.int .i64 0)).setCell ⟨gm, 5, none⟩ (.int .i64 0)).heap[gp]? = some (.cells #[.int .i64 p0, .int .i64 p1, .int .i64 p2, .int .i64 p3, .int .i64 p4, .int .i64 p5, .int .i64 p6, .int .i64 p7, .int .i64 p8, .int .i64 p9, .int .i64 p10, .int .i64 p11] 23 (0, 0))) := ⟨blk_far (blk_far (blk_far (blk_far (blk_far (blk_far (B_gp.1) N_gp_gm.1 _) N_gp_gm.1 _) N_gp_gm.1 _) N_gp_gm.1 _) N_gp_gm.1 _) N_gp_gm.1 _⟩
      have n1_ : Aside0 (((((((w16_.setCell ⟨gm, 0, none⟩ (.int .i64 0)).setCell ⟨gm, 1, none⟩ (.int .i64 0)).setCell ⟨gm, 2, none⟩ (.int .i64 0)).setCell ⟨gm, 3, none⟩ (.int .i64 0)).setCell ⟨gm, 4, none⟩ (.int .i64 0)).setCell ⟨gm, 5, none⟩ (.int .i64 0)).heap[gs]? = some (.cells #[.int .i64 s0, .int .i64 s1, .int .i64 s2, .bool s3, .int .i64 s4, .int .i64 s5, .bool s6, .slice sA sl.length sc, .int .i64 s8, .int .i64 s9, .int .i64 s10] 30 (0, 0))) := ⟨blk_far (blk_far (blk_far (blk_far (blk_far (blk_far (B_gs.1) N_gs_gm.1 _) N_gs_gm.1 _) N_gs_gm.1 _) N_gs_gm.1 _) N_gs_gm.1 _) N_gs_gm.1 _⟩
      have n2_ : Aside0 (((((((w16_.setCell ⟨gm, 0, none⟩ (.int .i64 0)).setCell ⟨gm, 1, none⟩ (.int .i64 0)).setCell ⟨gm, 2, none⟩ (.int .i64 0)).setCell ⟨gm, 3, none⟩ (.int .i64 0)).setCell ⟨gm, 4, none⟩ (.int .i64 0)).setCell ⟨gm, 5, none⟩ (.int .i64 0)).heap[gf]? = some (.cells #[.int .i64 p0, .int .i64 p1, .int .i64 p2, .int .i64 p3, .int .i64 p4, .int .i64 p5, .int .i64 p6, .int .i64 p7, .int .i64 p8, .int .i64 p9, .int .i64 p10, .int .i64 p11, .int .i64 s0, .int .i64 s1, .int .i64 s2, .bool s3, .int .i64 s4, .int .i64 s5, .bool s6, .slice sA sl.length sc, .int .i64 s8, .int .i64 s9, .int .i64 s10] 35 (0, 0))) := ⟨blk_far (blk_far (blk_far (blk_far (blk_far (blk_far (B_gf.1) N_gf_gm.1 _) N_gf_gm.1 _) N_gf_gm.1 _) N_gf_gm.1 _) N_gf_gm.1 _) N_gf_gm.1 _⟩
      have n3_ : Aside0 (((((((w16_.setCell ⟨gm, 0, none⟩ (.int .i64 0)).setCell ⟨gm, 1, none⟩ (.int .i64 0)).setCell ⟨gm, 2, none⟩ (.int .i64 0)).setCell ⟨gm, 3, none⟩ (.int .i64 0)).setCell ⟨gm, 4, none⟩ (.int .i64 0)).setCell ⟨gm, 5, none⟩ (.int .i64 0)).heap[gi]? = some (.cells #[.int .i64 0, .int .i64 0] 25 (0, 0))) := ⟨blk_far (blk_far (blk_far (blk_far (blk_far (blk_far (B_gi.1) N_gi_gm.1 _) N_gi_gm.1 _) N_gi_gm.1 _) N_gi_gm.1 _) N_gi_gm.1 _) N_gi_gm.1 _⟩
      have n4_ : Aside0 (((((((w16_.setCell ⟨gm, 0, none⟩ (.int .i64 0)).setCell ⟨gm, 1, none⟩ (.int .i64 0)).setCell ⟨gm, 2, none⟩ (.int .i64 0)).setCell ⟨gm, 3, none⟩ (.int .i64 0)).setCell ⟨gm, 4, none⟩ (.int .i64 0)).setCell ⟨gm, 5, none⟩ (.int .i64 0)).heap[gl]? = some (.cells #[.int .i64 0, .int .i64 0, .int .i64 0, .int .i64 0, .int .i64 0, .int .i64 0] 43 (0, 0))) := ⟨blk_far (blk_far (blk_far (blk_far (blk_far (blk_far (B_gl.1) N_gl_gm.1 _) N_gl_gm.1 _) N_gl_gm.1 _) N_gl_gm.1 _) N_gl_gm.1 _) N_gl_gm.1 _⟩
      have n5_ : Aside0 (((((((w16_.setCell ⟨gm, 0, none⟩ (.int .i64 0)).setCell ⟨gm, 1, none⟩ (.int .i64 0)).setCell ⟨gm, 2, none⟩ (.int .i64 0)).setCell ⟨gm, 3, none⟩ (.int .i64 0)).setCell ⟨gm, 4, none⟩ (.int .i64 0)).setCell ⟨gm, 5, none⟩ (.int .i64 0)).heap[gm]? = some (.cells #[.int .i64 0, .int .i64 0, .int .i64 0, .int .i64 0, .int .i64 0, .int .i64 0] 43 (0, 0))) := ⟨by have h_ := blk_set (blk_set (blk_set (blk_set (blk_set (blk_set (B_gm.1) 0 (.int .i64 0)) 1 (.int .i64 0)) 2 (.int .i64 0)) 3 (.int .i64 0)) 4 (.int .i64 0)) 5 (.int .i64 0); simp only [List.setIfInBounds_toArray, List.set_cons_zero, List.set_cons_succ] at h_; exact h_⟩
      have n6_ : Aside0 (Below w.heap.size w ((((((w16_.setCell ⟨gm, 0, none⟩ (.int .i64 0)).setCell ⟨gm, 1, none⟩ (.int .i64 0)).setCell ⟨gm, 2, none⟩ (.int .i64 0)).setCell ⟨gm, 3, none⟩ (.int .i64 0)).setCell ⟨gm, 4, none⟩ (.int .i64 0)).setCell ⟨gm, 5, none⟩ (.int .i64 0))) := ⟨below_set (below_set (below_set (below_set (below_set (below_set (HB.1) E_gm.1) E_gm.1) E_gm.1) E_gm.1) E_gm.1) E_gm.1⟩
      clear B_gp B_gs B_gf B_gi B_gl B_gm HB
      have B_gp := n0_
      have B_gs := n1_
      have B_gf := n2_
      have B_gi := n3_
      have B_gl := n4_
      have B_gm := n5_
      have HB := n6_
      clear n0_ n1_ n2_ n3_ n4_ n5_ n6_
      generalize ((((((w16_.setCell ⟨gm, 0, none⟩ (.int .i64 0)).setCell ⟨gm, 1, none⟩ (.int .i64 0)).setCell ⟨gm, 2, none⟩ (.int .i64 0)).setCell ⟨gm, 3, none⟩ (.int .i64 0)).setCell ⟨gm, 4, none⟩ (.int .i64 0)).setCell ⟨gm, 5, none⟩ (.int .i64 0)) = w17_ at B_gp B_gs B_gf B_gi B_gl B_gm HB ⊢
      go_upto_region 12 with ((go_at_call 11; (with_reducible refine (health_Front_Pulse.boot k gf p0 p1 p2 p3 p4 p5 p6 p7 p8 p9 p10 p11 s0 s1 s2 s3 s4 s5 s6 sA sc sl s8 s9 s10 _ (Kd.C_below HRs.1 HB.1) HCs.1 B_gf.1 HHH.1).mono ?_); rintro e w18_ ⟨rfl, hb⟩; replace B_gp := bb hb B_gp.1; replace B_gs := bb hb B_gs.1; replace B_gf := bb hb B_gf.1; replace B_gi := bb hb B_gi.1; replace B_gl := bb hb B_gl.1; replace B_gm := bb hb B_gm.1; replace HB := Aside0.mk (below_step HB.1 hb); clear hb))
      replace B_gp := Aside0.mk (blk_drew B_gp.1)
      replace B_gs := Aside0.mk (blk_drew B_gs.1)
      replace B_gf := Aside0.mk (blk_drew B_gf.1)
      replace B_gi := Aside0.mk (blk_drew B_gi.1)
      replace B_gl := Aside0.mk (blk_drew B_gl.1)
      replace B_gm := Aside0.mk (blk_drew B_gm.1)
      replace HB := Aside0.mk (below_drew1 HB.1)
      refine start_ (n := 13) (S := fun w' => w'.heap[gp]? = some (.cells #[.int .i64 p0, .int .i64 p1, .int .i64 p2, .int .i64 p3, .int .i64 p4, .int .i64 p5, .int .i64 p6, .int .i64 p7, .int .i64 p8, .int .i64 p9, .int .i64 p10, .int .i64 p11] 23 (0, 0)) ∧ w'.heap[gs]? = some (.cells #[.int .i64 s0, .int .i64 s1, .int .i64 s2, .bool s3, .int .i64 s4, .int .i64 s5, .bool s6, .slice sA sl.length sc, .int .i64 s8, .int .i64 s9, .int .i64 s10] 30 (0, 0))) (ds := []) (bs 13 0) (by kernel_rfl) rfl (by rfl) ⟨B_gp.1, B_gs.1⟩ (fun hHeld => ?_)
      generalize w18_.drew = w19_ at B_gp B_gs B_gf B_gi B_gl B_gm HB hHeld ⊢
      refine pu 0 62 1 ?_
      refine pu 2 64 5 ?_
      refine pu 5 67 37 ?_
      refine take_ (i := 1) (N := some 63) (v := ?_) (a' := ?_) (bs 13 39) rfl rfl (by kernel_rfl) (fun _ _ _ h => h) (Or.inl ⟨by rfl, ?_⟩) hHeld ?_ ?_
      rotate_left
      ·rintro w' ⟨s_gp, s_gs⟩
       have c_2 : w'.cell? ⟨gs, 2, none⟩ = some (.int .i64 s2) := (blk_cell s_gs 2).trans rfl
       clear s_gp s_gs
       go_simp
       with_reducible rfl
      rotate_left
      ·simp only [Act.put, List.setIfInBounds_toArray, List.set_cons_zero, List.set_cons_succ, i64_w, i32_w]
       rfl
      refine take_ (i := 3) (N := some 65) (v := ?_) (a' := ?_) (bs 13 47) rfl rfl (by kernel_rfl) (fun _ _ _ h => h) (Or.inl ⟨by rfl, ?_⟩) hHeld ?_ ?_
      rotate_left
      ·rintro w' ⟨s_gp, s_gs⟩
       have c_0 : w'.cell? ⟨gs, 0, none⟩ = some (.int .i64 s0) := (blk_cell s_gs 0).trans rfl
       have c_1 : w'.cell? ⟨gs, 1, none⟩ = some (.int .i64 s1) := (blk_cell s_gs 1).trans rfl
       clear s_gp s_gs
       go_simp
       with_reducible rfl
      rotate_left
      ·simp only [Act.put, List.setIfInBounds_toArray, List.set_cons_zero, List.set_cons_succ, i64_w, i32_w]
       rfl
      refine take_ (i := 4) (N := some 66) (v := ?_) (a' := ?_) (bs 13 63) rfl rfl (by kernel_rfl) (fun _ _ _ h => h) (Or.inl ⟨by rfl, ?_⟩) hHeld ?_ ?_
      rotate_left
      ·rintro w' ⟨s_gp, s_gs⟩
       have c_0 : w'.cell? ⟨gp, 0, none⟩ = some (.int .i64 p0) := (blk_cell s_gp 0).trans rfl
       have c_1 : w'.cell? ⟨gp, 1, none⟩ = some (.int .i64 p1) := (blk_cell s_gp 1).trans rfl
       have c_2 : w'.cell? ⟨gp, 2, none⟩ = some (.int .i64 p2) := (blk_cell s_gp 2).trans rfl
       have c_3 : w'.cell? ⟨gp, 3, none⟩ = some (.int .i64 p3) := (blk_cell s_gp 3).trans rfl
       have c_4 : w'.cell? ⟨gp, 4, none⟩ = some (.int .i64 p4) := (blk_cell s_gp 4).trans rfl
       have c_5 : w'.cell? ⟨gp, 5, none⟩ = some (.int .i64 p5) := (blk_cell s_gp 5).trans rfl
       have c_6 : w'.cell? ⟨gp, 6, none⟩ = some (.int .i64 p6) := (blk_cell s_gp 6).trans rfl
       have c_7 : w'.cell? ⟨gp, 7, none⟩ = some (.int .i64 p7) := (blk_cell s_gp 7).trans rfl
       have c_8 : w'.cell? ⟨gp, 8, none⟩ = some (.int .i64 p8) := (blk_cell s_gp 8).trans rfl
       have c_9 : w'.cell? ⟨gp, 9, none⟩ = some (.int .i64 p9) := (blk_cell s_gp 9).trans rfl
       have c_10 : w'.cell? ⟨gp, 10, none⟩ = some (.int .i64 p10) := (blk_cell s_gp 10).trans rfl
       have c_11 : w'.cell? ⟨gp, 11, none⟩ = some (.int .i64 p11) := (blk_cell s_gp 11).trans rfl
       clear s_gp s_gs
       go_simp
       with_reducible rfl
      rotate_left
      ·simp only [Act.put, List.setIfInBounds_toArray, List.set_cons_zero, List.set_cons_succ, i64_w, i32_w]
       rfl
      refine take_ (i := 6) (N := some 68) (v := ?_) (a' := ?_) (bs 13 127) rfl rfl (by kernel_rfl) (fun _ _ _ h => h) (Or.inl ⟨by rfl, ?_⟩) hHeld ?_ ?_
      rotate_left
      ·rintro w' ⟨s_gp, s_gs⟩
       have c_2 : w'.cell? ⟨gs, 2, none⟩ = some (.int .i64 s2) := (blk_cell s_gs 2).trans rfl
       clear s_gp s_gs
       go_simp
       with_reducible rfl
      rotate_left
      ·simp only [Act.put, List.setIfInBounds_toArray, List.set_cons_zero, List.set_cons_succ, i64_w, i32_w]
       rfl
      refine join_ (σ := Nat) 2 (bs 13 2047) (fun s_ => [(69, .int .i64 nb), (19, .pointer (some ⟨s_, 0, none⟩)), (17, .int .i64 0), (18, .int .i64 s2)]) (fun s_ w' => (w'.heap[gp]? = some (.cells #[.int .i64 p0, .int .i64 p1, .int .i64 p2, .int .i64 p3, .int .i64 p4, .int .i64 p5, .int .i64 p6, .int .i64 p7, .int .i64 p8, .int .i64 p9, .int .i64 p10, .int .i64 p11] 23 (0, 0)) ∧ w'.heap[gs]? = some (.cells #[.int .i64 s0, .int .i64 s1, .int .i64 s2, .bool s3, .int .i64 s4, .int .i64 s5, .bool s6, .slice sA sl.length sc, .int .i64 s8, .int .i64 s9, .int .i64 s10] 30 (0, 0))) ∧ (w'.heap[gp]? = some (.cells #[.int .i64 p0, .int .i64 p1, .int .i64 p2, .int .i64 p3, .int .i64 p4, .int .i64 p5, .int .i64 p6, .int .i64 p7, .int .i64 p8, .int .i64 p9, .int .i64 p10, .int .i64 p11] 23 (0, 0))) ∧ (w'.heap[gs]? = some (.cells #[.int .i64 s0, .int .i64 s1, .int .i64 s2, .bool s3, .int .i64 s4, .int .i64 s5, .bool s6, .slice sA sl.length sc, .int .i64 s8, .int .i64 s9, .int .i64 s10] 30 (0, 0))) ∧ (w'.heap[gf]? = some (.cells #[.int .i64 p0, .int .i64 p1, .int .i64 p2, .int .i64 p3, .int .i64 p4, .int .i64 p5, .int .i64 p6, .int .i64 p7, .int .i64 p8, .int .i64 p9, .int .i64 p10, .int .i64 p11, .int .i64 s0, .int .i64 s1, .int .i64 s2, .bool s3, .int .i64 s4, .int .i64 s5, .bool s6, .slice sA sl.length sc, .int .i64 s8, .int .i64 s9, .int .i64 s10] 35 (0, 0))) ∧ (w'.heap[gi]? = some (.cells #[.int .i64 0, .int .i64 0] 25 (0, 0))) ∧ (w'.heap[gl]? = some (.cells #[.int .i64 0, .int .i64 0, .int .i64 0, .int .i64 0, .int .i64 0, .int .i64 0] 43 (0, 0))) ∧ (w'.heap[gm]? = some (.cells #[.int .i64 0, .int .i64 0, .int .i64 0, .int .i64 0, .int .i64 0, .int .i64 0] 43 (0, 0))) ∧ (w'.heap[s_]? = some (.cells #[.int .i64 0, .int .i64 0] 25 (0, 0))) ∧ (Below w.heap.size w w') ∧ w.heap.size ≤ s_ ∧ gp ≠ s_ ∧ s_ ≠ gp ∧ gs ≠ s_ ∧ s_ ≠ gs ∧ gf ≠ s_ ∧ s_ ≠ gf ∧ gi ≠ s_ ∧ s_ ≠ gi ∧ gl ≠ s_ ∧ s_ ≠ gl ∧ gm ≠ s_ ∧ s_ ≠ gm) ?_ ?_
      rotate_left
      ·intro hCont
       refine two_ (i := 7) (j := 8) (Ni := some 69) (Nj := some 19) (bs 13 255) (bs 13 383) rfl rfl rfl rfl (by kernel_rfl) (by decide) (by decide) (fun K hK => ?_) (fun K hK => ?_)
       ·skip
        refine goes_ Tryd.func12 (by kernel_rfl) rfl #[.agg #[.int .i64 p0, .int .i64 p1, .int .i64 p2, .int .i64 p3, .int .i64 p4, .int .i64 p5, .int .i64 p6, .int .i64 p7, .int .i64 p8, .int .i64 p9, .int .i64 p10, .int .i64 p11], .int .i64 s2] (by rfl) rfl rfl (by (try simp only [List.map_toArray, List.map_cons, List.map_nil]); first | done | rfl) ?_
        with_reducible refine (clepsydraref13_Number.calls p0 p1 p2 p3 p4 p5 p6 p7 p8 p9 p10 p11 s2 nb _ HNB.1).mono ?_
        rintro e w20_ ⟨rfl, hb⟩
        replace B_gp := bb hb B_gp.1
        replace B_gs := bb hb B_gs.1
        replace B_gf := bb hb B_gf.1
        replace B_gi := bb hb B_gi.1
        replace B_gl := bb hb B_gl.1
        replace B_gm := bb hb B_gm.1
        replace HB := Aside0.mk (below_step HB.1 hb)
        clear hb
        refine ⟨_, rfl, ?_⟩
        refine hK.out _ _ ⟨B_gp.1, B_gs.1⟩ (fun hHeld => ?_)
        clear hK K
        refine nm 69 ?_
        refine one_ (i := 8) (N := some 19) (bs 13 511) rfl rfl (by kernel_rfl) (by decide) (fun K hK => ?_)
        refine box_step ?hg (N := 19) ?hd (cs := #[.int .i64 0, .int .i64 0]) (t := 25) ?hr ?_; (case hd => rfl); (case hg => rfl); (case hr => first | (go_simp; done) | (go_simp; rfl))
        intro gw hg w21_ hbox hb
        have N_gp_gw := nl hg B_gp.1
        have N_gs_gw := nl hg B_gs.1
        have N_gf_gw := nl hg B_gf.1
        have N_gi_gw := nl hg B_gi.1
        have N_gl_gw := nl hg B_gl.1
        have N_gm_gw := nl hg B_gm.1
        have N_gw_gp := ng hg B_gp.1
        have N_gw_gs := ng hg B_gs.1
        have N_gw_gf := ng hg B_gf.1
        have N_gw_gi := ng hg B_gi.1
        have N_gw_gl := ng hg B_gl.1
        have N_gw_gm := ng hg B_gm.1
        have E_gw : Aside0 (w.heap.size ≤ gw) := ⟨by rw [hg]; exact below_size HB.1⟩
        replace B_gp := bb hb B_gp.1
        replace B_gs := bb hb B_gs.1
        replace B_gf := bb hb B_gf.1
        replace B_gi := bb hb B_gi.1
        replace B_gl := bb hb B_gl.1
        replace B_gm := bb hb B_gm.1
        replace HB := Aside0.mk (below_step HB.1 hb)
        have B_gw := Aside0.mk hbox
        clear hb hbox hg
        refine hK.out _ _ ⟨B_gp.1, B_gs.1⟩ (fun hHeld => ?_)
        clear hK K
        refine nm 19 ?_
        refine pu 9 17 1023 ?_
        refine pu 10 18 2047 ?_
        exact norm_ (by simp only [putAll, Act.put, List.setIfInBounds_toArray, List.set_cons_zero, List.set_cons_succ] <;> rfl) (hCont gw _ ⟨hHeld, B_gp.1, B_gs.1, B_gf.1, B_gi.1, B_gl.1, B_gm.1, B_gw.1, HB.1, E_gw.1, N_gp_gw.1, N_gw_gp.1, N_gs_gw.1, N_gw_gs.1, N_gf_gw.1, N_gw_gf.1, N_gi_gw.1, N_gw_gi.1, N_gl_gw.1, N_gw_gl.1, N_gm_gw.1, N_gw_gm.1⟩)
       ·skip
        refine box_step ?hg (N := 19) ?hd (cs := #[.int .i64 0, .int .i64 0]) (t := 25) ?hr ?_; (case hd => rfl); (case hg => rfl); (case hr => first | (go_simp; done) | (go_simp; rfl))
        intro gw hg w22_ hbox hb
        have N_gp_gw := nl hg B_gp.1
        have N_gs_gw := nl hg B_gs.1
        have N_gf_gw := nl hg B_gf.1
        have N_gi_gw := nl hg B_gi.1
        have N_gl_gw := nl hg B_gl.1
        have N_gm_gw := nl hg B_gm.1
        have N_gw_gp := ng hg B_gp.1
        have N_gw_gs := ng hg B_gs.1
        have N_gw_gf := ng hg B_gf.1
        have N_gw_gi := ng hg B_gi.1
        have N_gw_gl := ng hg B_gl.1
        have N_gw_gm := ng hg B_gm.1
        have E_gw : Aside0 (w.heap.size ≤ gw) := ⟨by rw [hg]; exact below_size HB.1⟩
        replace B_gp := bb hb B_gp.1
        replace B_gs := bb hb B_gs.1
        replace B_gf := bb hb B_gf.1
        replace B_gi := bb hb B_gi.1
        replace B_gl := bb hb B_gl.1
        replace B_gm := bb hb B_gm.1
        replace HB := Aside0.mk (below_step HB.1 hb)
        have B_gw := Aside0.mk hbox
        clear hb hbox hg
        refine hK.out _ _ ⟨B_gp.1, B_gs.1⟩ (fun hHeld => ?_)
        clear hK K
        refine nm 19 ?_
        refine one_ (i := 7) (N := some 69) (bs 13 511) rfl rfl (by kernel_rfl) (by decide) (fun K hK => ?_)
        refine goes_ Tryd.func12 (by kernel_rfl) rfl #[.agg #[.int .i64 p0, .int .i64 p1, .int .i64 p2, .int .i64 p3, .int .i64 p4, .int .i64 p5, .int .i64 p6, .int .i64 p7, .int .i64 p8, .int .i64 p9, .int .i64 p10, .int .i64 p11], .int .i64 s2] (by rfl) rfl rfl (by (try simp only [List.map_toArray, List.map_cons, List.map_nil]); first | done | rfl) ?_
        with_reducible refine (clepsydraref13_Number.calls p0 p1 p2 p3 p4 p5 p6 p7 p8 p9 p10 p11 s2 nb _ HNB.1).mono ?_
        rintro e w23_ ⟨rfl, hb⟩
        replace B_gp := bb hb B_gp.1
        replace B_gs := bb hb B_gs.1
        replace B_gf := bb hb B_gf.1
        replace B_gi := bb hb B_gi.1
        replace B_gl := bb hb B_gl.1
        replace B_gm := bb hb B_gm.1
        replace B_gw := bb hb B_gw.1
        replace HB := Aside0.mk (below_step HB.1 hb)
        clear hb
        refine ⟨_, rfl, ?_⟩
        refine hK.out _ _ ⟨B_gp.1, B_gs.1⟩ (fun hHeld => ?_)
        clear hK K
        refine nm 69 ?_
        refine pu 9 17 1023 ?_
        refine pu 10 18 2047 ?_
        exact norm_ (by simp only [putAll, Act.put, List.setIfInBounds_toArray, List.set_cons_zero, List.set_cons_succ] <;> rfl) (hCont gw _ ⟨hHeld, B_gp.1, B_gs.1, B_gf.1, B_gi.1, B_gl.1, B_gm.1, B_gw.1, HB.1, E_gw.1, N_gp_gw.1, N_gw_gp.1, N_gs_gw.1, N_gw_gs.1, N_gf_gw.1, N_gw_gf.1, N_gi_gw.1, N_gw_gi.1, N_gl_gw.1, N_gw_gl.1, N_gm_gw.1, N_gw_gm.1⟩)
      rintro gw w24_ ⟨hS_, h0_, h1_, h2_, h3_, h4_, h5_, h6_, h7_, hE_, hN0_, hM0_, hN1_, hM1_, hN2_, hM2_, hN3_, hM3_, hN4_, hM4_, hN5_, hM5_⟩
      clear B_gp B_gs B_gf B_gi B_gl B_gm HB
      have B_gp : Aside0 (w24_.heap[gp]? = some (.cells #[.int .i64 p0, .int .i64 p1, .int .i64 p2, .int .i64 p3, .int .i64 p4, .int .i64 p5, .int .i64 p6, .int .i64 p7, .int .i64 p8, .int .i64 p9, .int .i64 p10, .int .i64 p11] 23 (0, 0))) := ⟨h0_⟩
      have B_gs : Aside0 (w24_.heap[gs]? = some (.cells #[.int .i64 s0, .int .i64 s1, .int .i64 s2, .bool s3, .int .i64 s4, .int .i64 s5, .bool s6, .slice sA sl.length sc, .int .i64 s8, .int .i64 s9, .int .i64 s10] 30 (0, 0))) := ⟨h1_⟩
      have B_gf : Aside0 (w24_.heap[gf]? = some (.cells #[.int .i64 p0, .int .i64 p1, .int .i64 p2, .int .i64 p3, .int .i64 p4, .int .i64 p5, .int .i64 p6, .int .i64 p7, .int .i64 p8, .int .i64 p9, .int .i64 p10, .int .i64 p11, .int .i64 s0, .int .i64 s1, .int .i64 s2, .bool s3, .int .i64 s4, .int .i64 s5, .bool s6, .slice sA sl.length sc, .int .i64 s8, .int .i64 s9, .int .i64 s10] 35 (0, 0))) := ⟨h2_⟩
      have B_gi : Aside0 (w24_.heap[gi]? = some (.cells #[.int .i64 0, .int .i64 0] 25 (0, 0))) := ⟨h3_⟩
      have B_gl : Aside0 (w24_.heap[gl]? = some (.cells #[.int .i64 0, .int .i64 0, .int .i64 0, .int .i64 0, .int .i64 0, .int .i64 0] 43 (0, 0))) := ⟨h4_⟩
      have B_gm : Aside0 (w24_.heap[gm]? = some (.cells #[.int .i64 0, .int .i64 0, .int .i64 0, .int .i64 0, .int .i64 0, .int .i64 0] 43 (0, 0))) := ⟨h5_⟩
      have B_gw : Aside0 (w24_.heap[gw]? = some (.cells #[.int .i64 0, .int .i64 0] 25 (0, 0))) := ⟨h6_⟩
      have HB : Aside0 (Below w.heap.size w w24_) := ⟨h7_⟩
      have E_gw := Aside0.mk hE_
      have N_gp_gw := Aside0.mk hN0_
      have N_gw_gp := Aside0.mk hM0_
      have N_gs_gw := Aside0.mk hN1_
      have N_gw_gs := Aside0.mk hM1_
      have N_gf_gw := Aside0.mk hN2_
      have N_gw_gf := Aside0.mk hM2_
      have N_gi_gw := Aside0.mk hN3_
      have N_gw_gi := Aside0.mk hM3_
      have N_gl_gw := Aside0.mk hN4_
      have N_gw_gl := Aside0.mk hM4_
      have N_gm_gw := Aside0.mk hN5_
      have N_gw_gm := Aside0.mk hM5_
      clear h0_ h1_ h2_ h3_ h4_ h5_ h6_ h7_ hE_ hN0_ hM0_ hN1_ hM1_ hN2_ hM2_ hN3_ hM3_ hN4_ hM4_ hN5_ hM5_
      have hHeld := hS_
      try dsimp only at hHeld
      clear hS_
      refine norm_ (a' := ?_) ?_ ?_
      rotate_left
      ·simp only [putAll, Act.put, List.setIfInBounds_toArray, List.set_cons_zero, List.set_cons_succ]
       rfl
      refine one_ (i := 11) (N := none) (bs 13 4095) rfl rfl (by kernel_rfl) (by decide) (fun K hK => ?_)
      have hs_0 : w24_.cell? ⟨gw, 0, none⟩ = some (.int .i64 0) := (blk_cell B_gw.1 0).trans rfl
      have hf_0 := blk_frozen B_gw.1 0
      have hs_1 : w24_.cell? ⟨gw, 1, none⟩ = some (.int .i64 0) := (blk_cell B_gw.1 1).trans rfl
      have hf_1 := blk_frozen B_gw.1 1
      refine skip_ (w1 := ?_) (by rfl) rfl ?_ ?_
      rotate_left
      ·go_simp
       rfl
      have n0_ : Aside0 (((w24_.setCell ⟨gw, 0, none⟩ (.int .i64 s0)).setCell ⟨gw, 1, none⟩ (.int .i64 s1)).heap[gp]? = some (.cells #[.int .i64 p0, .int .i64 p1, .int .i64 p2, .int .i64 p3, .int .i64 p4, .int .i64 p5, .int .i64 p6, .int .i64 p7, .int .i64 p8, .int .i64 p9, .int .i64 p10, .int .i64 p11] 23 (0, 0))) := ⟨blk_far (blk_far (B_gp.1) N_gp_gw.1 _) N_gp_gw.1 _⟩
      have n1_ : Aside0 (((w24_.setCell ⟨gw, 0, none⟩ (.int .i64 s0)).setCell ⟨gw, 1, none⟩ (.int .i64 s1)).heap[gs]? = some (.cells #[.int .i64 s0, .int .i64 s1, .int .i64 s2, .bool s3, .int .i64 s4, .int .i64 s5, .bool s6, .slice sA sl.length sc, .int .i64 s8, .int .i64 s9, .int .i64 s10] 30 (0, 0))) := ⟨blk_far (blk_far (B_gs.1) N_gs_gw.1 _) N_gs_gw.1 _⟩
      have n2_ : Aside0 (((w24_.setCell ⟨gw, 0, none⟩ (.int .i64 s0)).setCell ⟨gw, 1, none⟩ (.int .i64 s1)).heap[gf]? = some (.cells #[.int .i64 p0, .int .i64 p1, .int .i64 p2, .int .i64 p3, .int .i64 p4, .int .i64 p5, .int .i64 p6, .int .i64 p7, .int .i64 p8, .int .i64 p9, .int .i64 p10, .int .i64 p11, .int .i64 s0, .int .i64 s1, .int .i64 s2, .bool s3, .int .i64 s4, .int .i64 s5, .bool s6, .slice sA sl.length sc, .int .i64 s8, .int .i64 s9, .int .i64 s10] 35 (0, 0))) := ⟨blk_far (blk_far (B_gf.1) N_gf_gw.1 _) N_gf_gw.1 _⟩
      have n3_ : Aside0 (((w24_.setCell ⟨gw, 0, none⟩ (.int .i64 s0)).setCell ⟨gw, 1, none⟩ (.int .i64 s1)).heap[gi]? = some (.cells #[.int .i64 0, .int .i64 0] 25 (0, 0))) := ⟨blk_far (blk_far (B_gi.1) N_gi_gw.1 _) N_gi_gw.1 _⟩
      have n4_ : Aside0 (((w24_.setCell ⟨gw, 0, none⟩ (.int .i64 s0)).setCell ⟨gw, 1, none⟩ (.int .i64 s1)).heap[gl]? = some (.cells #[.int .i64 0, .int .i64 0, .int .i64 0, .int .i64 0, .int .i64 0, .int .i64 0] 43 (0, 0))) := ⟨blk_far (blk_far (B_gl.1) N_gl_gw.1 _) N_gl_gw.1 _⟩
      have n5_ : Aside0 (((w24_.setCell ⟨gw, 0, none⟩ (.int .i64 s0)).setCell ⟨gw, 1, none⟩ (.int .i64 s1)).heap[gm]? = some (.cells #[.int .i64 0, .int .i64 0, .int .i64 0, .int .i64 0, .int .i64 0, .int .i64 0] 43 (0, 0))) := ⟨blk_far (blk_far (B_gm.1) N_gm_gw.1 _) N_gm_gw.1 _⟩
      have n6_ : Aside0 (((w24_.setCell ⟨gw, 0, none⟩ (.int .i64 s0)).setCell ⟨gw, 1, none⟩ (.int .i64 s1)).heap[gw]? = some (.cells #[.int .i64 s0, .int .i64 s1] 25 (0, 0))) := ⟨by have h_ := blk_set (blk_set (B_gw.1) 0 (.int .i64 s0)) 1 (.int .i64 s1); simp only [List.setIfInBounds_toArray, List.set_cons_zero, List.set_cons_succ] at h_; exact h_⟩
      have n7_ : Aside0 (Below w.heap.size w ((w24_.setCell ⟨gw, 0, none⟩ (.int .i64 s0)).setCell ⟨gw, 1, none⟩ (.int .i64 s1))) := ⟨below_set (below_set (HB.1) E_gw.1) E_gw.1⟩
      clear B_gp B_gs B_gf B_gi B_gl B_gm B_gw HB
      have B_gp := n0_
      have B_gs := n1_
      have B_gf := n2_
      have B_gi := n3_
      have B_gl := n4_
      have B_gm := n5_
      have B_gw := n6_
      have HB := n7_
      clear n0_ n1_ n2_ n3_ n4_ n5_ n6_ n7_
      refine hK.out _ _ ⟨B_gp.1, B_gs.1⟩ (fun hHeld => ?_)
      clear hK K hs_0 hf_0 hs_1 hf_1
      generalize ((w24_.setCell ⟨gw, 0, none⟩ (.int .i64 s0)).setCell ⟨gw, 1, none⟩ (.int .i64 s1)) = w25_ at B_gp B_gs B_gf B_gi B_gl B_gm B_gw HB hHeld ⊢
      refine pu 12 20 8191 ?_
      refine done_ (by kernel_rfl) ?_
      go_upto_region 13 with (fail)
      have hcf_gw_0 := blk_frozen B_gw.1 0
      have hc_gw_0 : w25_.cell? ⟨gw, 0, none⟩ = some (.int .i64 s0) := (blk_cell B_gw.1 0).trans rfl
      have hcf_gw_1 := blk_frozen B_gw.1 1
      have hc_gw_1 : w25_.cell? ⟨gw, 1, none⟩ = some (.int .i64 s1) := (blk_cell B_gw.1 1).trans rfl
      go_upto_region 15 with (fail)
      clear hcf_gw_0 hc_gw_0 hcf_gw_1 hc_gw_1
      have n0_ : Aside0 (((w25_.setCell ⟨gw, 0, none⟩ (.int .i64 0)).setCell ⟨gw, 1, none⟩ (.int .i64 0)).heap[gp]? = some (.cells #[.int .i64 p0, .int .i64 p1, .int .i64 p2, .int .i64 p3, .int .i64 p4, .int .i64 p5, .int .i64 p6, .int .i64 p7, .int .i64 p8, .int .i64 p9, .int .i64 p10, .int .i64 p11] 23 (0, 0))) := ⟨blk_far (blk_far (B_gp.1) N_gp_gw.1 _) N_gp_gw.1 _⟩
      have n1_ : Aside0 (((w25_.setCell ⟨gw, 0, none⟩ (.int .i64 0)).setCell ⟨gw, 1, none⟩ (.int .i64 0)).heap[gs]? = some (.cells #[.int .i64 s0, .int .i64 s1, .int .i64 s2, .bool s3, .int .i64 s4, .int .i64 s5, .bool s6, .slice sA sl.length sc, .int .i64 s8, .int .i64 s9, .int .i64 s10] 30 (0, 0))) := ⟨blk_far (blk_far (B_gs.1) N_gs_gw.1 _) N_gs_gw.1 _⟩
      have n2_ : Aside0 (((w25_.setCell ⟨gw, 0, none⟩ (.int .i64 0)).setCell ⟨gw, 1, none⟩ (.int .i64 0)).heap[gf]? = some (.cells #[.int .i64 p0, .int .i64 p1, .int .i64 p2, .int .i64 p3, .int .i64 p4, .int .i64 p5, .int .i64 p6, .int .i64 p7, .int .i64 p8, .int .i64 p9, .int .i64 p10, .int .i64 p11, .int .i64 s0, .int .i64 s1, .int .i64 s2, .bool s3, .int .i64 s4, .int .i64 s5, .bool s6, .slice sA sl.length sc, .int .i64 s8, .int .i64 s9, .int .i64 s10] 35 (0, 0))) := ⟨blk_far (blk_far (B_gf.1) N_gf_gw.1 _) N_gf_gw.1 _⟩
      have n3_ : Aside0 (((w25_.setCell ⟨gw, 0, none⟩ (.int .i64 0)).setCell ⟨gw, 1, none⟩ (.int .i64 0)).heap[gi]? = some (.cells #[.int .i64 0, .int .i64 0] 25 (0, 0))) := ⟨blk_far (blk_far (B_gi.1) N_gi_gw.1 _) N_gi_gw.1 _⟩
      have n4_ : Aside0 (((w25_.setCell ⟨gw, 0, none⟩ (.int .i64 0)).setCell ⟨gw, 1, none⟩ (.int .i64 0)).heap[gl]? = some (.cells #[.int .i64 0, .int .i64 0, .int .i64 0, .int .i64 0, .int .i64 0, .int .i64 0] 43 (0, 0))) := ⟨blk_far (blk_far (B_gl.1) N_gl_gw.1 _) N_gl_gw.1 _⟩
      have n5_ : Aside0 (((w25_.setCell ⟨gw, 0, none⟩ (.int .i64 0)).setCell ⟨gw, 1, none⟩ (.int .i64 0)).heap[gm]? = some (.cells #[.int .i64 0, .int .i64 0, .int .i64 0, .int .i64 0, .int .i64 0, .int .i64 0] 43 (0, 0))) := ⟨blk_far (blk_far (B_gm.1) N_gm_gw.1 _) N_gm_gw.1 _⟩
      have n6_ : Aside0 (((w25_.setCell ⟨gw, 0, none⟩ (.int .i64 0)).setCell ⟨gw, 1, none⟩ (.int .i64 0)).heap[gw]? = some (.cells #[.int .i64 0, .int .i64 0] 25 (0, 0))) := ⟨by have h_ := blk_set (blk_set (B_gw.1) 0 (.int .i64 0)) 1 (.int .i64 0); simp only [List.setIfInBounds_toArray, List.set_cons_zero, List.set_cons_succ] at h_; exact h_⟩
      have n7_ : Aside0 (Below w.heap.size w ((w25_.setCell ⟨gw, 0, none⟩ (.int .i64 0)).setCell ⟨gw, 1, none⟩ (.int .i64 0))) := ⟨below_set (below_set (HB.1) E_gw.1) E_gw.1⟩
      clear B_gp B_gs B_gf B_gi B_gl B_gm B_gw HB
      have B_gp := n0_
      have B_gs := n1_
      have B_gf := n2_
      have B_gi := n3_
      have B_gl := n4_
      have B_gm := n5_
      have B_gw := n6_
      have HB := n7_
      clear n0_ n1_ n2_ n3_ n4_ n5_ n6_ n7_
      generalize ((w25_.setCell ⟨gw, 0, none⟩ (.int .i64 0)).setCell ⟨gw, 1, none⟩ (.int .i64 0)) = w26_ at B_gp B_gs B_gf B_gi B_gl B_gm B_gw HB ⊢
      replace B_gp := Aside0.mk (blk_drew B_gp.1)
      replace B_gs := Aside0.mk (blk_drew B_gs.1)
      replace B_gf := Aside0.mk (blk_drew B_gf.1)
      replace B_gi := Aside0.mk (blk_drew B_gi.1)
      replace B_gl := Aside0.mk (blk_drew B_gl.1)
      replace B_gm := Aside0.mk (blk_drew B_gm.1)
      replace B_gw := Aside0.mk (blk_drew B_gw.1)
      replace HB := Aside0.mk (below_drew1 HB.1)
      refine start_ (n := 53) (S := fun w' => w'.heap[gp]? = some (.cells #[.int .i64 p0, .int .i64 p1, .int .i64 p2, .int .i64 p3, .int .i64 p4, .int .i64 p5, .int .i64 p6, .int .i64 p7, .int .i64 p8, .int .i64 p9, .int .i64 p10, .int .i64 p11] 23 (0, 0)) ∧ w'.heap[gs]? = some (.cells #[.int .i64 s0, .int .i64 s1, .int .i64 s2, .bool s3, .int .i64 s4, .int .i64 s5, .bool s6, .slice sA sl.length sc, .int .i64 s8, .int .i64 s9, .int .i64 s10] 30 (0, 0)) ∧ w'.heap[gf]? = some (.cells #[.int .i64 p0, .int .i64 p1, .int .i64 p2, .int .i64 p3, .int .i64 p4, .int .i64 p5, .int .i64 p6, .int .i64 p7, .int .i64 p8, .int .i64 p9, .int .i64 p10, .int .i64 p11, .int .i64 s0, .int .i64 s1, .int .i64 s2, .bool s3, .int .i64 s4, .int .i64 s5, .bool s6, .slice sA sl.length sc, .int .i64 s8, .int .i64 s9, .int .i64 s10] 35 (0, 0)) ∧ w'.heap[gi]? = some (.cells #[.int .i64 0, .int .i64 0] 25 (0, 0)) ∧ w'.heap[gl]? = some (.cells #[.int .i64 0, .int .i64 0, .int .i64 0, .int .i64 0, .int .i64 0, .int .i64 0] 43 (0, 0)) ∧ w'.heap[gm]? = some (.cells #[.int .i64 0, .int .i64 0, .int .i64 0, .int .i64 0, .int .i64 0, .int .i64 0] 43 (0, 0)) ∧ w'.heap[gw]? = some (.cells #[.int .i64 0, .int .i64 0] 25 (0, 0))) (ds := []) (bs 53 0) (by kernel_rfl) rfl (by rfl) ⟨B_gp.1, B_gs.1, B_gf.1, B_gi.1, B_gl.1, B_gm.1, B_gw.1⟩ (fun hHeld => ?_)
      generalize w26_.drew = w27_ at B_gp B_gs B_gf B_gi B_gl B_gm B_gw HB hHeld ⊢
      refine pu 0 73 1 ?_
      refine pu 2 75 5 ?_
      refine one_ (i := 1) (N := some 74) (bs 53 7) rfl rfl (by kernel_rfl) (by decide) (fun K hK => ?_)
      refine goes_ Tryd.func13 (by kernel_rfl) rfl #[.pointer (some ⟨gf, 0, none⟩)] (by rfl) rfl rfl (by (try simp only [List.map_toArray, List.map_cons, List.map_nil]); first | done | rfl) ?_
      with_reducible refine (health_Front_Health.calls k gf p0 p1 p2 p3 p4 p5 p6 p7 p8 p9 p10 p11 s0 s1 s2 s3 s4 s5 s6 sA sc sl s8 s9 s10 0 _ (Kd.C_below HRs.1 HB.1) HCs.1 B_gf.1 HHH.1).mono ?_
      rintro e w28_ ⟨rfl, hb⟩
      replace B_gp := bb hb B_gp.1
      replace B_gs := bb hb B_gs.1
      replace B_gf := bb hb B_gf.1
      replace B_gi := bb hb B_gi.1
      replace B_gl := bb hb B_gl.1
      replace B_gm := bb hb B_gm.1
      replace B_gw := bb hb B_gw.1
      replace HB := Aside0.mk (below_step HB.1 hb)
      clear hb
      refine ⟨_, rfl, ?_⟩
      refine hK.out _ _ ⟨B_gp.1, B_gs.1, B_gf.1, B_gi.1, B_gl.1, B_gm.1, B_gw.1⟩ (fun hHeld => ?_)
      clear hK K
      refine nm 74 ?_
      refine pure_ (i := 3) (N := some 76) (v := .bool false) (a' := ?_) (bs 53 15) rfl rfl (by kernel_rfl) (fun _ _ _ h => h) (Or.inl ⟨by rfl, ?_⟩) ?_ ?_
      ·intro w'
       go_simp
       first | done | simp [*]
      rotate_left
      ·simp only [Act.put, List.setIfInBounds_toArray, List.set_cons_zero, List.set_cons_succ, i64_w, i32_w]
       rfl
      refine pu 4 77 31 ?_
      refine pu 5 78 63 ?_
      refine pu 6 79 127 ?_
      refine pure_ (i := 7) (N := some 80) (v := .bool false) (a' := ?_) (bs 53 255) rfl rfl (by kernel_rfl) (fun _ _ _ h => h) (Or.inl ⟨by rfl, ?_⟩) ?_ ?_
      ·intro w'
       go_simp
       first | done | simp [*]
      rotate_left
      ·simp only [Act.put, List.setIfInBounds_toArray, List.set_cons_zero, List.set_cons_succ, i64_w, i32_w]
       rfl
      refine pu 8 81 511 ?_
      refine pu 9 82 1023 ?_
      refine pu 10 83 2047 ?_
      refine pu 11 84 4095 ?_
      refine pure_ (i := 12) (N := some 85) (v := .bool false) (a' := ?_) (bs 53 8191) rfl rfl (by kernel_rfl) (fun _ _ _ h => h) (Or.inl ⟨by rfl, ?_⟩) ?_ ?_
      ·intro w'
       go_simp
       first | done | simp [*]
      rotate_left
      ·simp only [Act.put, List.setIfInBounds_toArray, List.set_cons_zero, List.set_cons_succ, i64_w, i32_w]
       rfl
      refine pu 13 86 16383 ?_
      refine pu 14 87 32767 ?_
      refine pu 15 88 65535 ?_
      refine pu 16 89 131071 ?_
      refine pure_ (i := 17) (N := some 90) (v := .bool false) (a' := ?_) (bs 53 262143) rfl rfl (by kernel_rfl) (fun _ _ _ h => h) (Or.inl ⟨by rfl, ?_⟩) ?_ ?_
      ·intro w'
       go_simp
       first | done | simp [*]
      rotate_left
      ·simp only [Act.put, List.setIfInBounds_toArray, List.set_cons_zero, List.set_cons_succ, i64_w, i32_w]
       rfl
      refine pu 18 91 524287 ?_
      refine pu 19 92 1048575 ?_
      refine pu 20 93 2097151 ?_
      refine pu 21 94 4194303 ?_
      refine pure_ (i := 22) (N := some 95) (v := .bool false) (a' := ?_) (bs 53 8388607) rfl rfl (by kernel_rfl) (fun _ _ _ h => h) (Or.inl ⟨by rfl, ?_⟩) ?_ ?_
      ·intro w'
       go_simp
       first | done | simp [*]
      rotate_left
      ·simp only [Act.put, List.setIfInBounds_toArray, List.set_cons_zero, List.set_cons_succ, i64_w, i32_w]
       rfl
      refine pu 23 96 16777215 ?_
      refine pu 24 97 33554431 ?_
      refine take_ (i := 25) (N := some 98) (v := ?_) (a' := ?_) (bs 53 67108863) rfl rfl (by kernel_rfl) (fun _ _ _ h => h) (Or.inl ⟨by rfl, ?_⟩) hHeld ?_ ?_
      rotate_left
      ·rintro w' ⟨s_gp, s_gs, s_gf, s_gi, s_gl, s_gm, s_gw⟩
       have c_0 : w'.cell? ⟨gi, 0, none⟩ = some (.int .i64 0) := (blk_cell s_gi 0).trans rfl
       have c_1 : w'.cell? ⟨gi, 1, none⟩ = some (.int .i64 0) := (blk_cell s_gi 1).trans rfl
       clear s_gp s_gs s_gf s_gi s_gl s_gm s_gw
       go_simp
       with_reducible rfl
      rotate_left
      ·simp only [Act.put, List.setIfInBounds_toArray, List.set_cons_zero, List.set_cons_succ, i64_w, i32_w]
       rfl
      refine take_ (i := 26) (N := some 99) (v := ?_) (a' := ?_) (bs 53 134217727) rfl rfl (by kernel_rfl) (fun _ _ _ h => h) (Or.inl ⟨by rfl, ?_⟩) hHeld ?_ ?_
      rotate_left
      ·rintro w' ⟨s_gp, s_gs, s_gf, s_gi, s_gl, s_gm, s_gw⟩
       have c_0 : w'.cell? ⟨gw, 0, none⟩ = some (.int .i64 0) := (blk_cell s_gw 0).trans rfl
       have c_1 : w'.cell? ⟨gw, 1, none⟩ = some (.int .i64 0) := (blk_cell s_gw 1).trans rfl
       clear s_gp s_gs s_gf s_gi s_gl s_gm s_gw
       go_simp
       with_reducible rfl
      rotate_left
      ·simp only [Act.put, List.setIfInBounds_toArray, List.set_cons_zero, List.set_cons_succ, i64_w, i32_w]
       rfl
      refine pure_ (i := 27) (N := some 100) (v := .bool false) (a' := ?_) (bs 53 268435455) rfl rfl (by kernel_rfl) (fun _ _ _ h => h) (Or.inl ⟨by rfl, ?_⟩) ?_ ?_
      ·intro w'
       go_simp
       first | done | simp [*]
      rotate_left
      ·simp only [Act.put, List.setIfInBounds_toArray, List.set_cons_zero, List.set_cons_succ, i64_w, i32_w]
       rfl
      refine pu 28 101 536870911 ?_
      refine pu 29 102 1073741823 ?_
      refine pu 30 103 2147483647 ?_
      refine pu 31 104 4294967295 ?_
      refine pure_ (i := 32) (N := some 105) (v := .bool false) (a' := ?_) (bs 53 8589934591) rfl rfl (by kernel_rfl) (fun _ _ _ h => h) (Or.inl ⟨by rfl, ?_⟩) ?_ ?_
      ·intro w'
       go_simp
       first | done | simp [*]
      rotate_left
      ·simp only [Act.put, List.setIfInBounds_toArray, List.set_cons_zero, List.set_cons_succ, i64_w, i32_w]
       rfl
      refine pu 33 106 17179869183 ?_
      refine pu 34 107 34359738367 ?_
      refine take_ (i := 35) (N := some 108) (v := ?_) (a' := ?_) (bs 53 68719476735) rfl rfl (by kernel_rfl) (fun _ _ _ h => h) (Or.inl ⟨by rfl, ?_⟩) hHeld ?_ ?_
      rotate_left
      ·rintro w' ⟨s_gp, s_gs, s_gf, s_gi, s_gl, s_gm, s_gw⟩
       have c_0 : w'.cell? ⟨gl, 0, none⟩ = some (.int .i64 0) := (blk_cell s_gl 0).trans rfl
       have c_1 : w'.cell? ⟨gl, 1, none⟩ = some (.int .i64 0) := (blk_cell s_gl 1).trans rfl
       have c_2 : w'.cell? ⟨gl, 2, none⟩ = some (.int .i64 0) := (blk_cell s_gl 2).trans rfl
       have c_3 : w'.cell? ⟨gl, 3, none⟩ = some (.int .i64 0) := (blk_cell s_gl 3).trans rfl
       have c_4 : w'.cell? ⟨gl, 4, none⟩ = some (.int .i64 0) := (blk_cell s_gl 4).trans rfl
       have c_5 : w'.cell? ⟨gl, 5, none⟩ = some (.int .i64 0) := (blk_cell s_gl 5).trans rfl
       clear s_gp s_gs s_gf s_gi s_gl s_gm s_gw
       go_simp
       with_reducible rfl
      rotate_left
      ·simp only [Act.put, List.setIfInBounds_toArray, List.set_cons_zero, List.set_cons_succ, i64_w, i32_w]
       rfl
      refine take_ (i := 36) (N := some 109) (v := ?_) (a' := ?_) (bs 53 137438953471) rfl rfl (by kernel_rfl) (fun _ _ _ h => h) (Or.inl ⟨by rfl, ?_⟩) hHeld ?_ ?_
      rotate_left
      ·rintro w' ⟨s_gp, s_gs, s_gf, s_gi, s_gl, s_gm, s_gw⟩
       have c_0 : w'.cell? ⟨gm, 0, none⟩ = some (.int .i64 0) := (blk_cell s_gm 0).trans rfl
       have c_1 : w'.cell? ⟨gm, 1, none⟩ = some (.int .i64 0) := (blk_cell s_gm 1).trans rfl
       have c_2 : w'.cell? ⟨gm, 2, none⟩ = some (.int .i64 0) := (blk_cell s_gm 2).trans rfl
       have c_3 : w'.cell? ⟨gm, 3, none⟩ = some (.int .i64 0) := (blk_cell s_gm 3).trans rfl
       have c_4 : w'.cell? ⟨gm, 4, none⟩ = some (.int .i64 0) := (blk_cell s_gm 4).trans rfl
       have c_5 : w'.cell? ⟨gm, 5, none⟩ = some (.int .i64 0) := (blk_cell s_gm 5).trans rfl
       clear s_gp s_gs s_gf s_gi s_gl s_gm s_gw
       go_simp
       with_reducible rfl
      rotate_left
      ·simp only [Act.put, List.setIfInBounds_toArray, List.set_cons_zero, List.set_cons_succ, i64_w, i32_w]
       rfl
      refine pure_ (i := 37) (N := some 110) (v := .bool false) (a' := ?_) (bs 53 274877906943) rfl rfl (by kernel_rfl) (fun _ _ _ h => h) (Or.inl ⟨by rfl, ?_⟩) ?_ ?_
      ·intro w'
       go_simp
       first | done | simp [*]
      rotate_left
      ·simp only [Act.put, List.setIfInBounds_toArray, List.set_cons_zero, List.set_cons_succ, i64_w, i32_w]
       rfl
      refine pu 38 111 549755813887 ?_
      refine pu 39 112 1099511627775 ?_
      refine pu 40 113 2199023255551 ?_
      refine pu 41 114 4398046511103 ?_
      refine pure_ (i := 42) (N := some 115) (v := .bool false) (a' := ?_) (bs 53 8796093022207) rfl rfl (by kernel_rfl) (fun _ _ _ h => h) (Or.inl ⟨by rfl, ?_⟩) ?_ ?_
      ·intro w'
       go_simp
       first | done | simp [*]
      rotate_left
      ·simp only [Act.put, List.setIfInBounds_toArray, List.set_cons_zero, List.set_cons_succ, i64_w, i32_w]
       rfl
      refine pu 43 116 17592186044415 ?_
      refine pu 44 117 35184372088831 ?_
      refine pu 45 118 70368744177663 ?_
      refine pu 46 119 140737488355327 ?_
      refine pu 47 120 281474976710655 ?_
      refine take_ (i := 48) (N := some 121) (v := ?_) (a' := ?_) (bs 53 562949953421311) rfl rfl (by kernel_rfl) (fun _ _ _ h => h) (Or.inl ⟨by rfl, ?_⟩) hHeld ?_ ?_
      rotate_left
      ·rintro w' ⟨s_gp, s_gs, s_gf, s_gi, s_gl, s_gm, s_gw⟩
       have c_12 : w'.cell? ⟨gf, 12, none⟩ = some (.int .i64 s0) := (blk_cell s_gf 12).trans rfl
       have c_13 : w'.cell? ⟨gf, 13, none⟩ = some (.int .i64 s1) := (blk_cell s_gf 13).trans rfl
       have c_14 : w'.cell? ⟨gf, 14, none⟩ = some (.int .i64 s2) := (blk_cell s_gf 14).trans rfl
       have c_15 : w'.cell? ⟨gf, 15, none⟩ = some (.bool s3) := (blk_cell s_gf 15).trans rfl
       have c_16 : w'.cell? ⟨gf, 16, none⟩ = some (.int .i64 s4) := (blk_cell s_gf 16).trans rfl
       have c_17 : w'.cell? ⟨gf, 17, none⟩ = some (.int .i64 s5) := (blk_cell s_gf 17).trans rfl
       have c_18 : w'.cell? ⟨gf, 18, none⟩ = some (.bool s6) := (blk_cell s_gf 18).trans rfl
       have c_19 : w'.cell? ⟨gf, 19, none⟩ = some (.slice sA sl.length sc) := (blk_cell s_gf 19).trans rfl
       have c_20 : w'.cell? ⟨gf, 20, none⟩ = some (.int .i64 s8) := (blk_cell s_gf 20).trans rfl
       have c_21 : w'.cell? ⟨gf, 21, none⟩ = some (.int .i64 s9) := (blk_cell s_gf 21).trans rfl
       have c_22 : w'.cell? ⟨gf, 22, none⟩ = some (.int .i64 s10) := (blk_cell s_gf 22).trans rfl
       clear s_gp s_gs s_gf s_gi s_gl s_gm s_gw
       go_simp
       with_reducible rfl
      rotate_left
      ·simp only [Act.put, List.setIfInBounds_toArray, List.set_cons_zero, List.set_cons_succ, i64_w, i32_w]
       rfl
      refine take_ (i := 49) (N := some 122) (v := ?_) (a' := ?_) (bs 53 1125899906842623) rfl rfl (by kernel_rfl) (fun _ _ _ h => h) (Or.inl ⟨by rfl, ?_⟩) hHeld ?_ ?_
      rotate_left
      ·rintro w' ⟨s_gp, s_gs, s_gf, s_gi, s_gl, s_gm, s_gw⟩
       have c_0 : w'.cell? ⟨gs, 0, none⟩ = some (.int .i64 s0) := (blk_cell s_gs 0).trans rfl
       have c_1 : w'.cell? ⟨gs, 1, none⟩ = some (.int .i64 s1) := (blk_cell s_gs 1).trans rfl
       have c_2 : w'.cell? ⟨gs, 2, none⟩ = some (.int .i64 s2) := (blk_cell s_gs 2).trans rfl
       have c_3 : w'.cell? ⟨gs, 3, none⟩ = some (.bool s3) := (blk_cell s_gs 3).trans rfl
       have c_4 : w'.cell? ⟨gs, 4, none⟩ = some (.int .i64 s4) := (blk_cell s_gs 4).trans rfl
       have c_5 : w'.cell? ⟨gs, 5, none⟩ = some (.int .i64 s5) := (blk_cell s_gs 5).trans rfl
       have c_6 : w'.cell? ⟨gs, 6, none⟩ = some (.bool s6) := (blk_cell s_gs 6).trans rfl
       have c_7 : w'.cell? ⟨gs, 7, none⟩ = some (.slice sA sl.length sc) := (blk_cell s_gs 7).trans rfl
       have c_8 : w'.cell? ⟨gs, 8, none⟩ = some (.int .i64 s8) := (blk_cell s_gs 8).trans rfl
       have c_9 : w'.cell? ⟨gs, 9, none⟩ = some (.int .i64 s9) := (blk_cell s_gs 9).trans rfl
       have c_10 : w'.cell? ⟨gs, 10, none⟩ = some (.int .i64 s10) := (blk_cell s_gs 10).trans rfl
       clear s_gp s_gs s_gf s_gi s_gl s_gm s_gw
       go_simp
       with_reducible rfl
      rotate_left
      ·simp only [Act.put, List.setIfInBounds_toArray, List.set_cons_zero, List.set_cons_succ, i64_w, i32_w]
       rfl
      refine one_ (i := 50) (N := some 123) (bs 53 2251799813685247) rfl rfl (by kernel_rfl) (by decide) (fun K hK => ?_)
      refine goes_ Tryd.func14 (by kernel_rfl) rfl #[.agg #[.int .i64 s0, .int .i64 s1, .int .i64 s2, .bool s3, .int .i64 s4, .int .i64 s5, .bool s6, .slice sA sl.length sc, .int .i64 s8, .int .i64 s9, .int .i64 s10], .agg #[.int .i64 s0, .int .i64 s1, .int .i64 s2, .bool s3, .int .i64 s4, .int .i64 s5, .bool s6, .slice sA sl.length sc, .int .i64 s8, .int .i64 s9, .int .i64 s10]] (by rfl) rfl rfl (by (try simp only [List.map_toArray, List.map_cons, List.map_nil]); first | done | rfl) ?_
      with_reducible refine (clepsydraref21_Same.calls k s0 s1 s2 s3 s4 s5 s6 sA sc sl s8 s9 s10 s0 s1 s2 s3 s4 s5 s6 sA sc sl s8 s9 s10 true _ (Kd.C_below HRs.1 HB.1) HCs.1 (Kd.C_below HRs.1 HB.1) HCs.1 HSM.1).mono ?_
      rintro e w29_ ⟨rfl, hb⟩
      replace B_gp := bb hb B_gp.1
      replace B_gs := bb hb B_gs.1
      replace B_gf := bb hb B_gf.1
      replace B_gi := bb hb B_gi.1
      replace B_gl := bb hb B_gl.1
      replace B_gm := bb hb B_gm.1
      replace B_gw := bb hb B_gw.1
      replace HB := Aside0.mk (below_step HB.1 hb)
      clear hb
      refine ⟨_, rfl, ?_⟩
      refine hK.out _ _ ⟨B_gp.1, B_gs.1, B_gf.1, B_gi.1, B_gl.1, B_gm.1, B_gw.1⟩ (fun hHeld => ?_)
      clear hK K
      refine nm 123 ?_
      refine pu 51 124 4503599627370495 ?_
      refine pu 52 125 9007199254740991 ?_
      refine done_ (by kernel_rfl) ?_
      go_upto_region 18 with (fail)
      go_upto_region 19 with ((go_at_call 7; (with_reducible refine (health_Front_Now.nil _).mono ?_); rintro e w30_ ⟨rfl, hb⟩; replace B_gp := bb hb B_gp.1; replace B_gs := bb hb B_gs.1; replace B_gf := bb hb B_gf.1; replace B_gi := bb hb B_gi.1; replace B_gl := bb hb B_gl.1; replace B_gm := bb hb B_gm.1; replace B_gw := bb hb B_gw.1; replace HB := Aside0.mk (below_step HB.1 hb); clear hb))
      go_upto_region 20 with ((go_at_call 8; (with_reducible refine (health_Front_Interval.nil _).mono ?_); rintro e w31_ ⟨rfl, hb⟩; replace B_gp := bb hb B_gp.1; replace B_gs := bb hb B_gs.1; replace B_gf := bb hb B_gf.1; replace B_gi := bb hb B_gi.1; replace B_gl := bb hb B_gl.1; replace B_gm := bb hb B_gm.1; replace B_gw := bb hb B_gw.1; replace HB := Aside0.mk (below_step HB.1 hb); clear hb))
      go_upto_region 21 with ((go_at_call 9; (with_reducible refine (health_Front_UTC.nil _).mono ?_); rintro e w32_ ⟨rfl, hb⟩; replace B_gp := bb hb B_gp.1; replace B_gs := bb hb B_gs.1; replace B_gf := bb hb B_gf.1; replace B_gi := bb hb B_gi.1; replace B_gl := bb hb B_gl.1; replace B_gm := bb hb B_gm.1; replace B_gw := bb hb B_gw.1; replace HB := Aside0.mk (below_step HB.1 hb); clear hb))
      go_upto_region 22 with ((go_at_call 11; (with_reducible refine (health_Front_Pulse.nil _).mono ?_); rintro e w33_ ⟨rfl, hb⟩; replace B_gp := bb hb B_gp.1; replace B_gs := bb hb B_gs.1; replace B_gf := bb hb B_gf.1; replace B_gi := bb hb B_gi.1; replace B_gl := bb hb B_gl.1; replace B_gm := bb hb B_gm.1; replace B_gw := bb hb B_gw.1; replace HB := Aside0.mk (below_step HB.1 hb); clear hb))
      go_upto_region 23 with (first | (go_at_call 15; (with_reducible refine (health_Front_Stamp.nil _).mono ?_); rintro e w34_ ⟨rfl, hb⟩; replace B_gp := bb hb B_gp.1; replace B_gs := bb hb B_gs.1; replace B_gf := bb hb B_gf.1; replace B_gi := bb hb B_gi.1; replace B_gl := bb hb B_gl.1; replace B_gm := bb hb B_gm.1; replace B_gw := bb hb B_gw.1; replace HB := Aside0.mk (below_step HB.1 hb); clear hb) | ((with_reducible refine gate_dst (N := 22) rfl ?_); refine bx 22 #[.int .i64 0, .int .i64 0] 28 ?_; intro gt hg w35_ hbox hb; have N_gp_gt := nl hg B_gp.1; have N_gs_gt := nl hg B_gs.1; have N_gf_gt := nl hg B_gf.1; have N_gi_gt := nl hg B_gi.1; have N_gl_gt := nl hg B_gl.1; have N_gm_gt := nl hg B_gm.1; have N_gw_gt := nl hg B_gw.1; have N_gt_gp := ng hg B_gp.1; have N_gt_gs := ng hg B_gs.1; have N_gt_gf := ng hg B_gf.1; have N_gt_gi := ng hg B_gi.1; have N_gt_gl := ng hg B_gl.1; have N_gt_gm := ng hg B_gm.1; have N_gt_gw := ng hg B_gw.1; have E_gt : Aside0 (w.heap.size ≤ gt) := ⟨by rw [hg]; exact below_size HB.1⟩; replace B_gp := bb hb B_gp.1; replace B_gs := bb hb B_gs.1; replace B_gf := bb hb B_gf.1; replace B_gi := bb hb B_gi.1; replace B_gl := bb hb B_gl.1; replace B_gm := bb hb B_gm.1; replace B_gw := bb hb B_gw.1; replace HB := Aside0.mk (below_step HB.1 hb); have B_gt := Aside0.mk hbox; clear hb hbox hg; have hr4f_gt_0 := blk_frozen B_gt.1 0; have hr4_gt_0 : w35_.cell? ⟨gt, 0, none⟩ = some (.int .i64 0) := (blk_cell B_gt.1 0).trans rfl; have hr4f_gt_1 := blk_frozen B_gt.1 1; have hr4_gt_1 : w35_.cell? ⟨gt, 1, none⟩ = some (.int .i64 0) := (blk_cell B_gt.1 1).trans rfl))
      clear hr4f_gt_0 hr4_gt_0 hr4f_gt_1 hr4_gt_1
      have n0_ : Aside0 (((w35_.setCell ⟨gt, 0, none⟩ (.int .i64 0)).setCell ⟨gt, 1, none⟩ (.int .i64 0)).heap[gp]? = some (.cells #[.int .i64 p0, .int .i64 p1, .int .i64 p2, .int .i64 p3, .int .i64 p4, .int .i64 p5, .int .i64 p6, .int .i64 p7, .int .i64 p8, .int .i64 p9, .int .i64 p10, .int .i64 p11] 23 (0, 0))) := ⟨blk_far (blk_far (B_gp.1) N_gp_gt.1 _) N_gp_gt.1 _⟩
      have n1_ : Aside0 (((w35_.setCell ⟨gt, 0, none⟩ (.int .i64 0)).setCell ⟨gt, 1, none⟩ (.int .i64 0)).heap[gs]? = some (.cells #[.int .i64 s0, .int .i64 s1, .int .i64 s2, .bool s3, .int .i64 s4, .int .i64 s5, .bool s6, .slice sA sl.length sc, .int .i64 s8, .int .i64 s9, .int .i64 s10] 30 (0, 0))) := ⟨blk_far (blk_far (B_gs.1) N_gs_gt.1 _) N_gs_gt.1 _⟩
      have n2_ : Aside0 (((w35_.setCell ⟨gt, 0, none⟩ (.int .i64 0)).setCell ⟨gt, 1, none⟩ (.int .i64 0)).heap[gf]? = some (.cells #[.int .i64 p0, .int .i64 p1, .int .i64 p2, .int .i64 p3, .int .i64 p4, .int .i64 p5, .int .i64 p6, .int .i64 p7, .int .i64 p8, .int .i64 p9, .int .i64 p10, .int .i64 p11, .int .i64 s0, .int .i64 s1, .int .i64 s2, .bool s3, .int .i64 s4, .int .i64 s5, .bool s6, .slice sA sl.length sc, .int .i64 s8, .int .i64 s9, .int .i64 s10] 35 (0, 0))) := ⟨blk_far (blk_far (B_gf.1) N_gf_gt.1 _) N_gf_gt.1 _⟩
      have n3_ : Aside0 (((w35_.setCell ⟨gt, 0, none⟩ (.int .i64 0)).setCell ⟨gt, 1, none⟩ (.int .i64 0)).heap[gi]? = some (.cells #[.int .i64 0, .int .i64 0] 25 (0, 0))) := ⟨blk_far (blk_far (B_gi.1) N_gi_gt.1 _) N_gi_gt.1 _⟩
      have n4_ : Aside0 (((w35_.setCell ⟨gt, 0, none⟩ (.int .i64 0)).setCell ⟨gt, 1, none⟩ (.int .i64 0)).heap[gl]? = some (.cells #[.int .i64 0, .int .i64 0, .int .i64 0, .int .i64 0, .int .i64 0, .int .i64 0] 43 (0, 0))) := ⟨blk_far (blk_far (B_gl.1) N_gl_gt.1 _) N_gl_gt.1 _⟩
      have n5_ : Aside0 (((w35_.setCell ⟨gt, 0, none⟩ (.int .i64 0)).setCell ⟨gt, 1, none⟩ (.int .i64 0)).heap[gm]? = some (.cells #[.int .i64 0, .int .i64 0, .int .i64 0, .int .i64 0, .int .i64 0, .int .i64 0] 43 (0, 0))) := ⟨blk_far (blk_far (B_gm.1) N_gm_gt.1 _) N_gm_gt.1 _⟩
      have n6_ : Aside0 (((w35_.setCell ⟨gt, 0, none⟩ (.int .i64 0)).setCell ⟨gt, 1, none⟩ (.int .i64 0)).heap[gw]? = some (.cells #[.int .i64 0, .int .i64 0] 25 (0, 0))) := ⟨blk_far (blk_far (B_gw.1) N_gw_gt.1 _) N_gw_gt.1 _⟩
      have n7_ : Aside0 (((w35_.setCell ⟨gt, 0, none⟩ (.int .i64 0)).setCell ⟨gt, 1, none⟩ (.int .i64 0)).heap[gt]? = some (.cells #[.int .i64 0, .int .i64 0] 28 (0, 0))) := ⟨by have h_ := blk_set (blk_set (B_gt.1) 0 (.int .i64 0)) 1 (.int .i64 0); simp only [List.setIfInBounds_toArray, List.set_cons_zero, List.set_cons_succ] at h_; exact h_⟩
      have n8_ : Aside0 (Below w.heap.size w ((w35_.setCell ⟨gt, 0, none⟩ (.int .i64 0)).setCell ⟨gt, 1, none⟩ (.int .i64 0))) := ⟨below_set (below_set (HB.1) E_gt.1) E_gt.1⟩
      clear B_gp B_gs B_gf B_gi B_gl B_gm B_gw B_gt HB
      have B_gp := n0_
      have B_gs := n1_
      have B_gf := n2_
      have B_gi := n3_
      have B_gl := n4_
      have B_gm := n5_
      have B_gw := n6_
      have B_gt := n7_
      have HB := n8_
      clear n0_ n1_ n2_ n3_ n4_ n5_ n6_ n7_ n8_
      generalize ((w35_.setCell ⟨gt, 0, none⟩ (.int .i64 0)).setCell ⟨gt, 1, none⟩ (.int .i64 0)) = w36_ at B_gp B_gs B_gf B_gi B_gl B_gm B_gw B_gt HB ⊢
      go_upto_region 24 with ((go_at_call 16; (with_reducible refine (health_Front_Listen.nil 0 0 _).mono ?_); rintro e w37_ ⟨rfl, hb⟩; replace B_gp := bb hb B_gp.1; replace B_gs := bb hb B_gs.1; replace B_gf := bb hb B_gf.1; replace B_gi := bb hb B_gi.1; replace B_gl := bb hb B_gl.1; replace B_gm := bb hb B_gm.1; replace B_gw := bb hb B_gw.1; replace B_gt := bb hb B_gt.1; replace HB := Aside0.mk (below_step HB.1 hb); clear hb))
      go_upto_region 25 with ((go_at_call 17; (refine (health_Front_Step.nil 1 0 0 0 false 0 0 false none 0 [] 0 0 0 _).mono ?_); rintro e w38_ ⟨rfl, hb⟩; replace B_gp := bb hb B_gp.1; replace B_gs := bb hb B_gs.1; replace B_gf := bb hb B_gf.1; replace B_gi := bb hb B_gi.1; replace B_gl := bb hb B_gl.1; replace B_gm := bb hb B_gm.1; replace B_gw := bb hb B_gw.1; replace B_gt := bb hb B_gt.1; replace HB := Aside0.mk (below_step HB.1 hb); clear hb))
      go_wp2_with ((go_at_call 13; (with_reducible refine (health_Front_Health.nil _).mono ?_); rintro e w39_ ⟨rfl, hb⟩; replace B_gp := bb hb B_gp.1; replace B_gs := bb hb B_gs.1; replace B_gf := bb hb B_gf.1; replace B_gi := bb hb B_gi.1; replace B_gl := bb hb B_gl.1; replace B_gm := bb hb B_gm.1; replace B_gw := bb hb B_gw.1; replace B_gt := bb hb B_gt.1; replace HB := Aside0.mk (below_step HB.1 hb); clear hb))
      go_ret
      exact ⟨rfl, HB.1⟩
   ·next hz2 =>
     obtain ⟨⟨dc, dr⟩, hdv, h⟩ := Option.bind_eq_some_iff.mp h
     obtain ⟨lb, htl, h⟩ := Option.bind_eq_some_iff.mp h
     obtain ⟨n2, hn2, h⟩ := Option.bind_eq_some_iff.mp h
     dsimp only at htl
     split at h
     case isFalse => cases h
     next hz3 =>
      obtain ⟨hz4, hz5⟩ := hz3
      subst hz4
      replace hz5 := hz5.symm
      subst hz5
      clear h
      have HDV := Aside0.mk hdv
      have HTL := Aside0.mk htl
      have HN2 := Aside0.mk hn2
      clear hdv htl hn2
      obtain ⟨hc_gs_0, hc_gs_1, hc_gs_2, hc_gs_3, hc_gs_4, hc_gs_5, hc_gs_6, hc_gs_7, hc_gs_8, hc_gs_9, hc_gs_10⟩ := cc11 B_gs.1
      go_upto_region 5 with ((go_at_call 5; (with_reducible refine (clepsydralaw21_long.calls s0 s1 s2 s3 s4 s5 s6 sA sc sl s8 s9 s10 s0 s1 s2 s3 s4 s5 s6 sA sc sl s8 s9 s10 false _ (Kd.C_below HRs.1 HB.1) HCs.1 (Kd.C_below HRs.1 HB.1) HCs.1 HLG.1).mono ?_); rintro e w40_ ⟨rfl, hb⟩; replace B_gp := bb hb B_gp.1; replace B_gs := bb hb B_gs.1; replace HB := Aside0.mk (below_step HB.1 hb); clear hb))
      clear hc_gs_0 hc_gs_1 hc_gs_2 hc_gs_3 hc_gs_4 hc_gs_5 hc_gs_6 hc_gs_7 hc_gs_8 hc_gs_9 hc_gs_10
      obtain ⟨hc_gp_0, hc_gp_1, hc_gp_2, hc_gp_3, hc_gp_4, hc_gp_5, hc_gp_6, hc_gp_7, hc_gp_8, hc_gp_9, hc_gp_10, hc_gp_11⟩ := cc12 B_gp.1
      obtain ⟨hc_gs_0, hc_gs_1, hc_gs_2, hc_gs_3, hc_gs_4, hc_gs_5, hc_gs_6, hc_gs_7, hc_gs_8, hc_gs_9, hc_gs_10⟩ := cc11 B_gs.1
      go_upto_region 6 with (((with_reducible refine gate_dst (N := 32) rfl ?_); refine bx 32 #[.int .i64 p0, .int .i64 p1, .int .i64 p2, .int .i64 p3, .int .i64 p4, .int .i64 p5, .int .i64 p6, .int .i64 p7, .int .i64 p8, .int .i64 p9, .int .i64 p10, .int .i64 p11, .int .i64 s0, .int .i64 s1, .int .i64 s2, .bool s3, .int .i64 s4, .int .i64 s5, .bool s6, .slice sA sl.length sc, .int .i64 s8, .int .i64 s9, .int .i64 s10] 35 ?_; intro gf hg w41_ hbox hb; have N_gp_gf := nl hg B_gp.1; have N_gs_gf := nl hg B_gs.1; have N_gf_gp := ng hg B_gp.1; have N_gf_gs := ng hg B_gs.1; have E_gf : Aside0 (w.heap.size ≤ gf) := ⟨by rw [hg]; exact below_size HB.1⟩; replace B_gp := bb hb B_gp.1; replace B_gs := bb hb B_gs.1; replace HB := Aside0.mk (below_step HB.1 hb); have B_gf := Aside0.mk hbox; clear hb hbox hg))
      clear hc_gp_0 hc_gp_1 hc_gp_2 hc_gp_3 hc_gp_4 hc_gp_5 hc_gp_6 hc_gp_7 hc_gp_8 hc_gp_9 hc_gp_10 hc_gp_11 hc_gs_0 hc_gs_1 hc_gs_2 hc_gs_3 hc_gs_4 hc_gs_5 hc_gs_6 hc_gs_7 hc_gs_8 hc_gs_9 hc_gs_10
      obtain ⟨hc_gp_0, hc_gp_1, hc_gp_2, hc_gp_3, hc_gp_4, hc_gp_5, hc_gp_6, hc_gp_7, hc_gp_8, hc_gp_9, hc_gp_10, hc_gp_11⟩ := cc12 B_gp.1
      obtain ⟨hc_gs_0, hc_gs_1, hc_gs_2, hc_gs_3, hc_gs_4, hc_gs_5, hc_gs_6, hc_gs_7, hc_gs_8, hc_gs_9, hc_gs_10⟩ := cc11 B_gs.1
      go_upto_region 7 with ((go_at_call 6; (with_reducible refine (clepsydraref21_Of.calls k p0 p1 p2 p3 p4 p5 p6 p7 p8 p9 p10 p11 s0 s1 s2 s3 s4 s5 s6 sA sc sl s8 s9 s10 h2 _ (Kd.C_below HRs.1 HB.1) HCs.1 HH2.1).mono ?_); rintro e w42_ ⟨rfl, hb⟩; replace B_gp := bb hb B_gp.1; replace B_gs := bb hb B_gs.1; replace B_gf := bb hb B_gf.1; replace HB := Aside0.mk (below_step HB.1 hb); clear hb))
      clear hc_gp_0 hc_gp_1 hc_gp_2 hc_gp_3 hc_gp_4 hc_gp_5 hc_gp_6 hc_gp_7 hc_gp_8 hc_gp_9 hc_gp_10 hc_gp_11 hc_gs_0 hc_gs_1 hc_gs_2 hc_gs_3 hc_gs_4 hc_gs_5 hc_gs_6 hc_gs_7 hc_gs_8 hc_gs_9 hc_gs_10
      go_upto_region 8 with ((go_at_call 7; (with_reducible refine (health_Front_Now.ok k gf p0 p1 p2 p3 p4 p5 p6 p7 p8 p9 p10 p11 s0 s1 s2 s3 s4 s5 s6 sA sc sl s8 s9 s10 h2 hz2 _ (Kd.C_below HRs.1 HB.1) HCs.1 B_gf.1 HHH.1).mono ?_); rintro e w43_ ⟨rfl, hb⟩; replace B_gp := bb hb B_gp.1; replace B_gs := bb hb B_gs.1; replace B_gf := bb hb B_gf.1; replace HB := Aside0.mk (below_step HB.1 hb); clear hb))
      go_upto_region 9 with (first | (go_at_call 8; (with_reducible refine (health_Front_Interval.ok k gf p0 p1 p2 p3 p4 p5 p6 p7 p8 p9 p10 p11 s0 s1 s2 s3 s4 s5 s6 sA sc sl s8 s9 s10 h2 hz2 _ (Kd.C_below HRs.1 HB.1) HCs.1 B_gf.1 HHH.1).mono ?_); rintro e w44_ ⟨rfl, hb⟩; replace B_gp := bb hb B_gp.1; replace B_gs := bb hb B_gs.1; replace B_gf := bb hb B_gf.1; replace HB := Aside0.mk (below_step HB.1 hb); clear hb) | ((with_reducible refine gate_dst (N := 9) rfl ?_); refine bx 9 #[.int .i64 0, .int .i64 0] 25 ?_; intro gi hg w45_ hbox hb; have N_gp_gi := nl hg B_gp.1; have N_gs_gi := nl hg B_gs.1; have N_gf_gi := nl hg B_gf.1; have N_gi_gp := ng hg B_gp.1; have N_gi_gs := ng hg B_gs.1; have N_gi_gf := ng hg B_gf.1; have E_gi : Aside0 (w.heap.size ≤ gi) := ⟨by rw [hg]; exact below_size HB.1⟩; replace B_gp := bb hb B_gp.1; replace B_gs := bb hb B_gs.1; replace B_gf := bb hb B_gf.1; replace HB := Aside0.mk (below_step HB.1 hb); have B_gi := Aside0.mk hbox; clear hb hbox hg; have hr5f_gi_0 := blk_frozen B_gi.1 0; have hr5_gi_0 : w45_.cell? ⟨gi, 0, none⟩ = some (.int .i64 0) := (blk_cell B_gi.1 0).trans rfl; have hr5f_gi_1 := blk_frozen B_gi.1 1; have hr5_gi_1 : w45_.cell? ⟨gi, 1, none⟩ = some (.int .i64 0) := (blk_cell B_gi.1 1).trans rfl))
      clear hr5f_gi_0 hr5_gi_0 hr5f_gi_1 hr5_gi_1
      have n0_ : Aside0 (((w45_.setCell ⟨gi, 0, none⟩ (.int .i64 s0)).setCell ⟨gi, 1, none⟩ (.int .i64 s1)).heap[gp]? = some (.cells #[.int .i64 p0, .int .i64 p1, .int .i64 p2, .int .i64 p3, .int .i64 p4, .int .i64 p5, .int .i64 p6, .int .i64 p7, .int .i64 p8, .int .i64 p9, .int .i64 p10, .int .i64 p11] 23 (0, 0))) := ⟨blk_far (blk_far (B_gp.1) N_gp_gi.1 _) N_gp_gi.1 _⟩
      have n1_ : Aside0 (((w45_.setCell ⟨gi, 0, none⟩ (.int .i64 s0)).setCell ⟨gi, 1, none⟩ (.int .i64 s1)).heap[gs]? = some (.cells #[.int .i64 s0, .int .i64 s1, .int .i64 s2, .bool s3, .int .i64 s4, .int .i64 s5, .bool s6, .slice sA sl.length sc, .int .i64 s8, .int .i64 s9, .int .i64 s10] 30 (0, 0))) := ⟨blk_far (blk_far (B_gs.1) N_gs_gi.1 _) N_gs_gi.1 _⟩
      have n2_ : Aside0 (((w45_.setCell ⟨gi, 0, none⟩ (.int .i64 s0)).setCell ⟨gi, 1, none⟩ (.int .i64 s1)).heap[gf]? = some (.cells #[.int .i64 p0, .int .i64 p1, .int .i64 p2, .int .i64 p3, .int .i64 p4, .int .i64 p5, .int .i64 p6, .int .i64 p7, .int .i64 p8, .int .i64 p9, .int .i64 p10, .int .i64 p11, .int .i64 s0, .int .i64 s1, .int .i64 s2, .bool s3, .int .i64 s4, .int .i64 s5, .bool s6, .slice sA sl.length sc, .int .i64 s8, .int .i64 s9, .int .i64 s10] 35 (0, 0))) := ⟨blk_far (blk_far (B_gf.1) N_gf_gi.1 _) N_gf_gi.1 _⟩
      have n3_ : Aside0 (((w45_.setCell ⟨gi, 0, none⟩ (.int .i64 s0)).setCell ⟨gi, 1, none⟩ (.int .i64 s1)).heap[gi]? = some (.cells #[.int .i64 s0, .int .i64 s1] 25 (0, 0))) := ⟨by have h_ := blk_set (blk_set (B_gi.1) 0 (.int .i64 s0)) 1 (.int .i64 s1); simp only [List.setIfInBounds_toArray, List.set_cons_zero, List.set_cons_succ] at h_; exact h_⟩
      have n4_ : Aside0 (Below w.heap.size w ((w45_.setCell ⟨gi, 0, none⟩ (.int .i64 s0)).setCell ⟨gi, 1, none⟩ (.int .i64 s1))) := ⟨below_set (below_set (HB.1) E_gi.1) E_gi.1⟩
      clear B_gp B_gs B_gf B_gi HB
      have B_gp := n0_
      have B_gs := n1_
      have B_gf := n2_
      have B_gi := n3_
      have HB := n4_
      clear n0_ n1_ n2_ n3_ n4_
      generalize ((w45_.setCell ⟨gi, 0, none⟩ (.int .i64 s0)).setCell ⟨gi, 1, none⟩ (.int .i64 s1)) = w46_ at B_gp B_gs B_gf B_gi HB ⊢
      go_upto_region 10 with (first | (go_at_call 9; (with_reducible refine (health_Front_UTC.ok k gf p0 p1 p2 p3 p4 p5 p6 p7 p8 p9 p10 p11 s0 s1 s2 s3 s4 s5 s6 sA sc sl s8 s9 s10 h2 hz2 dc dr u1 u2 u3 u4 u5 u6 u7 _ (Kd.C_below HRs.1 HB.1) HCs.1 B_gf.1 HHH.1 HDV.1 (GM.below HGM.1 HB.1) HTL.1).mono ?_); rintro e w47_ ⟨rfl, hb⟩; replace B_gp := bb hb B_gp.1; replace B_gs := bb hb B_gs.1; replace B_gf := bb hb B_gf.1; replace B_gi := bb hb B_gi.1; replace HB := Aside0.mk (below_step HB.1 hb); clear hb) | ((with_reducible refine gate_dst (N := 11) rfl ?_); refine bx 11 #[.int .i64 0, .int .i64 0, .int .i64 0, .int .i64 0, .int .i64 0, .int .i64 0] 43 ?_; intro gl hg w48_ hbox hb; have N_gp_gl := nl hg B_gp.1; have N_gs_gl := nl hg B_gs.1; have N_gf_gl := nl hg B_gf.1; have N_gi_gl := nl hg B_gi.1; have N_gl_gp := ng hg B_gp.1; have N_gl_gs := ng hg B_gs.1; have N_gl_gf := ng hg B_gf.1; have N_gl_gi := ng hg B_gi.1; have E_gl : Aside0 (w.heap.size ≤ gl) := ⟨by rw [hg]; exact below_size HB.1⟩; replace B_gp := bb hb B_gp.1; replace B_gs := bb hb B_gs.1; replace B_gf := bb hb B_gf.1; replace B_gi := bb hb B_gi.1; replace HB := Aside0.mk (below_step HB.1 hb); have B_gl := Aside0.mk hbox; clear hb hbox hg; have hr6f_gl_0 := blk_frozen B_gl.1 0; have hr6_gl_0 : w48_.cell? ⟨gl, 0, none⟩ = some (.int .i64 0) := (blk_cell B_gl.1 0).trans rfl; have hr6f_gl_1 := blk_frozen B_gl.1 1; have hr6_gl_1 : w48_.cell? ⟨gl, 1, none⟩ = some (.int .i64 0) := (blk_cell B_gl.1 1).trans rfl; have hr6f_gl_2 := blk_frozen B_gl.1 2; have hr6_gl_2 : w48_.cell? ⟨gl, 2, none⟩ = some (.int .i64 0) := (blk_cell B_gl.1 2).trans rfl; have hr6f_gl_3 := blk_frozen B_gl.1 3; have hr6_gl_3 : w48_.cell? ⟨gl, 3, none⟩ = some (.int .i64 0) := (blk_cell B_gl.1 3).trans rfl; have hr6f_gl_4 := blk_frozen B_gl.1 4; have hr6_gl_4 : w48_.cell? ⟨gl, 4, none⟩ = some (.int .i64 0) := (blk_cell B_gl.1 4).trans rfl; have hr6f_gl_5 := blk_frozen B_gl.1 5; have hr6_gl_5 : w48_.cell? ⟨gl, 5, none⟩ = some (.int .i64 0) := (blk_cell B_gl.1 5).trans rfl))
      clear hr6f_gl_0 hr6_gl_0 hr6f_gl_1 hr6_gl_1 hr6f_gl_2 hr6_gl_2 hr6f_gl_3 hr6_gl_3 hr6f_gl_4 hr6_gl_4 hr6f_gl_5 hr6_gl_5
      have n0_ : Aside0 (((((((w48_.setCell ⟨gl, 0, none⟩ (.int .i64 u1)).setCell ⟨gl, 1, none⟩ (.int .i64 u2)).setCell ⟨gl, 2, none⟩ (.int .i64 u3)).setCell ⟨gl, 3, none⟩ (.int .i64 u4)).setCell ⟨gl, 4, none⟩ (.int .i64 u5)).setCell ⟨gl, 5, none⟩ (.int .i64 u6)).heap[gp]? = some (.cells #[.int .i64 p0, .int .i64 p1, .int .i64 p2, .int .i64 p3, .int .i64 p4, .int .i64 p5, .int .i64 p6, .int .i64 p7, .int .i64 p8, .int .i64 p9, .int .i64 p10, .int .i64 p11] 23 (0, 0))) := ⟨blk_far (blk_far (blk_far (blk_far (blk_far (blk_far (B_gp.1) N_gp_gl.1 _) N_gp_gl.1 _) N_gp_gl.1 _) N_gp_gl.1 _) N_gp_gl.1 _) N_gp_gl.1 _⟩
      have n1_ : Aside0 (((((((w48_.setCell ⟨gl, 0, none⟩ (.int .i64 u1)).setCell ⟨gl, 1, none⟩ (.int .i64 u2)).setCell ⟨gl, 2, none⟩ (.int .i64 u3)).setCell ⟨gl, 3, none⟩ (.int .i64 u4)).setCell ⟨gl, 4, none⟩ (.int .i64 u5)).setCell ⟨gl, 5, none⟩ (.int .i64 u6)).heap[gs]? = some (.cells #[.int .i64 s0, .int .i64 s1, .int .i64 s2, .bool s3, .int .i64 s4, .int .i64 s5, .bool s6, .slice sA sl.length sc, .int .i64 s8, .int .i64 s9, .int .i64 s10] 30 (0, 0))) := ⟨blk_far (blk_far (blk_far (blk_far (blk_far (blk_far (B_gs.1) N_gs_gl.1 _) N_gs_gl.1 _) N_gs_gl.1 _) N_gs_gl.1 _) N_gs_gl.1 _) N_gs_gl.1 _⟩
      have n2_ : Aside0 (((((((w48_.setCell ⟨gl, 0, none⟩ (.int .i64 u1)).setCell ⟨gl, 1, none⟩ (.int .i64 u2)).setCell ⟨gl, 2, none⟩ (.int .i64 u3)).setCell ⟨gl, 3, none⟩ (.int .i64 u4)).setCell ⟨gl, 4, none⟩ (.int .i64 u5)).setCell ⟨gl, 5, none⟩ (.int .i64 u6)).heap[gf]? = some (.cells #[.int .i64 p0, .int .i64 p1, .int .i64 p2, .int .i64 p3, .int .i64 p4, .int .i64 p5, .int .i64 p6, .int .i64 p7, .int .i64 p8, .int .i64 p9, .int .i64 p10, .int .i64 p11, .int .i64 s0, .int .i64 s1, .int .i64 s2, .bool s3, .int .i64 s4, .int .i64 s5, .bool s6, .slice sA sl.length sc, .int .i64 s8, .int .i64 s9, .int .i64 s10] 35 (0, 0))) := ⟨blk_far (blk_far (blk_far (blk_far (blk_far (blk_far (B_gf.1) N_gf_gl.1 _) N_gf_gl.1 _) N_gf_gl.1 _) N_gf_gl.1 _) N_gf_gl.1 _) N_gf_gl.1 _⟩
      have n3_ : Aside0 (((((((w48_.setCell ⟨gl, 0, none⟩ (.int .i64 u1)).setCell ⟨gl, 1, none⟩ (.int .i64 u2)).setCell ⟨gl, 2, none⟩ (.int .i64 u3)).setCell ⟨gl, 3, none⟩ (.int .i64 u4)).setCell ⟨gl, 4, none⟩ (.int .i64 u5)).setCell ⟨gl, 5, none⟩ (.int .i64 u6)).heap[gi]? = some (.cells #[.int .i64 s0, .int .i64 s1] 25 (0, 0))) := ⟨blk_far (blk_far (blk_far (blk_far (blk_far (blk_far (B_gi.1) N_gi_gl.1 _) N_gi_gl.1 _) N_gi_gl.1 _) N_gi_gl.1 _) N_gi_gl.1 _) N_gi_gl.1 _⟩
      have n4_ : Aside0 (((((((w48_.setCell ⟨gl, 0, none⟩ (.int .i64 u1)).setCell ⟨gl, 1, none⟩ (.int .i64 u2)).setCell ⟨gl, 2, none⟩ (.int .i64 u3)).setCell ⟨gl, 3, none⟩ (.int .i64 u4)).setCell ⟨gl, 4, none⟩ (.int .i64 u5)).setCell ⟨gl, 5, none⟩ (.int .i64 u6)).heap[gl]? = some (.cells #[.int .i64 u1, .int .i64 u2, .int .i64 u3, .int .i64 u4, .int .i64 u5, .int .i64 u6] 43 (0, 0))) := ⟨by have h_ := blk_set (blk_set (blk_set (blk_set (blk_set (blk_set (B_gl.1) 0 (.int .i64 u1)) 1 (.int .i64 u2)) 2 (.int .i64 u3)) 3 (.int .i64 u4)) 4 (.int .i64 u5)) 5 (.int .i64 u6); simp only [List.setIfInBounds_toArray, List.set_cons_zero, List.set_cons_succ] at h_; exact h_⟩
      have n5_ : Aside0 (Below w.heap.size w ((((((w48_.setCell ⟨gl, 0, none⟩ (.int .i64 u1)).setCell ⟨gl, 1, none⟩ (.int .i64 u2)).setCell ⟨gl, 2, none⟩ (.int .i64 u3)).setCell ⟨gl, 3, none⟩ (.int .i64 u4)).setCell ⟨gl, 4, none⟩ (.int .i64 u5)).setCell ⟨gl, 5, none⟩ (.int .i64 u6))) := ⟨below_set (below_set (below_set (below_set (below_set (below_set (HB.1) E_gl.1) E_gl.1) E_gl.1) E_gl.1) E_gl.1) E_gl.1⟩
      clear B_gp B_gs B_gf B_gi B_gl HB
      have B_gp := n0_
      have B_gs := n1_
      have B_gf := n2_
      have B_gi := n3_
      have B_gl := n4_
      have HB := n5_
      clear n0_ n1_ n2_ n3_ n4_ n5_
      generalize ((((((w48_.setCell ⟨gl, 0, none⟩ (.int .i64 u1)).setCell ⟨gl, 1, none⟩ (.int .i64 u2)).setCell ⟨gl, 2, none⟩ (.int .i64 u3)).setCell ⟨gl, 3, none⟩ (.int .i64 u4)).setCell ⟨gl, 4, none⟩ (.int .i64 u5)).setCell ⟨gl, 5, none⟩ (.int .i64 u6)) = w49_ at B_gp B_gs B_gf B_gi B_gl HB ⊢
      obtain ⟨hc_gp_0, hc_gp_1, hc_gp_2, hc_gp_3, hc_gp_4, hc_gp_5, hc_gp_6, hc_gp_7, hc_gp_8, hc_gp_9, hc_gp_10, hc_gp_11⟩ := cc12 B_gp.1
      obtain ⟨hc_gs_0, hc_gs_1, hc_gs_2, hc_gs_3, hc_gs_4, hc_gs_5, hc_gs_6, hc_gs_7, hc_gs_8, hc_gs_9, hc_gs_10⟩ := cc11 B_gs.1
      go_upto_region 11 with (first | (go_at_call 10; (with_reducible refine (clepsydraref21_UTC.calls k p0 p1 p2 p3 p4 p5 p6 p7 p8 p9 p10 p11 s0 s1 s2 s3 s4 s5 s6 sA sc sl s8 s9 s10 u1 u2 u3 u4 u5 u6 u7 _ (Kd.C_below HRs.1 HB.1) HCs.1 HV.1).mono ?_); rintro e w50_ ⟨rfl, hb⟩; replace B_gp := bb hb B_gp.1; replace B_gs := bb hb B_gs.1; replace B_gf := bb hb B_gf.1; replace B_gi := bb hb B_gi.1; replace B_gl := bb hb B_gl.1; replace HB := Aside0.mk (below_step HB.1 hb); clear hb) | ((with_reducible refine gate_dst (N := 13) rfl ?_); refine bx 13 #[.int .i64 0, .int .i64 0, .int .i64 0, .int .i64 0, .int .i64 0, .int .i64 0] 43 ?_; intro gm hg w51_ hbox hb; have N_gp_gm := nl hg B_gp.1; have N_gs_gm := nl hg B_gs.1; have N_gf_gm := nl hg B_gf.1; have N_gi_gm := nl hg B_gi.1; have N_gl_gm := nl hg B_gl.1; have N_gm_gp := ng hg B_gp.1; have N_gm_gs := ng hg B_gs.1; have N_gm_gf := ng hg B_gf.1; have N_gm_gi := ng hg B_gi.1; have N_gm_gl := ng hg B_gl.1; have E_gm : Aside0 (w.heap.size ≤ gm) := ⟨by rw [hg]; exact below_size HB.1⟩; replace B_gp := bb hb B_gp.1; replace B_gs := bb hb B_gs.1; replace B_gf := bb hb B_gf.1; replace B_gi := bb hb B_gi.1; replace B_gl := bb hb B_gl.1; replace HB := Aside0.mk (below_step HB.1 hb); have B_gm := Aside0.mk hbox; clear hb hbox hg; have hr7f_gm_0 := blk_frozen B_gm.1 0; have hr7_gm_0 : w51_.cell? ⟨gm, 0, none⟩ = some (.int .i64 0) := (blk_cell B_gm.1 0).trans rfl; have hr7f_gm_1 := blk_frozen B_gm.1 1; have hr7_gm_1 : w51_.cell? ⟨gm, 1, none⟩ = some (.int .i64 0) := (blk_cell B_gm.1 1).trans rfl; have hr7f_gm_2 := blk_frozen B_gm.1 2; have hr7_gm_2 : w51_.cell? ⟨gm, 2, none⟩ = some (.int .i64 0) := (blk_cell B_gm.1 2).trans rfl; have hr7f_gm_3 := blk_frozen B_gm.1 3; have hr7_gm_3 : w51_.cell? ⟨gm, 3, none⟩ = some (.int .i64 0) := (blk_cell B_gm.1 3).trans rfl; have hr7f_gm_4 := blk_frozen B_gm.1 4; have hr7_gm_4 : w51_.cell? ⟨gm, 4, none⟩ = some (.int .i64 0) := (blk_cell B_gm.1 4).trans rfl; have hr7f_gm_5 := blk_frozen B_gm.1 5; have hr7_gm_5 : w51_.cell? ⟨gm, 5, none⟩ = some (.int .i64 0) := (blk_cell B_gm.1 5).trans rfl))
      clear hc_gp_0 hc_gp_1 hc_gp_2 hc_gp_3 hc_gp_4 hc_gp_5 hc_gp_6 hc_gp_7 hc_gp_8 hc_gp_9 hc_gp_10 hc_gp_11 hc_gs_0 hc_gs_1 hc_gs_2 hc_gs_3 hc_gs_4 hc_gs_5 hc_gs_6 hc_gs_7 hc_gs_8 hc_gs_9 hc_gs_10 hr7f_gm_0 hr7_gm_0 hr7f_gm_1 hr7_gm_1 hr7f_gm_2 hr7_gm_2 hr7f_gm_3 hr7_gm_3 hr7f_gm_4 hr7_gm_4 hr7f_gm_5 hr7_gm_5
      have n0_ : Aside0 (((((((w51_.setCell ⟨gm, 0, none⟩ (.int .i64 u1)).setCell ⟨gm, 1, none⟩ (.int .i64 u2)).setCell ⟨gm, 2, none⟩ (.int .i64 u3)).setCell ⟨gm, 3, none⟩ (.int .i64 u4)).setCell ⟨gm, 4, none⟩ (.int .i64 u5)).setCell ⟨gm, 5, none⟩ (.int .i64 u6)).heap[gp]? = some (.cells #[.int .i64 p0, .int .i64 p1, .int .i64 p2, .int .i64 p3, .int .i64 p4, .int .i64 p5, .int .i64 p6, .int .i64 p7, .int .i64 p8, .int .i64 p9, .int .i64 p10, .int .i64 p11] 23 (0, 0))) := ⟨blk_far (blk_far (blk_far (blk_far (blk_far (blk_far (B_gp.1) N_gp_gm.1 _) N_gp_gm.1 _) N_gp_gm.1 _) N_gp_gm.1 _) N_gp_gm.1 _) N_gp_gm.1 _⟩
      have n1_ : Aside0 (((((((w51_.setCell ⟨gm, 0, none⟩ (.int .i64 u1)).setCell ⟨gm, 1, none⟩ (.int .i64 u2)).setCell ⟨gm, 2, none⟩ (.int .i64 u3)).setCell ⟨gm, 3, none⟩ (.int .i64 u4)).setCell ⟨gm, 4, none⟩ (.int .i64 u5)).setCell ⟨gm, 5, none⟩ (.int .i64 u6)).heap[gs]? = some (.cells #[.int .i64 s0, .int .i64 s1, .int .i64 s2, .bool s3, .int .i64 s4, .int .i64 s5, .bool s6, .slice sA sl.length sc, .int .i64 s8, .int .i64 s9, .int .i64 s10] 30 (0, 0))) := ⟨blk_far (blk_far (blk_far (blk_far (blk_far (blk_far (B_gs.1) N_gs_gm.1 _) N_gs_gm.1 _) N_gs_gm.1 _) N_gs_gm.1 _) N_gs_gm.1 _) N_gs_gm.1 _⟩
      have n2_ : Aside0 (((((((w51_.setCell ⟨gm, 0, none⟩ (.int .i64 u1)).setCell ⟨gm, 1, none⟩ (.int .i64 u2)).setCell ⟨gm, 2, none⟩ (.int .i64 u3)).setCell ⟨gm, 3, none⟩ (.int .i64 u4)).setCell ⟨gm, 4, none⟩ (.int .i64 u5)).setCell ⟨gm, 5, none⟩ (.int .i64 u6)).heap[gf]? = some (.cells #[.int .i64 p0, .int .i64 p1, .int .i64 p2, .int .i64 p3, .int .i64 p4, .int .i64 p5, .int .i64 p6, .int .i64 p7, .int .i64 p8, .int .i64 p9, .int .i64 p10, .int .i64 p11, .int .i64 s0, .int .i64 s1, .int .i64 s2, .bool s3, .int .i64 s4, .int .i64 s5, .bool s6, .slice sA sl.length sc, .int .i64 s8, .int .i64 s9, .int .i64 s10] 35 (0, 0))) := ⟨blk_far (blk_far (blk_far (blk_far (blk_far (blk_far (B_gf.1) N_gf_gm.1 _) N_gf_gm.1 _) N_gf_gm.1 _) N_gf_gm.1 _) N_gf_gm.1 _) N_gf_gm.1 _⟩
      have n3_ : Aside0 (((((((w51_.setCell ⟨gm, 0, none⟩ (.int .i64 u1)).setCell ⟨gm, 1, none⟩ (.int .i64 u2)).setCell ⟨gm, 2, none⟩ (.int .i64 u3)).setCell ⟨gm, 3, none⟩ (.int .i64 u4)).setCell ⟨gm, 4, none⟩ (.int .i64 u5)).setCell ⟨gm, 5, none⟩ (.int .i64 u6)).heap[gi]? = some (.cells #[.int .i64 s0, .int .i64 s1] 25 (0, 0))) := ⟨blk_far (blk_far (blk_far (blk_far (blk_far (blk_far (B_gi.1) N_gi_gm.1 _) N_gi_gm.1 _) N_gi_gm.1 _) N_gi_gm.1 _) N_gi_gm.1 _) N_gi_gm.1 _⟩
      have n4_ : Aside0 (((((((w51_.setCell ⟨gm, 0, none⟩ (.int .i64 u1)).setCell ⟨gm, 1, none⟩ (.int .i64 u2)).setCell ⟨gm, 2, none⟩ (.int .i64 u3)).setCell ⟨gm, 3, none⟩ (.int .i64 u4)).setCell ⟨gm, 4, none⟩ (.int .i64 u5)).setCell ⟨gm, 5, none⟩ (.int .i64 u6)).heap[gl]? = some (.cells #[.int .i64 u1, .int .i64 u2, .int .i64 u3, .int .i64 u4, .int .i64 u5, .int .i64 u6] 43 (0, 0))) := ⟨blk_far (blk_far (blk_far (blk_far (blk_far (blk_far (B_gl.1) N_gl_gm.1 _) N_gl_gm.1 _) N_gl_gm.1 _) N_gl_gm.1 _) N_gl_gm.1 _) N_gl_gm.1 _⟩
      have n5_ : Aside0 (((((((w51_.setCell ⟨gm, 0, none⟩ (.int .i64 u1)).setCell ⟨gm, 1, none⟩ (.int .i64 u2)).setCell ⟨gm, 2, none⟩ (.int .i64 u3)).setCell ⟨gm, 3, none⟩ (.int .i64 u4)).setCell ⟨gm, 4, none⟩ (.int .i64 u5)).setCell ⟨gm, 5, none⟩ (.int .i64 u6)).heap[gm]? = some (.cells #[.int .i64 u1, .int .i64 u2, .int .i64 u3, .int .i64 u4, .int .i64 u5, .int .i64 u6] 43 (0, 0))) := ⟨by have h_ := blk_set (blk_set (blk_set (blk_set (blk_set (blk_set (B_gm.1) 0 (.int .i64 u1)) 1 (.int .i64 u2)) 2 (.int .i64 u3)) 3 (.int .i64 u4)) 4 (.int .i64 u5)) 5 (.int .i64 u6); simp only [List.setIfInBounds_toArray, List.set_cons_zero, List.set_cons_succ] at h_; exact h_⟩
      have n6_ : Aside0 (Below w.heap.size w ((((((w51_.setCell ⟨gm, 0, none⟩ (.int .i64 u1)).setCell ⟨gm, 1, none⟩ (.int .i64 u2)).setCell ⟨gm, 2, none⟩ (.int .i64 u3)).setCell ⟨gm, 3, none⟩ (.int .i64 u4)).setCell ⟨gm, 4, none⟩ (.int .i64 u5)).setCell ⟨gm, 5, none⟩ (.int .i64 u6))) := ⟨below_set (below_set (below_set (below_set (below_set (below_set (HB.1) E_gm.1) E_gm.1) E_gm.1) E_gm.1) E_gm.1) E_gm.1⟩
      clear B_gp B_gs B_gf B_gi B_gl B_gm HB
      have B_gp := n0_
      have B_gs := n1_
      have B_gf := n2_
      have B_gi := n3_
      have B_gl := n4_
      have B_gm := n5_
      have HB := n6_
      clear n0_ n1_ n2_ n3_ n4_ n5_ n6_
      generalize ((((((w51_.setCell ⟨gm, 0, none⟩ (.int .i64 u1)).setCell ⟨gm, 1, none⟩ (.int .i64 u2)).setCell ⟨gm, 2, none⟩ (.int .i64 u3)).setCell ⟨gm, 3, none⟩ (.int .i64 u4)).setCell ⟨gm, 4, none⟩ (.int .i64 u5)).setCell ⟨gm, 5, none⟩ (.int .i64 u6)) = w52_ at B_gp B_gs B_gf B_gi B_gl B_gm HB ⊢
      go_upto_region 12 with ((go_at_call 11; (with_reducible refine (health_Front_Pulse.ok k gf p0 p1 p2 p3 p4 p5 p6 p7 p8 p9 p10 p11 s0 s1 s2 s3 s4 s5 s6 sA sc sl s8 s9 s10 h2 hz2 nb _ (Kd.C_below HRs.1 HB.1) HCs.1 B_gf.1 HHH.1 HN2.1).mono ?_); rintro e w53_ ⟨rfl, hb⟩; replace B_gp := bb hb B_gp.1; replace B_gs := bb hb B_gs.1; replace B_gf := bb hb B_gf.1; replace B_gi := bb hb B_gi.1; replace B_gl := bb hb B_gl.1; replace B_gm := bb hb B_gm.1; replace HB := Aside0.mk (below_step HB.1 hb); clear hb))
      replace B_gp := Aside0.mk (blk_drew B_gp.1)
      replace B_gs := Aside0.mk (blk_drew B_gs.1)
      replace B_gf := Aside0.mk (blk_drew B_gf.1)
      replace B_gi := Aside0.mk (blk_drew B_gi.1)
      replace B_gl := Aside0.mk (blk_drew B_gl.1)
      replace B_gm := Aside0.mk (blk_drew B_gm.1)
      replace HB := Aside0.mk (below_drew1 HB.1)
      refine start_ (n := 13) (S := fun w' => w'.heap[gp]? = some (.cells #[.int .i64 p0, .int .i64 p1, .int .i64 p2, .int .i64 p3, .int .i64 p4, .int .i64 p5, .int .i64 p6, .int .i64 p7, .int .i64 p8, .int .i64 p9, .int .i64 p10, .int .i64 p11] 23 (0, 0)) ∧ w'.heap[gs]? = some (.cells #[.int .i64 s0, .int .i64 s1, .int .i64 s2, .bool s3, .int .i64 s4, .int .i64 s5, .bool s6, .slice sA sl.length sc, .int .i64 s8, .int .i64 s9, .int .i64 s10] 30 (0, 0))) (ds := []) (bs 13 0) (by kernel_rfl) rfl (by rfl) ⟨B_gp.1, B_gs.1⟩ (fun hHeld => ?_)
      generalize w53_.drew = w54_ at B_gp B_gs B_gf B_gi B_gl B_gm HB hHeld ⊢
      refine pu 0 62 1 ?_
      refine pu 2 64 5 ?_
      refine pu 5 67 37 ?_
      refine take_ (i := 1) (N := some 63) (v := ?_) (a' := ?_) (bs 13 39) rfl rfl (by kernel_rfl) (fun _ _ _ h => h) (Or.inl ⟨by rfl, ?_⟩) hHeld ?_ ?_
      rotate_left
      ·rintro w' ⟨s_gp, s_gs⟩
       have c_2 : w'.cell? ⟨gs, 2, none⟩ = some (.int .i64 s2) := (blk_cell s_gs 2).trans rfl
       clear s_gp s_gs
       go_simp
       with_reducible rfl
      rotate_left
      ·simp only [Act.put, List.setIfInBounds_toArray, List.set_cons_zero, List.set_cons_succ, i64_w, i32_w]
       rfl
      refine take_ (i := 3) (N := some 65) (v := ?_) (a' := ?_) (bs 13 47) rfl rfl (by kernel_rfl) (fun _ _ _ h => h) (Or.inl ⟨by rfl, ?_⟩) hHeld ?_ ?_
      rotate_left
      ·rintro w' ⟨s_gp, s_gs⟩
       have c_0 : w'.cell? ⟨gs, 0, none⟩ = some (.int .i64 s0) := (blk_cell s_gs 0).trans rfl
       have c_1 : w'.cell? ⟨gs, 1, none⟩ = some (.int .i64 s1) := (blk_cell s_gs 1).trans rfl
       clear s_gp s_gs
       go_simp
       with_reducible rfl
      rotate_left
      ·simp only [Act.put, List.setIfInBounds_toArray, List.set_cons_zero, List.set_cons_succ, i64_w, i32_w]
       rfl
      refine take_ (i := 4) (N := some 66) (v := ?_) (a' := ?_) (bs 13 63) rfl rfl (by kernel_rfl) (fun _ _ _ h => h) (Or.inl ⟨by rfl, ?_⟩) hHeld ?_ ?_
      rotate_left
      ·rintro w' ⟨s_gp, s_gs⟩
       have c_0 : w'.cell? ⟨gp, 0, none⟩ = some (.int .i64 p0) := (blk_cell s_gp 0).trans rfl
       have c_1 : w'.cell? ⟨gp, 1, none⟩ = some (.int .i64 p1) := (blk_cell s_gp 1).trans rfl
       have c_2 : w'.cell? ⟨gp, 2, none⟩ = some (.int .i64 p2) := (blk_cell s_gp 2).trans rfl
       have c_3 : w'.cell? ⟨gp, 3, none⟩ = some (.int .i64 p3) := (blk_cell s_gp 3).trans rfl
       have c_4 : w'.cell? ⟨gp, 4, none⟩ = some (.int .i64 p4) := (blk_cell s_gp 4).trans rfl
       have c_5 : w'.cell? ⟨gp, 5, none⟩ = some (.int .i64 p5) := (blk_cell s_gp 5).trans rfl
       have c_6 : w'.cell? ⟨gp, 6, none⟩ = some (.int .i64 p6) := (blk_cell s_gp 6).trans rfl
       have c_7 : w'.cell? ⟨gp, 7, none⟩ = some (.int .i64 p7) := (blk_cell s_gp 7).trans rfl
       have c_8 : w'.cell? ⟨gp, 8, none⟩ = some (.int .i64 p8) := (blk_cell s_gp 8).trans rfl
       have c_9 : w'.cell? ⟨gp, 9, none⟩ = some (.int .i64 p9) := (blk_cell s_gp 9).trans rfl
       have c_10 : w'.cell? ⟨gp, 10, none⟩ = some (.int .i64 p10) := (blk_cell s_gp 10).trans rfl
       have c_11 : w'.cell? ⟨gp, 11, none⟩ = some (.int .i64 p11) := (blk_cell s_gp 11).trans rfl
       clear s_gp s_gs
       go_simp
       with_reducible rfl
      rotate_left
      ·simp only [Act.put, List.setIfInBounds_toArray, List.set_cons_zero, List.set_cons_succ, i64_w, i32_w]
       rfl
      refine take_ (i := 6) (N := some 68) (v := ?_) (a' := ?_) (bs 13 127) rfl rfl (by kernel_rfl) (fun _ _ _ h => h) (Or.inl ⟨by rfl, ?_⟩) hHeld ?_ ?_
      rotate_left
      ·rintro w' ⟨s_gp, s_gs⟩
       have c_2 : w'.cell? ⟨gs, 2, none⟩ = some (.int .i64 s2) := (blk_cell s_gs 2).trans rfl
       clear s_gp s_gs
       go_simp
       with_reducible rfl
      rotate_left
      ·simp only [Act.put, List.setIfInBounds_toArray, List.set_cons_zero, List.set_cons_succ, i64_w, i32_w]
       rfl
      refine join_ (σ := Nat) 2 (bs 13 2047) (fun s_ => [(69, .int .i64 nb), (19, .pointer (some ⟨s_, 0, none⟩)), (17, .int .i64 0), (18, .int .i64 s2)]) (fun s_ w' => (w'.heap[gp]? = some (.cells #[.int .i64 p0, .int .i64 p1, .int .i64 p2, .int .i64 p3, .int .i64 p4, .int .i64 p5, .int .i64 p6, .int .i64 p7, .int .i64 p8, .int .i64 p9, .int .i64 p10, .int .i64 p11] 23 (0, 0)) ∧ w'.heap[gs]? = some (.cells #[.int .i64 s0, .int .i64 s1, .int .i64 s2, .bool s3, .int .i64 s4, .int .i64 s5, .bool s6, .slice sA sl.length sc, .int .i64 s8, .int .i64 s9, .int .i64 s10] 30 (0, 0))) ∧ (w'.heap[gp]? = some (.cells #[.int .i64 p0, .int .i64 p1, .int .i64 p2, .int .i64 p3, .int .i64 p4, .int .i64 p5, .int .i64 p6, .int .i64 p7, .int .i64 p8, .int .i64 p9, .int .i64 p10, .int .i64 p11] 23 (0, 0))) ∧ (w'.heap[gs]? = some (.cells #[.int .i64 s0, .int .i64 s1, .int .i64 s2, .bool s3, .int .i64 s4, .int .i64 s5, .bool s6, .slice sA sl.length sc, .int .i64 s8, .int .i64 s9, .int .i64 s10] 30 (0, 0))) ∧ (w'.heap[gf]? = some (.cells #[.int .i64 p0, .int .i64 p1, .int .i64 p2, .int .i64 p3, .int .i64 p4, .int .i64 p5, .int .i64 p6, .int .i64 p7, .int .i64 p8, .int .i64 p9, .int .i64 p10, .int .i64 p11, .int .i64 s0, .int .i64 s1, .int .i64 s2, .bool s3, .int .i64 s4, .int .i64 s5, .bool s6, .slice sA sl.length sc, .int .i64 s8, .int .i64 s9, .int .i64 s10] 35 (0, 0))) ∧ (w'.heap[gi]? = some (.cells #[.int .i64 s0, .int .i64 s1] 25 (0, 0))) ∧ (w'.heap[gl]? = some (.cells #[.int .i64 u1, .int .i64 u2, .int .i64 u3, .int .i64 u4, .int .i64 u5, .int .i64 u6] 43 (0, 0))) ∧ (w'.heap[gm]? = some (.cells #[.int .i64 u1, .int .i64 u2, .int .i64 u3, .int .i64 u4, .int .i64 u5, .int .i64 u6] 43 (0, 0))) ∧ (w'.heap[s_]? = some (.cells #[.int .i64 0, .int .i64 0] 25 (0, 0))) ∧ (Below w.heap.size w w') ∧ w.heap.size ≤ s_ ∧ gp ≠ s_ ∧ s_ ≠ gp ∧ gs ≠ s_ ∧ s_ ≠ gs ∧ gf ≠ s_ ∧ s_ ≠ gf ∧ gi ≠ s_ ∧ s_ ≠ gi ∧ gl ≠ s_ ∧ s_ ≠ gl ∧ gm ≠ s_ ∧ s_ ≠ gm) ?_ ?_
      rotate_left
      ·intro hCont
       refine two_ (i := 7) (j := 8) (Ni := some 69) (Nj := some 19) (bs 13 255) (bs 13 383) rfl rfl rfl rfl (by kernel_rfl) (by decide) (by decide) (fun K hK => ?_) (fun K hK => ?_)
       ·skip
        refine goes_ Tryd.func12 (by kernel_rfl) rfl #[.agg #[.int .i64 p0, .int .i64 p1, .int .i64 p2, .int .i64 p3, .int .i64 p4, .int .i64 p5, .int .i64 p6, .int .i64 p7, .int .i64 p8, .int .i64 p9, .int .i64 p10, .int .i64 p11], .int .i64 s2] (by rfl) rfl rfl (by (try simp only [List.map_toArray, List.map_cons, List.map_nil]); first | done | rfl) ?_
        with_reducible refine (clepsydraref13_Number.calls p0 p1 p2 p3 p4 p5 p6 p7 p8 p9 p10 p11 s2 nb _ HNB.1).mono ?_
        rintro e w55_ ⟨rfl, hb⟩
        replace B_gp := bb hb B_gp.1
        replace B_gs := bb hb B_gs.1
        replace B_gf := bb hb B_gf.1
        replace B_gi := bb hb B_gi.1
        replace B_gl := bb hb B_gl.1
        replace B_gm := bb hb B_gm.1
        replace HB := Aside0.mk (below_step HB.1 hb)
        clear hb
        refine ⟨_, rfl, ?_⟩
        refine hK.out _ _ ⟨B_gp.1, B_gs.1⟩ (fun hHeld => ?_)
        clear hK K
        refine nm 69 ?_
        refine one_ (i := 8) (N := some 19) (bs 13 511) rfl rfl (by kernel_rfl) (by decide) (fun K hK => ?_)
        refine box_step ?hg (N := 19) ?hd (cs := #[.int .i64 0, .int .i64 0]) (t := 25) ?hr ?_; (case hd => rfl); (case hg => rfl); (case hr => first | (go_simp; done) | (go_simp; rfl))
        intro gw hg w56_ hbox hb
        have N_gp_gw := nl hg B_gp.1
        have N_gs_gw := nl hg B_gs.1
        have N_gf_gw := nl hg B_gf.1
        have N_gi_gw := nl hg B_gi.1
        have N_gl_gw := nl hg B_gl.1
        have N_gm_gw := nl hg B_gm.1
        have N_gw_gp := ng hg B_gp.1
        have N_gw_gs := ng hg B_gs.1
        have N_gw_gf := ng hg B_gf.1
        have N_gw_gi := ng hg B_gi.1
        have N_gw_gl := ng hg B_gl.1
        have N_gw_gm := ng hg B_gm.1
        have E_gw : Aside0 (w.heap.size ≤ gw) := ⟨by rw [hg]; exact below_size HB.1⟩
        replace B_gp := bb hb B_gp.1
        replace B_gs := bb hb B_gs.1
        replace B_gf := bb hb B_gf.1
        replace B_gi := bb hb B_gi.1
        replace B_gl := bb hb B_gl.1
        replace B_gm := bb hb B_gm.1
        replace HB := Aside0.mk (below_step HB.1 hb)
        have B_gw := Aside0.mk hbox
        clear hb hbox hg
        refine hK.out _ _ ⟨B_gp.1, B_gs.1⟩ (fun hHeld => ?_)
        clear hK K
        refine nm 19 ?_
        refine pu 9 17 1023 ?_
        refine pu 10 18 2047 ?_
        exact norm_ (by simp only [putAll, Act.put, List.setIfInBounds_toArray, List.set_cons_zero, List.set_cons_succ] <;> rfl) (hCont gw _ ⟨hHeld, B_gp.1, B_gs.1, B_gf.1, B_gi.1, B_gl.1, B_gm.1, B_gw.1, HB.1, E_gw.1, N_gp_gw.1, N_gw_gp.1, N_gs_gw.1, N_gw_gs.1, N_gf_gw.1, N_gw_gf.1, N_gi_gw.1, N_gw_gi.1, N_gl_gw.1, N_gw_gl.1, N_gm_gw.1, N_gw_gm.1⟩)
       ·skip
        refine box_step ?hg (N := 19) ?hd (cs := #[.int .i64 0, .int .i64 0]) (t := 25) ?hr ?_; (case hd => rfl); (case hg => rfl); (case hr => first | (go_simp; done) | (go_simp; rfl))
        intro gw hg w57_ hbox hb
        have N_gp_gw := nl hg B_gp.1
        have N_gs_gw := nl hg B_gs.1
        have N_gf_gw := nl hg B_gf.1
        have N_gi_gw := nl hg B_gi.1
        have N_gl_gw := nl hg B_gl.1
        have N_gm_gw := nl hg B_gm.1
        have N_gw_gp := ng hg B_gp.1
        have N_gw_gs := ng hg B_gs.1
        have N_gw_gf := ng hg B_gf.1
        have N_gw_gi := ng hg B_gi.1
        have N_gw_gl := ng hg B_gl.1
        have N_gw_gm := ng hg B_gm.1
        have E_gw : Aside0 (w.heap.size ≤ gw) := ⟨by rw [hg]; exact below_size HB.1⟩
        replace B_gp := bb hb B_gp.1
        replace B_gs := bb hb B_gs.1
        replace B_gf := bb hb B_gf.1
        replace B_gi := bb hb B_gi.1
        replace B_gl := bb hb B_gl.1
        replace B_gm := bb hb B_gm.1
        replace HB := Aside0.mk (below_step HB.1 hb)
        have B_gw := Aside0.mk hbox
        clear hb hbox hg
        refine hK.out _ _ ⟨B_gp.1, B_gs.1⟩ (fun hHeld => ?_)
        clear hK K
        refine nm 19 ?_
        refine one_ (i := 7) (N := some 69) (bs 13 511) rfl rfl (by kernel_rfl) (by decide) (fun K hK => ?_)
        refine goes_ Tryd.func12 (by kernel_rfl) rfl #[.agg #[.int .i64 p0, .int .i64 p1, .int .i64 p2, .int .i64 p3, .int .i64 p4, .int .i64 p5, .int .i64 p6, .int .i64 p7, .int .i64 p8, .int .i64 p9, .int .i64 p10, .int .i64 p11], .int .i64 s2] (by rfl) rfl rfl (by (try simp only [List.map_toArray, List.map_cons, List.map_nil]); first | done | rfl) ?_
        with_reducible refine (clepsydraref13_Number.calls p0 p1 p2 p3 p4 p5 p6 p7 p8 p9 p10 p11 s2 nb _ HNB.1).mono ?_
        rintro e w58_ ⟨rfl, hb⟩
        replace B_gp := bb hb B_gp.1
        replace B_gs := bb hb B_gs.1
        replace B_gf := bb hb B_gf.1
        replace B_gi := bb hb B_gi.1
        replace B_gl := bb hb B_gl.1
        replace B_gm := bb hb B_gm.1
        replace B_gw := bb hb B_gw.1
        replace HB := Aside0.mk (below_step HB.1 hb)
        clear hb
        refine ⟨_, rfl, ?_⟩
        refine hK.out _ _ ⟨B_gp.1, B_gs.1⟩ (fun hHeld => ?_)
        clear hK K
        refine nm 69 ?_
        refine pu 9 17 1023 ?_
        refine pu 10 18 2047 ?_
        exact norm_ (by simp only [putAll, Act.put, List.setIfInBounds_toArray, List.set_cons_zero, List.set_cons_succ] <;> rfl) (hCont gw _ ⟨hHeld, B_gp.1, B_gs.1, B_gf.1, B_gi.1, B_gl.1, B_gm.1, B_gw.1, HB.1, E_gw.1, N_gp_gw.1, N_gw_gp.1, N_gs_gw.1, N_gw_gs.1, N_gf_gw.1, N_gw_gf.1, N_gi_gw.1, N_gw_gi.1, N_gl_gw.1, N_gw_gl.1, N_gm_gw.1, N_gw_gm.1⟩)
      rintro gw w59_ ⟨hS_, h0_, h1_, h2_, h3_, h4_, h5_, h6_, h7_, hE_, hN0_, hM0_, hN1_, hM1_, hN2_, hM2_, hN3_, hM3_, hN4_, hM4_, hN5_, hM5_⟩
      clear B_gp B_gs B_gf B_gi B_gl B_gm HB
      have B_gp : Aside0 (w59_.heap[gp]? = some (.cells #[.int .i64 p0, .int .i64 p1, .int .i64 p2, .int .i64 p3, .int .i64 p4, .int .i64 p5, .int .i64 p6, .int .i64 p7, .int .i64 p8, .int .i64 p9, .int .i64 p10, .int .i64 p11] 23 (0, 0))) := ⟨h0_⟩
      have B_gs : Aside0 (w59_.heap[gs]? = some (.cells #[.int .i64 s0, .int .i64 s1, .int .i64 s2, .bool s3, .int .i64 s4, .int .i64 s5, .bool s6, .slice sA sl.length sc, .int .i64 s8, .int .i64 s9, .int .i64 s10] 30 (0, 0))) := ⟨h1_⟩
      have B_gf : Aside0 (w59_.heap[gf]? = some (.cells #[.int .i64 p0, .int .i64 p1, .int .i64 p2, .int .i64 p3, .int .i64 p4, .int .i64 p5, .int .i64 p6, .int .i64 p7, .int .i64 p8, .int .i64 p9, .int .i64 p10, .int .i64 p11, .int .i64 s0, .int .i64 s1, .int .i64 s2, .bool s3, .int .i64 s4, .int .i64 s5, .bool s6, .slice sA sl.length sc, .int .i64 s8, .int .i64 s9, .int .i64 s10] 35 (0, 0))) := ⟨h2_⟩
      have B_gi : Aside0 (w59_.heap[gi]? = some (.cells #[.int .i64 s0, .int .i64 s1] 25 (0, 0))) := ⟨h3_⟩
      have B_gl : Aside0 (w59_.heap[gl]? = some (.cells #[.int .i64 u1, .int .i64 u2, .int .i64 u3, .int .i64 u4, .int .i64 u5, .int .i64 u6] 43 (0, 0))) := ⟨h4_⟩
      have B_gm : Aside0 (w59_.heap[gm]? = some (.cells #[.int .i64 u1, .int .i64 u2, .int .i64 u3, .int .i64 u4, .int .i64 u5, .int .i64 u6] 43 (0, 0))) := ⟨h5_⟩
      have B_gw : Aside0 (w59_.heap[gw]? = some (.cells #[.int .i64 0, .int .i64 0] 25 (0, 0))) := ⟨h6_⟩
      have HB : Aside0 (Below w.heap.size w w59_) := ⟨h7_⟩
      have E_gw := Aside0.mk hE_
      have N_gp_gw := Aside0.mk hN0_
      have N_gw_gp := Aside0.mk hM0_
      have N_gs_gw := Aside0.mk hN1_
      have N_gw_gs := Aside0.mk hM1_
      have N_gf_gw := Aside0.mk hN2_
      have N_gw_gf := Aside0.mk hM2_
      have N_gi_gw := Aside0.mk hN3_
      have N_gw_gi := Aside0.mk hM3_
      have N_gl_gw := Aside0.mk hN4_
      have N_gw_gl := Aside0.mk hM4_
      have N_gm_gw := Aside0.mk hN5_
      have N_gw_gm := Aside0.mk hM5_
      clear h0_ h1_ h2_ h3_ h4_ h5_ h6_ h7_ hE_ hN0_ hM0_ hN1_ hM1_ hN2_ hM2_ hN3_ hM3_ hN4_ hM4_ hN5_ hM5_
      have hHeld := hS_
      try dsimp only at hHeld
      clear hS_
      refine norm_ (a' := ?_) ?_ ?_
      rotate_left
      ·simp only [putAll, Act.put, List.setIfInBounds_toArray, List.set_cons_zero, List.set_cons_succ]
       rfl
      refine one_ (i := 11) (N := none) (bs 13 4095) rfl rfl (by kernel_rfl) (by decide) (fun K hK => ?_)
      have hs_0 : w59_.cell? ⟨gw, 0, none⟩ = some (.int .i64 0) := (blk_cell B_gw.1 0).trans rfl
      have hf_0 := blk_frozen B_gw.1 0
      have hs_1 : w59_.cell? ⟨gw, 1, none⟩ = some (.int .i64 0) := (blk_cell B_gw.1 1).trans rfl
      have hf_1 := blk_frozen B_gw.1 1
      refine skip_ (w1 := ?_) (by rfl) rfl ?_ ?_
      rotate_left
      ·go_simp
       rfl
      have n0_ : Aside0 (((w59_.setCell ⟨gw, 0, none⟩ (.int .i64 s0)).setCell ⟨gw, 1, none⟩ (.int .i64 s1)).heap[gp]? = some (.cells #[.int .i64 p0, .int .i64 p1, .int .i64 p2, .int .i64 p3, .int .i64 p4, .int .i64 p5, .int .i64 p6, .int .i64 p7, .int .i64 p8, .int .i64 p9, .int .i64 p10, .int .i64 p11] 23 (0, 0))) := ⟨blk_far (blk_far (B_gp.1) N_gp_gw.1 _) N_gp_gw.1 _⟩
      have n1_ : Aside0 (((w59_.setCell ⟨gw, 0, none⟩ (.int .i64 s0)).setCell ⟨gw, 1, none⟩ (.int .i64 s1)).heap[gs]? = some (.cells #[.int .i64 s0, .int .i64 s1, .int .i64 s2, .bool s3, .int .i64 s4, .int .i64 s5, .bool s6, .slice sA sl.length sc, .int .i64 s8, .int .i64 s9, .int .i64 s10] 30 (0, 0))) := ⟨blk_far (blk_far (B_gs.1) N_gs_gw.1 _) N_gs_gw.1 _⟩
      have n2_ : Aside0 (((w59_.setCell ⟨gw, 0, none⟩ (.int .i64 s0)).setCell ⟨gw, 1, none⟩ (.int .i64 s1)).heap[gf]? = some (.cells #[.int .i64 p0, .int .i64 p1, .int .i64 p2, .int .i64 p3, .int .i64 p4, .int .i64 p5, .int .i64 p6, .int .i64 p7, .int .i64 p8, .int .i64 p9, .int .i64 p10, .int .i64 p11, .int .i64 s0, .int .i64 s1, .int .i64 s2, .bool s3, .int .i64 s4, .int .i64 s5, .bool s6, .slice sA sl.length sc, .int .i64 s8, .int .i64 s9, .int .i64 s10] 35 (0, 0))) := ⟨blk_far (blk_far (B_gf.1) N_gf_gw.1 _) N_gf_gw.1 _⟩
      have n3_ : Aside0 (((w59_.setCell ⟨gw, 0, none⟩ (.int .i64 s0)).setCell ⟨gw, 1, none⟩ (.int .i64 s1)).heap[gi]? = some (.cells #[.int .i64 s0, .int .i64 s1] 25 (0, 0))) := ⟨blk_far (blk_far (B_gi.1) N_gi_gw.1 _) N_gi_gw.1 _⟩
      have n4_ : Aside0 (((w59_.setCell ⟨gw, 0, none⟩ (.int .i64 s0)).setCell ⟨gw, 1, none⟩ (.int .i64 s1)).heap[gl]? = some (.cells #[.int .i64 u1, .int .i64 u2, .int .i64 u3, .int .i64 u4, .int .i64 u5, .int .i64 u6] 43 (0, 0))) := ⟨blk_far (blk_far (B_gl.1) N_gl_gw.1 _) N_gl_gw.1 _⟩
      have n5_ : Aside0 (((w59_.setCell ⟨gw, 0, none⟩ (.int .i64 s0)).setCell ⟨gw, 1, none⟩ (.int .i64 s1)).heap[gm]? = some (.cells #[.int .i64 u1, .int .i64 u2, .int .i64 u3, .int .i64 u4, .int .i64 u5, .int .i64 u6] 43 (0, 0))) := ⟨blk_far (blk_far (B_gm.1) N_gm_gw.1 _) N_gm_gw.1 _⟩
      have n6_ : Aside0 (((w59_.setCell ⟨gw, 0, none⟩ (.int .i64 s0)).setCell ⟨gw, 1, none⟩ (.int .i64 s1)).heap[gw]? = some (.cells #[.int .i64 s0, .int .i64 s1] 25 (0, 0))) := ⟨by have h_ := blk_set (blk_set (B_gw.1) 0 (.int .i64 s0)) 1 (.int .i64 s1); simp only [List.setIfInBounds_toArray, List.set_cons_zero, List.set_cons_succ] at h_; exact h_⟩
      have n7_ : Aside0 (Below w.heap.size w ((w59_.setCell ⟨gw, 0, none⟩ (.int .i64 s0)).setCell ⟨gw, 1, none⟩ (.int .i64 s1))) := ⟨below_set (below_set (HB.1) E_gw.1) E_gw.1⟩
      clear B_gp B_gs B_gf B_gi B_gl B_gm B_gw HB
      have B_gp := n0_
      have B_gs := n1_
      have B_gf := n2_
      have B_gi := n3_
      have B_gl := n4_
      have B_gm := n5_
      have B_gw := n6_
      have HB := n7_
      clear n0_ n1_ n2_ n3_ n4_ n5_ n6_ n7_
      refine hK.out _ _ ⟨B_gp.1, B_gs.1⟩ (fun hHeld => ?_)
      clear hK K hs_0 hf_0 hs_1 hf_1
      generalize ((w59_.setCell ⟨gw, 0, none⟩ (.int .i64 s0)).setCell ⟨gw, 1, none⟩ (.int .i64 s1)) = w60_ at B_gp B_gs B_gf B_gi B_gl B_gm B_gw HB hHeld ⊢
      refine pu 12 20 8191 ?_
      refine done_ (by kernel_rfl) ?_
      go_upto_region 13 with (fail)
      go_upto_region 15 with (fail)
      replace B_gp := Aside0.mk (blk_drew B_gp.1)
      replace B_gs := Aside0.mk (blk_drew B_gs.1)
      replace B_gf := Aside0.mk (blk_drew B_gf.1)
      replace B_gi := Aside0.mk (blk_drew B_gi.1)
      replace B_gl := Aside0.mk (blk_drew B_gl.1)
      replace B_gm := Aside0.mk (blk_drew B_gm.1)
      replace B_gw := Aside0.mk (blk_drew B_gw.1)
      replace HB := Aside0.mk (below_drew1 HB.1)
      refine start_ (n := 53) (S := fun w' => w'.heap[gp]? = some (.cells #[.int .i64 p0, .int .i64 p1, .int .i64 p2, .int .i64 p3, .int .i64 p4, .int .i64 p5, .int .i64 p6, .int .i64 p7, .int .i64 p8, .int .i64 p9, .int .i64 p10, .int .i64 p11] 23 (0, 0)) ∧ w'.heap[gs]? = some (.cells #[.int .i64 s0, .int .i64 s1, .int .i64 s2, .bool s3, .int .i64 s4, .int .i64 s5, .bool s6, .slice sA sl.length sc, .int .i64 s8, .int .i64 s9, .int .i64 s10] 30 (0, 0)) ∧ w'.heap[gf]? = some (.cells #[.int .i64 p0, .int .i64 p1, .int .i64 p2, .int .i64 p3, .int .i64 p4, .int .i64 p5, .int .i64 p6, .int .i64 p7, .int .i64 p8, .int .i64 p9, .int .i64 p10, .int .i64 p11, .int .i64 s0, .int .i64 s1, .int .i64 s2, .bool s3, .int .i64 s4, .int .i64 s5, .bool s6, .slice sA sl.length sc, .int .i64 s8, .int .i64 s9, .int .i64 s10] 35 (0, 0)) ∧ w'.heap[gi]? = some (.cells #[.int .i64 s0, .int .i64 s1] 25 (0, 0)) ∧ w'.heap[gl]? = some (.cells #[.int .i64 u1, .int .i64 u2, .int .i64 u3, .int .i64 u4, .int .i64 u5, .int .i64 u6] 43 (0, 0)) ∧ w'.heap[gm]? = some (.cells #[.int .i64 u1, .int .i64 u2, .int .i64 u3, .int .i64 u4, .int .i64 u5, .int .i64 u6] 43 (0, 0)) ∧ w'.heap[gw]? = some (.cells #[.int .i64 s0, .int .i64 s1] 25 (0, 0))) (ds := []) (bs 53 0) (by kernel_rfl) rfl (by rfl) ⟨B_gp.1, B_gs.1, B_gf.1, B_gi.1, B_gl.1, B_gm.1, B_gw.1⟩ (fun hHeld => ?_)
      generalize w60_.drew = w61_ at B_gp B_gs B_gf B_gi B_gl B_gm B_gw HB hHeld ⊢
      refine pu 0 73 1 ?_
      refine pu 2 75 5 ?_
      refine one_ (i := 1) (N := some 74) (bs 53 7) rfl rfl (by kernel_rfl) (by decide) (fun K hK => ?_)
      refine goes_ Tryd.func13 (by kernel_rfl) rfl #[.pointer (some ⟨gf, 0, none⟩)] (by rfl) rfl rfl (by (try simp only [List.map_toArray, List.map_cons, List.map_nil]); first | done | rfl) ?_
      with_reducible refine (health_Front_Health.calls k gf p0 p1 p2 p3 p4 p5 p6 p7 p8 p9 p10 p11 s0 s1 s2 s3 s4 s5 s6 sA sc sl s8 s9 s10 h2 _ (Kd.C_below HRs.1 HB.1) HCs.1 B_gf.1 HHH.1).mono ?_
      rintro e w62_ ⟨rfl, hb⟩
      replace B_gp := bb hb B_gp.1
      replace B_gs := bb hb B_gs.1
      replace B_gf := bb hb B_gf.1
      replace B_gi := bb hb B_gi.1
      replace B_gl := bb hb B_gl.1
      replace B_gm := bb hb B_gm.1
      replace B_gw := bb hb B_gw.1
      replace HB := Aside0.mk (below_step HB.1 hb)
      clear hb
      refine ⟨_, rfl, ?_⟩
      refine hK.out _ _ ⟨B_gp.1, B_gs.1, B_gf.1, B_gi.1, B_gl.1, B_gm.1, B_gw.1⟩ (fun hHeld => ?_)
      clear hK K
      refine nm 74 ?_
      refine pure_ (i := 3) (N := some 76) (v := .bool false) (a' := ?_) (bs 53 15) rfl rfl (by kernel_rfl) (fun _ _ _ h => h) (Or.inl ⟨by rfl, ?_⟩) ?_ ?_
      ·intro w'
       go_simp
       first | done | simp [*]
      rotate_left
      ·simp only [Act.put, List.setIfInBounds_toArray, List.set_cons_zero, List.set_cons_succ, i64_w, i32_w]
       rfl
      refine pu 4 77 31 ?_
      refine pu 5 78 63 ?_
      refine pu 6 79 127 ?_
      refine pure_ (i := 7) (N := some 80) (v := .bool false) (a' := ?_) (bs 53 255) rfl rfl (by kernel_rfl) (fun _ _ _ h => h) (Or.inl ⟨by rfl, ?_⟩) ?_ ?_
      ·intro w'
       go_simp
       first | done | simp [*]
      rotate_left
      ·simp only [Act.put, List.setIfInBounds_toArray, List.set_cons_zero, List.set_cons_succ, i64_w, i32_w]
       rfl
      refine pu 8 81 511 ?_
      refine pu 9 82 1023 ?_
      refine pu 10 83 2047 ?_
      refine pu 11 84 4095 ?_
      refine pure_ (i := 12) (N := some 85) (v := .bool false) (a' := ?_) (bs 53 8191) rfl rfl (by kernel_rfl) (fun _ _ _ h => h) (Or.inl ⟨by rfl, ?_⟩) ?_ ?_
      ·intro w'
       go_simp
       first | done | simp [*]
      rotate_left
      ·simp only [Act.put, List.setIfInBounds_toArray, List.set_cons_zero, List.set_cons_succ, i64_w, i32_w]
       rfl
      refine pu 13 86 16383 ?_
      refine pu 14 87 32767 ?_
      refine pu 15 88 65535 ?_
      refine pu 16 89 131071 ?_
      refine pure_ (i := 17) (N := some 90) (v := .bool false) (a' := ?_) (bs 53 262143) rfl rfl (by kernel_rfl) (fun _ _ _ h => h) (Or.inl ⟨by rfl, ?_⟩) ?_ ?_
      ·intro w'
       go_simp
       first | done | simp [*]
      rotate_left
      ·simp only [Act.put, List.setIfInBounds_toArray, List.set_cons_zero, List.set_cons_succ, i64_w, i32_w]
       rfl
      refine pu 18 91 524287 ?_
      refine pu 19 92 1048575 ?_
      refine pu 20 93 2097151 ?_
      refine pu 21 94 4194303 ?_
      refine pure_ (i := 22) (N := some 95) (v := .bool false) (a' := ?_) (bs 53 8388607) rfl rfl (by kernel_rfl) (fun _ _ _ h => h) (Or.inl ⟨by rfl, ?_⟩) ?_ ?_
      ·intro w'
       go_simp
       first | done | simp [*]
      rotate_left
      ·simp only [Act.put, List.setIfInBounds_toArray, List.set_cons_zero, List.set_cons_succ, i64_w, i32_w]
       rfl
      refine pu 23 96 16777215 ?_
      refine pu 24 97 33554431 ?_
      refine take_ (i := 25) (N := some 98) (v := ?_) (a' := ?_) (bs 53 67108863) rfl rfl (by kernel_rfl) (fun _ _ _ h => h) (Or.inl ⟨by rfl, ?_⟩) hHeld ?_ ?_
      rotate_left
      ·rintro w' ⟨s_gp, s_gs, s_gf, s_gi, s_gl, s_gm, s_gw⟩
       have c_0 : w'.cell? ⟨gi, 0, none⟩ = some (.int .i64 s0) := (blk_cell s_gi 0).trans rfl
       have c_1 : w'.cell? ⟨gi, 1, none⟩ = some (.int .i64 s1) := (blk_cell s_gi 1).trans rfl
       clear s_gp s_gs s_gf s_gi s_gl s_gm s_gw
       go_simp
       with_reducible rfl
      rotate_left
      ·simp only [Act.put, List.setIfInBounds_toArray, List.set_cons_zero, List.set_cons_succ, i64_w, i32_w]
       rfl
      refine take_ (i := 26) (N := some 99) (v := ?_) (a' := ?_) (bs 53 134217727) rfl rfl (by kernel_rfl) (fun _ _ _ h => h) (Or.inl ⟨by rfl, ?_⟩) hHeld ?_ ?_
      rotate_left
      ·rintro w' ⟨s_gp, s_gs, s_gf, s_gi, s_gl, s_gm, s_gw⟩
       have c_0 : w'.cell? ⟨gw, 0, none⟩ = some (.int .i64 s0) := (blk_cell s_gw 0).trans rfl
       have c_1 : w'.cell? ⟨gw, 1, none⟩ = some (.int .i64 s1) := (blk_cell s_gw 1).trans rfl
       clear s_gp s_gs s_gf s_gi s_gl s_gm s_gw
       go_simp
       with_reducible rfl
      rotate_left
      ·simp only [Act.put, List.setIfInBounds_toArray, List.set_cons_zero, List.set_cons_succ, i64_w, i32_w]
       rfl
      refine pure_ (i := 27) (N := some 100) (v := .bool false) (a' := ?_) (bs 53 268435455) rfl rfl (by kernel_rfl) (fun _ _ _ h => h) (Or.inl ⟨by rfl, ?_⟩) ?_ ?_
      ·intro w'
       go_simp
       first | done | simp [*]
      rotate_left
      ·simp only [Act.put, List.setIfInBounds_toArray, List.set_cons_zero, List.set_cons_succ, i64_w, i32_w]
       rfl
      refine pu 28 101 536870911 ?_
      refine pu 29 102 1073741823 ?_
      refine pu 30 103 2147483647 ?_
      refine pu 31 104 4294967295 ?_
      refine pure_ (i := 32) (N := some 105) (v := .bool false) (a' := ?_) (bs 53 8589934591) rfl rfl (by kernel_rfl) (fun _ _ _ h => h) (Or.inl ⟨by rfl, ?_⟩) ?_ ?_
      ·intro w'
       go_simp
       first | done | simp [*]
      rotate_left
      ·simp only [Act.put, List.setIfInBounds_toArray, List.set_cons_zero, List.set_cons_succ, i64_w, i32_w]
       rfl
      refine pu 33 106 17179869183 ?_
      refine pu 34 107 34359738367 ?_
      refine take_ (i := 35) (N := some 108) (v := ?_) (a' := ?_) (bs 53 68719476735) rfl rfl (by kernel_rfl) (fun _ _ _ h => h) (Or.inl ⟨by rfl, ?_⟩) hHeld ?_ ?_
      rotate_left
      ·rintro w' ⟨s_gp, s_gs, s_gf, s_gi, s_gl, s_gm, s_gw⟩
       have c_0 : w'.cell? ⟨gl, 0, none⟩ = some (.int .i64 u1) := (blk_cell s_gl 0).trans rfl
       have c_1 : w'.cell? ⟨gl, 1, none⟩ = some (.int .i64 u2) := (blk_cell s_gl 1).trans rfl
       have c_2 : w'.cell? ⟨gl, 2, none⟩ = some (.int .i64 u3) := (blk_cell s_gl 2).trans rfl
       have c_3 : w'.cell? ⟨gl, 3, none⟩ = some (.int .i64 u4) := (blk_cell s_gl 3).trans rfl
       have c_4 : w'.cell? ⟨gl, 4, none⟩ = some (.int .i64 u5) := (blk_cell s_gl 4).trans rfl
       have c_5 : w'.cell? ⟨gl, 5, none⟩ = some (.int .i64 u6) := (blk_cell s_gl 5).trans rfl
       clear s_gp s_gs s_gf s_gi s_gl s_gm s_gw
       go_simp
       with_reducible rfl
      rotate_left
      ·simp only [Act.put, List.setIfInBounds_toArray, List.set_cons_zero, List.set_cons_succ, i64_w, i32_w]
       rfl
      refine take_ (i := 36) (N := some 109) (v := ?_) (a' := ?_) (bs 53 137438953471) rfl rfl (by kernel_rfl) (fun _ _ _ h => h) (Or.inl ⟨by rfl, ?_⟩) hHeld ?_ ?_
      rotate_left
      ·rintro w' ⟨s_gp, s_gs, s_gf, s_gi, s_gl, s_gm, s_gw⟩
       have c_0 : w'.cell? ⟨gm, 0, none⟩ = some (.int .i64 u1) := (blk_cell s_gm 0).trans rfl
       have c_1 : w'.cell? ⟨gm, 1, none⟩ = some (.int .i64 u2) := (blk_cell s_gm 1).trans rfl
       have c_2 : w'.cell? ⟨gm, 2, none⟩ = some (.int .i64 u3) := (blk_cell s_gm 2).trans rfl
       have c_3 : w'.cell? ⟨gm, 3, none⟩ = some (.int .i64 u4) := (blk_cell s_gm 3).trans rfl
       have c_4 : w'.cell? ⟨gm, 4, none⟩ = some (.int .i64 u5) := (blk_cell s_gm 4).trans rfl
       have c_5 : w'.cell? ⟨gm, 5, none⟩ = some (.int .i64 u6) := (blk_cell s_gm 5).trans rfl
       clear s_gp s_gs s_gf s_gi s_gl s_gm s_gw
       go_simp
       with_reducible rfl
      rotate_left
      ·simp only [Act.put, List.setIfInBounds_toArray, List.set_cons_zero, List.set_cons_succ, i64_w, i32_w]
       rfl
      refine pure_ (i := 37) (N := some 110) (v := .bool false) (a' := ?_) (bs 53 274877906943) rfl rfl (by kernel_rfl) (fun _ _ _ h => h) (Or.inl ⟨by rfl, ?_⟩) ?_ ?_
      ·intro w'
       go_simp
       first | done | simp [*]
      rotate_left
      ·simp only [Act.put, List.setIfInBounds_toArray, List.set_cons_zero, List.set_cons_succ, i64_w, i32_w]
       rfl
      refine pu 38 111 549755813887 ?_
      refine pu 39 112 1099511627775 ?_
      refine pu 40 113 2199023255551 ?_
      refine pu 41 114 4398046511103 ?_
      refine pure_ (i := 42) (N := some 115) (v := .bool false) (a' := ?_) (bs 53 8796093022207) rfl rfl (by kernel_rfl) (fun _ _ _ h => h) (Or.inl ⟨by rfl, ?_⟩) ?_ ?_
      ·intro w'
       go_simp
       first | done | simp [*]
      rotate_left
      ·simp only [Act.put, List.setIfInBounds_toArray, List.set_cons_zero, List.set_cons_succ, i64_w, i32_w]
       rfl
      refine pu 43 116 17592186044415 ?_
      refine pu 44 117 35184372088831 ?_
      refine pu 45 118 70368744177663 ?_
      refine pu 46 119 140737488355327 ?_
      refine pu 47 120 281474976710655 ?_
      refine take_ (i := 48) (N := some 121) (v := ?_) (a' := ?_) (bs 53 562949953421311) rfl rfl (by kernel_rfl) (fun _ _ _ h => h) (Or.inl ⟨by rfl, ?_⟩) hHeld ?_ ?_
      rotate_left
      ·rintro w' ⟨s_gp, s_gs, s_gf, s_gi, s_gl, s_gm, s_gw⟩
       have c_12 : w'.cell? ⟨gf, 12, none⟩ = some (.int .i64 s0) := (blk_cell s_gf 12).trans rfl
       have c_13 : w'.cell? ⟨gf, 13, none⟩ = some (.int .i64 s1) := (blk_cell s_gf 13).trans rfl
       have c_14 : w'.cell? ⟨gf, 14, none⟩ = some (.int .i64 s2) := (blk_cell s_gf 14).trans rfl
       have c_15 : w'.cell? ⟨gf, 15, none⟩ = some (.bool s3) := (blk_cell s_gf 15).trans rfl
       have c_16 : w'.cell? ⟨gf, 16, none⟩ = some (.int .i64 s4) := (blk_cell s_gf 16).trans rfl
       have c_17 : w'.cell? ⟨gf, 17, none⟩ = some (.int .i64 s5) := (blk_cell s_gf 17).trans rfl
       have c_18 : w'.cell? ⟨gf, 18, none⟩ = some (.bool s6) := (blk_cell s_gf 18).trans rfl
       have c_19 : w'.cell? ⟨gf, 19, none⟩ = some (.slice sA sl.length sc) := (blk_cell s_gf 19).trans rfl
       have c_20 : w'.cell? ⟨gf, 20, none⟩ = some (.int .i64 s8) := (blk_cell s_gf 20).trans rfl
       have c_21 : w'.cell? ⟨gf, 21, none⟩ = some (.int .i64 s9) := (blk_cell s_gf 21).trans rfl
       have c_22 : w'.cell? ⟨gf, 22, none⟩ = some (.int .i64 s10) := (blk_cell s_gf 22).trans rfl
       clear s_gp s_gs s_gf s_gi s_gl s_gm s_gw
       go_simp
       with_reducible rfl
      rotate_left
      ·simp only [Act.put, List.setIfInBounds_toArray, List.set_cons_zero, List.set_cons_succ, i64_w, i32_w]
       rfl
      refine take_ (i := 49) (N := some 122) (v := ?_) (a' := ?_) (bs 53 1125899906842623) rfl rfl (by kernel_rfl) (fun _ _ _ h => h) (Or.inl ⟨by rfl, ?_⟩) hHeld ?_ ?_
      rotate_left
      ·rintro w' ⟨s_gp, s_gs, s_gf, s_gi, s_gl, s_gm, s_gw⟩
       have c_0 : w'.cell? ⟨gs, 0, none⟩ = some (.int .i64 s0) := (blk_cell s_gs 0).trans rfl
       have c_1 : w'.cell? ⟨gs, 1, none⟩ = some (.int .i64 s1) := (blk_cell s_gs 1).trans rfl
       have c_2 : w'.cell? ⟨gs, 2, none⟩ = some (.int .i64 s2) := (blk_cell s_gs 2).trans rfl
       have c_3 : w'.cell? ⟨gs, 3, none⟩ = some (.bool s3) := (blk_cell s_gs 3).trans rfl
       have c_4 : w'.cell? ⟨gs, 4, none⟩ = some (.int .i64 s4) := (blk_cell s_gs 4).trans rfl
       have c_5 : w'.cell? ⟨gs, 5, none⟩ = some (.int .i64 s5) := (blk_cell s_gs 5).trans rfl
       have c_6 : w'.cell? ⟨gs, 6, none⟩ = some (.bool s6) := (blk_cell s_gs 6).trans rfl
       have c_7 : w'.cell? ⟨gs, 7, none⟩ = some (.slice sA sl.length sc) := (blk_cell s_gs 7).trans rfl
       have c_8 : w'.cell? ⟨gs, 8, none⟩ = some (.int .i64 s8) := (blk_cell s_gs 8).trans rfl
       have c_9 : w'.cell? ⟨gs, 9, none⟩ = some (.int .i64 s9) := (blk_cell s_gs 9).trans rfl
       have c_10 : w'.cell? ⟨gs, 10, none⟩ = some (.int .i64 s10) := (blk_cell s_gs 10).trans rfl
       clear s_gp s_gs s_gf s_gi s_gl s_gm s_gw
       go_simp
       with_reducible rfl
      rotate_left
      ·simp only [Act.put, List.setIfInBounds_toArray, List.set_cons_zero, List.set_cons_succ, i64_w, i32_w]
       rfl
      refine one_ (i := 50) (N := some 123) (bs 53 2251799813685247) rfl rfl (by kernel_rfl) (by decide) (fun K hK => ?_)
      refine goes_ Tryd.func14 (by kernel_rfl) rfl #[.agg #[.int .i64 s0, .int .i64 s1, .int .i64 s2, .bool s3, .int .i64 s4, .int .i64 s5, .bool s6, .slice sA sl.length sc, .int .i64 s8, .int .i64 s9, .int .i64 s10], .agg #[.int .i64 s0, .int .i64 s1, .int .i64 s2, .bool s3, .int .i64 s4, .int .i64 s5, .bool s6, .slice sA sl.length sc, .int .i64 s8, .int .i64 s9, .int .i64 s10]] (by rfl) rfl rfl (by (try simp only [List.map_toArray, List.map_cons, List.map_nil]); first | done | rfl) ?_
      with_reducible refine (clepsydraref21_Same.calls k s0 s1 s2 s3 s4 s5 s6 sA sc sl s8 s9 s10 s0 s1 s2 s3 s4 s5 s6 sA sc sl s8 s9 s10 true _ (Kd.C_below HRs.1 HB.1) HCs.1 (Kd.C_below HRs.1 HB.1) HCs.1 HSM.1).mono ?_
      rintro e w63_ ⟨rfl, hb⟩
      replace B_gp := bb hb B_gp.1
      replace B_gs := bb hb B_gs.1
      replace B_gf := bb hb B_gf.1
      replace B_gi := bb hb B_gi.1
      replace B_gl := bb hb B_gl.1
      replace B_gm := bb hb B_gm.1
      replace B_gw := bb hb B_gw.1
      replace HB := Aside0.mk (below_step HB.1 hb)
      clear hb
      refine ⟨_, rfl, ?_⟩
      refine hK.out _ _ ⟨B_gp.1, B_gs.1, B_gf.1, B_gi.1, B_gl.1, B_gm.1, B_gw.1⟩ (fun hHeld => ?_)
      clear hK K
      refine nm 123 ?_
      refine pu 51 124 4503599627370495 ?_
      refine pu 52 125 9007199254740991 ?_
      refine done_ (by kernel_rfl) ?_
      go_upto_region 18 with (fail)
      go_upto_region 19 with ((go_at_call 7; (with_reducible refine (health_Front_Now.nil _).mono ?_); rintro e w64_ ⟨rfl, hb⟩; replace B_gp := bb hb B_gp.1; replace B_gs := bb hb B_gs.1; replace B_gf := bb hb B_gf.1; replace B_gi := bb hb B_gi.1; replace B_gl := bb hb B_gl.1; replace B_gm := bb hb B_gm.1; replace B_gw := bb hb B_gw.1; replace HB := Aside0.mk (below_step HB.1 hb); clear hb))
      go_upto_region 20 with ((go_at_call 8; (with_reducible refine (health_Front_Interval.nil _).mono ?_); rintro e w65_ ⟨rfl, hb⟩; replace B_gp := bb hb B_gp.1; replace B_gs := bb hb B_gs.1; replace B_gf := bb hb B_gf.1; replace B_gi := bb hb B_gi.1; replace B_gl := bb hb B_gl.1; replace B_gm := bb hb B_gm.1; replace B_gw := bb hb B_gw.1; replace HB := Aside0.mk (below_step HB.1 hb); clear hb))
      go_upto_region 21 with ((go_at_call 9; (with_reducible refine (health_Front_UTC.nil _).mono ?_); rintro e w66_ ⟨rfl, hb⟩; replace B_gp := bb hb B_gp.1; replace B_gs := bb hb B_gs.1; replace B_gf := bb hb B_gf.1; replace B_gi := bb hb B_gi.1; replace B_gl := bb hb B_gl.1; replace B_gm := bb hb B_gm.1; replace B_gw := bb hb B_gw.1; replace HB := Aside0.mk (below_step HB.1 hb); clear hb))
      go_upto_region 22 with ((go_at_call 11; (with_reducible refine (health_Front_Pulse.nil _).mono ?_); rintro e w67_ ⟨rfl, hb⟩; replace B_gp := bb hb B_gp.1; replace B_gs := bb hb B_gs.1; replace B_gf := bb hb B_gf.1; replace B_gi := bb hb B_gi.1; replace B_gl := bb hb B_gl.1; replace B_gm := bb hb B_gm.1; replace B_gw := bb hb B_gw.1; replace HB := Aside0.mk (below_step HB.1 hb); clear hb))
      go_upto_region 23 with (first | (go_at_call 15; (with_reducible refine (health_Front_Stamp.nil _).mono ?_); rintro e w68_ ⟨rfl, hb⟩; replace B_gp := bb hb B_gp.1; replace B_gs := bb hb B_gs.1; replace B_gf := bb hb B_gf.1; replace B_gi := bb hb B_gi.1; replace B_gl := bb hb B_gl.1; replace B_gm := bb hb B_gm.1; replace B_gw := bb hb B_gw.1; replace HB := Aside0.mk (below_step HB.1 hb); clear hb) | ((with_reducible refine gate_dst (N := 22) rfl ?_); refine bx 22 #[.int .i64 0, .int .i64 0] 28 ?_; intro gt hg w69_ hbox hb; have N_gp_gt := nl hg B_gp.1; have N_gs_gt := nl hg B_gs.1; have N_gf_gt := nl hg B_gf.1; have N_gi_gt := nl hg B_gi.1; have N_gl_gt := nl hg B_gl.1; have N_gm_gt := nl hg B_gm.1; have N_gw_gt := nl hg B_gw.1; have N_gt_gp := ng hg B_gp.1; have N_gt_gs := ng hg B_gs.1; have N_gt_gf := ng hg B_gf.1; have N_gt_gi := ng hg B_gi.1; have N_gt_gl := ng hg B_gl.1; have N_gt_gm := ng hg B_gm.1; have N_gt_gw := ng hg B_gw.1; have E_gt : Aside0 (w.heap.size ≤ gt) := ⟨by rw [hg]; exact below_size HB.1⟩; replace B_gp := bb hb B_gp.1; replace B_gs := bb hb B_gs.1; replace B_gf := bb hb B_gf.1; replace B_gi := bb hb B_gi.1; replace B_gl := bb hb B_gl.1; replace B_gm := bb hb B_gm.1; replace B_gw := bb hb B_gw.1; replace HB := Aside0.mk (below_step HB.1 hb); have B_gt := Aside0.mk hbox; clear hb hbox hg; have hr8f_gt_0 := blk_frozen B_gt.1 0; have hr8_gt_0 : w69_.cell? ⟨gt, 0, none⟩ = some (.int .i64 0) := (blk_cell B_gt.1 0).trans rfl; have hr8f_gt_1 := blk_frozen B_gt.1 1; have hr8_gt_1 : w69_.cell? ⟨gt, 1, none⟩ = some (.int .i64 0) := (blk_cell B_gt.1 1).trans rfl))
      clear hr8f_gt_0 hr8_gt_0 hr8f_gt_1 hr8_gt_1
      have n0_ : Aside0 (((w69_.setCell ⟨gt, 0, none⟩ (.int .i64 0)).setCell ⟨gt, 1, none⟩ (.int .i64 0)).heap[gp]? = some (.cells #[.int .i64 p0, .int .i64 p1, .int .i64 p2, .int .i64 p3, .int .i64 p4, .int .i64 p5, .int .i64 p6, .int .i64 p7, .int .i64 p8, .int .i64 p9, .int .i64 p10, .int .i64 p11] 23 (0, 0))) := ⟨blk_far (blk_far (B_gp.1) N_gp_gt.1 _) N_gp_gt.1 _⟩
      have n1_ : Aside0 (((w69_.setCell ⟨gt, 0, none⟩ (.int .i64 0)).setCell ⟨gt, 1, none⟩ (.int .i64 0)).heap[gs]? = some (.cells #[.int .i64 s0, .int .i64 s1, .int .i64 s2, .bool s3, .int .i64 s4, .int .i64 s5, .bool s6, .slice sA sl.length sc, .int .i64 s8, .int .i64 s9, .int .i64 s10] 30 (0, 0))) := ⟨blk_far (blk_far (B_gs.1) N_gs_gt.1 _) N_gs_gt.1 _⟩
      have n2_ : Aside0 (((w69_.setCell ⟨gt, 0, none⟩ (.int .i64 0)).setCell ⟨gt, 1, none⟩ (.int .i64 0)).heap[gf]? = some (.cells #[.int .i64 p0, .int .i64 p1, .int .i64 p2, .int .i64 p3, .int .i64 p4, .int .i64 p5, .int .i64 p6, .int .i64 p7, .int .i64 p8, .int .i64 p9, .int .i64 p10, .int .i64 p11, .int .i64 s0, .int .i64 s1, .int .i64 s2, .bool s3, .int .i64 s4, .int .i64 s5, .bool s6, .slice sA sl.length sc, .int .i64 s8, .int .i64 s9, .int .i64 s10] 35 (0, 0))) := ⟨blk_far (blk_far (B_gf.1) N_gf_gt.1 _) N_gf_gt.1 _⟩
      have n3_ : Aside0 (((w69_.setCell ⟨gt, 0, none⟩ (.int .i64 0)).setCell ⟨gt, 1, none⟩ (.int .i64 0)).heap[gi]? = some (.cells #[.int .i64 s0, .int .i64 s1] 25 (0, 0))) := ⟨blk_far (blk_far (B_gi.1) N_gi_gt.1 _) N_gi_gt.1 _⟩
      have n4_ : Aside0 (((w69_.setCell ⟨gt, 0, none⟩ (.int .i64 0)).setCell ⟨gt, 1, none⟩ (.int .i64 0)).heap[gl]? = some (.cells #[.int .i64 u1, .int .i64 u2, .int .i64 u3, .int .i64 u4, .int .i64 u5, .int .i64 u6] 43 (0, 0))) := ⟨blk_far (blk_far (B_gl.1) N_gl_gt.1 _) N_gl_gt.1 _⟩
      have n5_ : Aside0 (((w69_.setCell ⟨gt, 0, none⟩ (.int .i64 0)).setCell ⟨gt, 1, none⟩ (.int .i64 0)).heap[gm]? = some (.cells #[.int .i64 u1, .int .i64 u2, .int .i64 u3, .int .i64 u4, .int .i64 u5, .int .i64 u6] 43 (0, 0))) := ⟨blk_far (blk_far (B_gm.1) N_gm_gt.1 _) N_gm_gt.1 _⟩
      have n6_ : Aside0 (((w69_.setCell ⟨gt, 0, none⟩ (.int .i64 0)).setCell ⟨gt, 1, none⟩ (.int .i64 0)).heap[gw]? = some (.cells #[.int .i64 s0, .int .i64 s1] 25 (0, 0))) := ⟨blk_far (blk_far (B_gw.1) N_gw_gt.1 _) N_gw_gt.1 _⟩
      have n7_ : Aside0 (((w69_.setCell ⟨gt, 0, none⟩ (.int .i64 0)).setCell ⟨gt, 1, none⟩ (.int .i64 0)).heap[gt]? = some (.cells #[.int .i64 0, .int .i64 0] 28 (0, 0))) := ⟨by have h_ := blk_set (blk_set (B_gt.1) 0 (.int .i64 0)) 1 (.int .i64 0); simp only [List.setIfInBounds_toArray, List.set_cons_zero, List.set_cons_succ] at h_; exact h_⟩
      have n8_ : Aside0 (Below w.heap.size w ((w69_.setCell ⟨gt, 0, none⟩ (.int .i64 0)).setCell ⟨gt, 1, none⟩ (.int .i64 0))) := ⟨below_set (below_set (HB.1) E_gt.1) E_gt.1⟩
      clear B_gp B_gs B_gf B_gi B_gl B_gm B_gw B_gt HB
      have B_gp := n0_
      have B_gs := n1_
      have B_gf := n2_
      have B_gi := n3_
      have B_gl := n4_
      have B_gm := n5_
      have B_gw := n6_
      have B_gt := n7_
      have HB := n8_
      clear n0_ n1_ n2_ n3_ n4_ n5_ n6_ n7_ n8_
      generalize ((w69_.setCell ⟨gt, 0, none⟩ (.int .i64 0)).setCell ⟨gt, 1, none⟩ (.int .i64 0)) = w70_ at B_gp B_gs B_gf B_gi B_gl B_gm B_gw B_gt HB ⊢
      go_upto_region 24 with ((go_at_call 16; (with_reducible refine (health_Front_Listen.nil 0 0 _).mono ?_); rintro e w71_ ⟨rfl, hb⟩; replace B_gp := bb hb B_gp.1; replace B_gs := bb hb B_gs.1; replace B_gf := bb hb B_gf.1; replace B_gi := bb hb B_gi.1; replace B_gl := bb hb B_gl.1; replace B_gm := bb hb B_gm.1; replace B_gw := bb hb B_gw.1; replace B_gt := bb hb B_gt.1; replace HB := Aside0.mk (below_step HB.1 hb); clear hb))
      go_upto_region 25 with ((go_at_call 17; (refine (health_Front_Step.nil 1 0 0 0 false 0 0 false none 0 [] 0 0 0 _).mono ?_); rintro e w72_ ⟨rfl, hb⟩; replace B_gp := bb hb B_gp.1; replace B_gs := bb hb B_gs.1; replace B_gf := bb hb B_gf.1; replace B_gi := bb hb B_gi.1; replace B_gl := bb hb B_gl.1; replace B_gm := bb hb B_gm.1; replace B_gw := bb hb B_gw.1; replace B_gt := bb hb B_gt.1; replace HB := Aside0.mk (below_step HB.1 hb); clear hb))
      go_wp2_with ((go_at_call 13; (with_reducible refine (health_Front_Health.nil _).mono ?_); rintro e w73_ ⟨rfl, hb⟩; replace B_gp := bb hb B_gp.1; replace B_gs := bb hb B_gs.1; replace B_gf := bb hb B_gf.1; replace B_gi := bb hb B_gi.1; replace B_gl := bb hb B_gl.1; replace B_gm := bb hb B_gm.1; replace B_gw := bb hb B_gw.1; replace B_gt := bb hb B_gt.1; replace HB := Aside0.mk (below_step HB.1 hb); clear hb))
      go_ret
      exact ⟨rfl, HB.1⟩

end Go.Proofs.YtigkjbaclpklpaaDoor.Q
