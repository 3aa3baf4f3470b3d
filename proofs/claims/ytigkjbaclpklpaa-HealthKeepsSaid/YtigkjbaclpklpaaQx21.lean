/- The calls of these Go functions answer what the Lean functions beside them answer; written by a program (wip/pr2.py, out of the print of the loaded program); under no condition but those that stand in the theorems. -/
import Derived.Test.YtigkjbaclpklpaaQx0
import Derived.Test.YtigkjbaclpklpaaQx5
import Derived.Test.YtigkjbaclpklpaaQx6
import Derived.Test.YtigkjbaclpklpaaQx15
import Derived.Test.YtigkjbaclpklpaaQx16
import Derived.Test.YtigkjbaclpklpaaQx20
namespace Go.Proofs.Ytigkjbaclpklpaa.Q
open Go.RowKit Go.Proofs.YtigkjbaclpklpaaW.PrintWords Go.Proofs.YtigkjbaclpklpaaW.PrintLast Go.Proofs.YtigkjbaclpklpaaW.PrintMore
attribute [local go_sem] max2_int min2_int max_two min_two max_three min_three max_four min_four   -- for this text's walks alone
set_option linter.unusedVariables false
set_option linter.unusedSimpArgs false

/-! the law, by hand -/
attribute [local go_sem] hx.fl
theorem hx.head {w : World} {base n c : Nat} {ok : Nat → Prop} {A : Option Addr} {xs : List S42} (h : Kd.R k42 42 w base ok (.slice A n c) xs) (hn : 0 < n) : ∃ q, A = some ⟨q, 0, none⟩ := by
 obtain ⟨_, inner, ho, hr⟩ := h
 rcases ho.2 with ⟨hv, h0⟩ | ⟨q, cap', cur, hv, _⟩
 ·injection hv with _ h1 _
  omega
 ·injection hv with ha _ _
  exact ⟨q, ha⟩
theorem hx.elem {w : World} {base q n c : Nat} {ok : Nat → Prop} {xs : List S42} (h : Kd.R k42 42 w base ok (.slice (some ⟨q, 0, none⟩) n c) xs) (j : Nat) (hj : j < n) : w.cell? ⟨q, j * 2, none⟩ = some (.int .i64 (xs.getD j z42).f0) ∧ w.cell? ⟨q, j * 2 + 1, none⟩ = some (.int .i64 (xs.getD j z42).f1) ∧ w.frozen? ⟨q, j * 2, none⟩ = false ∧ w.frozen? ⟨q, j * 2 + 1, none⟩ = false := by
 obtain ⟨cs, hl, hM, hc, hf⟩ := Kd.R_elem h z42 (j : Int) (by omega) (by omega)
 obtain rfl := k42_openM hM
 exact ⟨hc 0 _ rfl, hc 1 _ rfl, hf 0, hf 1⟩
theorem hx.store {w : World} {base q n c : Nat} {ok : Nat → Prop} {xs : List S42} (h : Kd.R k42 42 w base ok (.slice (some ⟨q, 0, none⟩) n c) xs) (j : Nat) (hj : j < n) (x y : Int) : Kd.R k42 42 ((w.setCell ⟨q, j * 2, none⟩ (.int .i64 x)).setCell ⟨q, j * 2 + 1, none⟩ (.int .i64 y)) base ok (.slice (some ⟨q, 0, none⟩) n c) (xs.set j ⟨x, y⟩) := by
 obtain ⟨cs, hl, hM, hc, hf⟩ := Kd.R_elem h z42 (j : Int) (by omega) (by omega)
 have h2 := (Kd.R_seg h (j : Int) (by omega) (by omega) (seg := [.int .i64 x, .int .i64 y]) (j := 0) hl hc (by show 0 + 2 ≤ 2; decide) (x' := ⟨x, y⟩) (okp := fun _ => False) (by
  obtain rfl := k42_openM hM
  exact k42_mkM _ _ _ ⟨x, y⟩) (fun _ hk => hk.elim)).1
 exact h2
def clepsydralaw21_HealthKeeps.f (k : Nat) (p0 p1 p2 p3 p4 p5 p6 p7 p8 p9 p10 p11 : Int) (s0 s1 s2 : Int) (s3 : Bool) (s4 s5 : Int) (s6 : Bool) (sl : List S42) (s8 s9 s10 : Int) (y0 y1 y2 : Int) (y3 : Bool) (y4 y5 : Int) (y6 : Bool) (yl : List S42) (y8 y9 y10 : Int) : Option Bool := (clepsydralaw21_long.f s0 s1 s2 s3 s4 s5 s6 sl s8 s9 s10 y0 y1 y2 y3 y4 y5 y6 yl y8 y9 y10).bind fun lg => if lg = true then some true else if yl.length * 16 ≤ 140737488355328 then (health_Front_Step.f k p0 p1 p2 p3 p4 p5 p6 p7 p8 p9 p10 p11 s0 s1 s2 s3 s4 s5 s6 sl s8 s9 s10 5 y0 y1 y2 y3 y4 y5 y6 yl y8 y9 y10).bind fun st => (health_Sane.f k p0 p1 p2 p3 p4 p5 p6 p7 p8 p9 p10 p11 y0 y1 y2 y3 y4 y5 y6 yl y8 y9 y10).bind fun x => (clepsydraref06_Tables.f k yl yl).bind fun t => if t = true ∧ st.2.2.2.2.2.2.2.1.length ≤ 1000 ∧ x.2.2.2.2.2.2.2.1.length ≤ 1000 then some true else none else none
set_option maxHeartbeats 8000000 in
set_option maxRecDepth 100000 in
theorem clepsydralaw21_HealthKeeps.calls (k : Nat) (p0 p1 p2 p3 p4 p5 p6 p7 p8 p9 p10 p11 : Int) (s0 s1 s2 : Int) (s3 : Bool) (s4 s5 : Int) (s6 : Bool) (sA : Option Addr) (sc : Nat) (sl : List S42) (s8 s9 s10 : Int) (y0 y1 y2 : Int) (y3 : Bool) (y4 y5 : Int) (y6 : Bool) (yA : Option Addr) (yc : Nat) (yl : List S42) (y8 y9 y10 : Int) (r : Bool) (w : World) (hrs : Kd.C k42 w sA sl.length sl) (hcs : sl.length ≤ sc) (hry : Kd.C k42 w yA yl.length yl) (hcy : yl.length ≤ yc) (hT : Aside0 (r = true)) (h : clepsydralaw21_HealthKeeps.f k p0 p1 p2 p3 p4 p5 p6 p7 p8 p9 p10 p11 s0 s1 s2 s3 s4 s5 s6 sl s8 s9 s10 y0 y1 y2 y3 y4 y5 y6 yl y8 y9 y10 = some r) :
  Calls Try.prog 4 #[.agg #[.int .i64 p0, .int .i64 p1, .int .i64 p2, .int .i64 p3, .int .i64 p4, .int .i64 p5, .int .i64 p6, .int .i64 p7, .int .i64 p8, .int .i64 p9, .int .i64 p10, .int .i64 p11], .agg #[.int .i64 s0, .int .i64 s1, .int .i64 s2, .bool s3, .int .i64 s4, .int .i64 s5, .bool s6, .slice sA sl.length sc, .int .i64 s8, .int .i64 s9, .int .i64 s10], .agg #[.int .i64 y0, .int .i64 y1, .int .i64 y2, .bool y3, .int .i64 y4, .int .i64 y5, .bool y6, .slice yA yl.length yc, .int .i64 y8, .int .i64 y9, .int .i64 y10]] w fun e w' => e = .returned (.bool r) ∧ Below w.heap.size w w' := by
 obtain rfl := hT.out
 clear hT
 unfold clepsydralaw21_HealthKeeps.f at h
 obtain ⟨lg, hlg, h⟩ := Option.bind_eq_some_iff.mp h
 have HRs := Aside0.mk hrs
 have HCs := Aside0.mk hcs
 have HRy := Aside0.mk hry
 have HCy := Aside0.mk hcy
 have HLG := Aside0.mk hlg
 clear hrs hcs hry hcy hlg
 have HB := Aside0.mk (Below.refl w.heap.size w)
 go_enter Try.func4, Try.ntmps4
 go_upto_region 1 with (first | ((with_reducible refine gate_dst (N := 3) rfl ?_); refine box_event ?hg (N := 3) ?hd (cs := #[.int .i64 p0, .int .i64 p1, .int .i64 p2, .int .i64 p3, .int .i64 p4, .int .i64 p5, .int .i64 p6, .int .i64 p7, .int .i64 p8, .int .i64 p9, .int .i64 p10, .int .i64 p11]) (t := 23) ?hr ?_; (case hd => rfl); (case hg => rfl); (case hr => first | (go_simp; done) | (go_simp; rfl)); intro gp hg w1_ hbox hb; have E_gp : Aside0 (w.heap.size ≤ gp) := ⟨by rw [hg]; exact below_size HB.out⟩; have n0_ := Aside0.mk (below_step HB.out hb); clear HB; have HB := n0_; clear n0_; have B_gp := Aside0.mk hbox; clear hb hbox hg) | ((with_reducible refine gate_dst (N := 4) rfl ?_); refine box_event ?hg (N := 4) ?hd (cs := #[.int .i64 s0, .int .i64 s1, .int .i64 s2, .bool s3, .int .i64 s4, .int .i64 s5, .bool s6, .slice sA sl.length sc, .int .i64 s8, .int .i64 s9, .int .i64 s10]) (t := 30) ?hr ?_; (case hd => rfl); (case hg => rfl); (case hr => first | (go_simp; done) | (go_simp; rfl)); intro gs hg w2_ hbox hb; have N_gp_gs := nl hg B_gp.out; have N_gs_gp := ng hg B_gp.out; have E_gs : Aside0 (w.heap.size ≤ gs) := ⟨by rw [hg]; exact below_size HB.out⟩; have n0_ := Aside0.mk (blk_below B_gp.out hb); have n1_ := Aside0.mk (below_step HB.out hb); clear B_gp HB; have B_gp := n0_; have HB := n1_; clear n0_ n1_; have B_gs := Aside0.mk hbox; clear hb hbox hg) | ((with_reducible refine gate_dst (N := 5) rfl ?_); refine box_event ?hg (N := 5) ?hd (cs := #[.int .i64 y0, .int .i64 y1, .int .i64 y2, .bool y3, .int .i64 y4, .int .i64 y5, .bool y6, .slice yA yl.length yc, .int .i64 y8, .int .i64 y9, .int .i64 y10]) (t := 30) ?hr ?_; (case hd => rfl); (case hg => rfl); (case hr => first | (go_simp; done) | (go_simp; rfl)); intro gy hg w3_ hbox hb; have N_gp_gy := nl hg B_gp.out; have N_gs_gy := nl hg B_gs.out; have N_gy_gp := ng hg B_gp.out; have N_gy_gs := ng hg B_gs.out; have E_gy : Aside0 (w.heap.size ≤ gy) := ⟨by rw [hg]; exact below_size HB.out⟩; have n0_ := Aside0.mk (blk_below B_gp.out hb); have n1_ := Aside0.mk (blk_below B_gs.out hb); have n2_ := Aside0.mk (below_step HB.out hb); clear B_gp B_gs HB; have B_gp := n0_; have B_gs := n1_; have HB := n2_; clear n0_ n1_ n2_; have B_gy := Aside0.mk hbox; clear hb hbox hg))
 go_upto_region 3 with ((go_at_call 8; (with_reducible refine (clepsydralaw21_alive.calls true _ rfl).mono ?_); rintro e w4_ ⟨rfl, hb⟩; have n0_ := Aside0.mk (blk_below B_gp.out hb); have n1_ := Aside0.mk (blk_below B_gs.out hb); have n2_ := Aside0.mk (blk_below B_gy.out hb); have n3_ := Aside0.mk (below_step HB.out hb); clear B_gp B_gs B_gy HB; have B_gp := n0_; have B_gs := n1_; have B_gy := n2_; have HB := n3_; clear n0_ n1_ n2_ n3_; clear hb))
 cases lg
 case true =>
  have hc_gs_0 : w4_.cell? ⟨gs, 0, none⟩ = some (.int .i64 s0) := (blk_cell B_gs.out 0).trans rfl
  have hc_gs_1 : w4_.cell? ⟨gs, 1, none⟩ = some (.int .i64 s1) := (blk_cell B_gs.out 1).trans rfl
  have hc_gs_2 : w4_.cell? ⟨gs, 2, none⟩ = some (.int .i64 s2) := (blk_cell B_gs.out 2).trans rfl
  have hc_gs_3 : w4_.cell? ⟨gs, 3, none⟩ = some (.bool s3) := (blk_cell B_gs.out 3).trans rfl
  have hc_gs_4 : w4_.cell? ⟨gs, 4, none⟩ = some (.int .i64 s4) := (blk_cell B_gs.out 4).trans rfl
  have hc_gs_5 : w4_.cell? ⟨gs, 5, none⟩ = some (.int .i64 s5) := (blk_cell B_gs.out 5).trans rfl
  have hc_gs_6 : w4_.cell? ⟨gs, 6, none⟩ = some (.bool s6) := (blk_cell B_gs.out 6).trans rfl
  have hc_gs_7 : w4_.cell? ⟨gs, 7, none⟩ = some (.slice sA sl.length sc) := (blk_cell B_gs.out 7).trans rfl
  have hc_gs_8 : w4_.cell? ⟨gs, 8, none⟩ = some (.int .i64 s8) := (blk_cell B_gs.out 8).trans rfl
  have hc_gs_9 : w4_.cell? ⟨gs, 9, none⟩ = some (.int .i64 s9) := (blk_cell B_gs.out 9).trans rfl
  have hc_gs_10 : w4_.cell? ⟨gs, 10, none⟩ = some (.int .i64 s10) := (blk_cell B_gs.out 10).trans rfl
  have hc_gy_0 : w4_.cell? ⟨gy, 0, none⟩ = some (.int .i64 y0) := (blk_cell B_gy.out 0).trans rfl
  have hc_gy_1 : w4_.cell? ⟨gy, 1, none⟩ = some (.int .i64 y1) := (blk_cell B_gy.out 1).trans rfl
  have hc_gy_2 : w4_.cell? ⟨gy, 2, none⟩ = some (.int .i64 y2) := (blk_cell B_gy.out 2).trans rfl
  have hc_gy_3 : w4_.cell? ⟨gy, 3, none⟩ = some (.bool y3) := (blk_cell B_gy.out 3).trans rfl
  have hc_gy_4 : w4_.cell? ⟨gy, 4, none⟩ = some (.int .i64 y4) := (blk_cell B_gy.out 4).trans rfl
  have hc_gy_5 : w4_.cell? ⟨gy, 5, none⟩ = some (.int .i64 y5) := (blk_cell B_gy.out 5).trans rfl
  have hc_gy_6 : w4_.cell? ⟨gy, 6, none⟩ = some (.bool y6) := (blk_cell B_gy.out 6).trans rfl
  have hc_gy_7 : w4_.cell? ⟨gy, 7, none⟩ = some (.slice yA yl.length yc) := (blk_cell B_gy.out 7).trans rfl
  have hc_gy_8 : w4_.cell? ⟨gy, 8, none⟩ = some (.int .i64 y8) := (blk_cell B_gy.out 8).trans rfl
  have hc_gy_9 : w4_.cell? ⟨gy, 9, none⟩ = some (.int .i64 y9) := (blk_cell B_gy.out 9).trans rfl
  have hc_gy_10 : w4_.cell? ⟨gy, 10, none⟩ = some (.int .i64 y10) := (blk_cell B_gy.out 10).trans rfl
  go_wp2_with ((go_at_call 9; (with_reducible refine (clepsydralaw21_long.calls s0 s1 s2 s3 s4 s5 s6 sA sc sl s8 s9 s10 y0 y1 y2 y3 y4 y5 y6 yA yc yl y8 y9 y10 true _ (Kd.C_below HRs.out HB.out) HCs.out (Kd.C_below HRy.out HB.out) HCy.out HLG.out).mono ?_); rintro e w5_ ⟨rfl, hb⟩; have n0_ := Aside0.mk (blk_below B_gp.out hb); have n1_ := Aside0.mk (blk_below B_gs.out hb); have n2_ := Aside0.mk (blk_below B_gy.out hb); have n3_ := Aside0.mk (below_step HB.out hb); clear B_gp B_gs B_gy HB; have B_gp := n0_; have B_gs := n1_; have B_gy := n2_; have HB := n3_; clear n0_ n1_ n2_ n3_; clear hb))
  clear hc_gs_0 hc_gs_1 hc_gs_2 hc_gs_3 hc_gs_4 hc_gs_5 hc_gs_6 hc_gs_7 hc_gs_8 hc_gs_9 hc_gs_10 hc_gy_0 hc_gy_1 hc_gy_2 hc_gy_3 hc_gy_4 hc_gy_5 hc_gy_6 hc_gy_7 hc_gy_8 hc_gy_9 hc_gy_10
  go_ret
  exact ⟨rfl, HB.out⟩
 case false =>
  rw [if_neg (by decide)] at h
  split at h
  case isFalse => cases h
  next hm16 =>
   have HM16 := Aside0.mk hm16
   clear hm16
   obtain ⟨⟨r0, r1, r2, r3, r4, r5, r6, ml, r8, r9, r10⟩, hst, h⟩ := Option.bind_eq_some_iff.mp h
   obtain ⟨⟨x0, x1, x2, x3, x4, x5, x6, xl, x8, x9, x10⟩, hsa, h⟩ := Option.bind_eq_some_iff.mp h
   obtain ⟨t, htb, h⟩ := Option.bind_eq_some_iff.mp h
   split at h
   case isFalse => cases h
   next hz =>
    obtain ⟨rfl, hml, hxl⟩ := hz
    clear h
    have HST := Aside0.mk hst
    have HSA := Aside0.mk hsa
    have HTB := Aside0.mk htb
    clear hst hsa htb
    have hc_gs_0 : w4_.cell? ⟨gs, 0, none⟩ = some (.int .i64 s0) := (blk_cell B_gs.out 0).trans rfl
    have hc_gs_1 : w4_.cell? ⟨gs, 1, none⟩ = some (.int .i64 s1) := (blk_cell B_gs.out 1).trans rfl
    have hc_gs_2 : w4_.cell? ⟨gs, 2, none⟩ = some (.int .i64 s2) := (blk_cell B_gs.out 2).trans rfl
    have hc_gs_3 : w4_.cell? ⟨gs, 3, none⟩ = some (.bool s3) := (blk_cell B_gs.out 3).trans rfl
    have hc_gs_4 : w4_.cell? ⟨gs, 4, none⟩ = some (.int .i64 s4) := (blk_cell B_gs.out 4).trans rfl
    have hc_gs_5 : w4_.cell? ⟨gs, 5, none⟩ = some (.int .i64 s5) := (blk_cell B_gs.out 5).trans rfl
    have hc_gs_6 : w4_.cell? ⟨gs, 6, none⟩ = some (.bool s6) := (blk_cell B_gs.out 6).trans rfl
    have hc_gs_7 : w4_.cell? ⟨gs, 7, none⟩ = some (.slice sA sl.length sc) := (blk_cell B_gs.out 7).trans rfl
    have hc_gs_8 : w4_.cell? ⟨gs, 8, none⟩ = some (.int .i64 s8) := (blk_cell B_gs.out 8).trans rfl
    have hc_gs_9 : w4_.cell? ⟨gs, 9, none⟩ = some (.int .i64 s9) := (blk_cell B_gs.out 9).trans rfl
    have hc_gs_10 : w4_.cell? ⟨gs, 10, none⟩ = some (.int .i64 s10) := (blk_cell B_gs.out 10).trans rfl
    have hc_gy_0 : w4_.cell? ⟨gy, 0, none⟩ = some (.int .i64 y0) := (blk_cell B_gy.out 0).trans rfl
    have hc_gy_1 : w4_.cell? ⟨gy, 1, none⟩ = some (.int .i64 y1) := (blk_cell B_gy.out 1).trans rfl
    have hc_gy_2 : w4_.cell? ⟨gy, 2, none⟩ = some (.int .i64 y2) := (blk_cell B_gy.out 2).trans rfl
    have hc_gy_3 : w4_.cell? ⟨gy, 3, none⟩ = some (.bool y3) := (blk_cell B_gy.out 3).trans rfl
    have hc_gy_4 : w4_.cell? ⟨gy, 4, none⟩ = some (.int .i64 y4) := (blk_cell B_gy.out 4).trans rfl
    have hc_gy_5 : w4_.cell? ⟨gy, 5, none⟩ = some (.int .i64 y5) := (blk_cell B_gy.out 5).trans rfl
    have hc_gy_6 : w4_.cell? ⟨gy, 6, none⟩ = some (.bool y6) := (blk_cell B_gy.out 6).trans rfl
    have hc_gy_7 : w4_.cell? ⟨gy, 7, none⟩ = some (.slice yA yl.length yc) := (blk_cell B_gy.out 7).trans rfl
    have hc_gy_8 : w4_.cell? ⟨gy, 8, none⟩ = some (.int .i64 y8) := (blk_cell B_gy.out 8).trans rfl
    have hc_gy_9 : w4_.cell? ⟨gy, 9, none⟩ = some (.int .i64 y9) := (blk_cell B_gy.out 9).trans rfl
    have hc_gy_10 : w4_.cell? ⟨gy, 10, none⟩ = some (.int .i64 y10) := (blk_cell B_gy.out 10).trans rfl
    go_upto_region 5 with ((go_at_call 9; (with_reducible refine (clepsydralaw21_long.calls s0 s1 s2 s3 s4 s5 s6 sA sc sl s8 s9 s10 y0 y1 y2 y3 y4 y5 y6 yA yc yl y8 y9 y10 false _ (Kd.C_below HRs.out HB.out) HCs.out (Kd.C_below HRy.out HB.out) HCy.out HLG.out).mono ?_); rintro e w5_ ⟨rfl, hb⟩; have n0_ := Aside0.mk (blk_below B_gp.out hb); have n1_ := Aside0.mk (blk_below B_gs.out hb); have n2_ := Aside0.mk (blk_below B_gy.out hb); have n3_ := Aside0.mk (below_step HB.out hb); clear B_gp B_gs B_gy HB; have B_gp := n0_; have B_gs := n1_; have B_gy := n2_; have HB := n3_; clear n0_ n1_ n2_ n3_; clear hb))
    clear hc_gs_0 hc_gs_1 hc_gs_2 hc_gs_3 hc_gs_4 hc_gs_5 hc_gs_6 hc_gs_7 hc_gs_8 hc_gs_9 hc_gs_10 hc_gy_0 hc_gy_1 hc_gy_2 hc_gy_3 hc_gy_4 hc_gy_5 hc_gy_6 hc_gy_7 hc_gy_8 hc_gy_9 hc_gy_10
    have hc_gy_0 : w5_.cell? ⟨gy, 0, none⟩ = some (.int .i64 y0) := (blk_cell B_gy.out 0).trans rfl
    have hc_gy_1 : w5_.cell? ⟨gy, 1, none⟩ = some (.int .i64 y1) := (blk_cell B_gy.out 1).trans rfl
    have hc_gy_2 : w5_.cell? ⟨gy, 2, none⟩ = some (.int .i64 y2) := (blk_cell B_gy.out 2).trans rfl
    have hc_gy_3 : w5_.cell? ⟨gy, 3, none⟩ = some (.bool y3) := (blk_cell B_gy.out 3).trans rfl
    have hc_gy_4 : w5_.cell? ⟨gy, 4, none⟩ = some (.int .i64 y4) := (blk_cell B_gy.out 4).trans rfl
    have hc_gy_5 : w5_.cell? ⟨gy, 5, none⟩ = some (.int .i64 y5) := (blk_cell B_gy.out 5).trans rfl
    have hc_gy_6 : w5_.cell? ⟨gy, 6, none⟩ = some (.bool y6) := (blk_cell B_gy.out 6).trans rfl
    have hc_gy_7 : w5_.cell? ⟨gy, 7, none⟩ = some (.slice yA yl.length yc) := (blk_cell B_gy.out 7).trans rfl
    have hc_gy_8 : w5_.cell? ⟨gy, 8, none⟩ = some (.int .i64 y8) := (blk_cell B_gy.out 8).trans rfl
    have hc_gy_9 : w5_.cell? ⟨gy, 9, none⟩ = some (.int .i64 y9) := (blk_cell B_gy.out 9).trans rfl
    have hc_gy_10 : w5_.cell? ⟨gy, 10, none⟩ = some (.int .i64 y10) := (blk_cell B_gy.out 10).trans rfl
    go_upto_region 6 with (((with_reducible refine gate_dst (N := 7) rfl ?_); refine box_event ?hg (N := 7) ?hd (cs := #[.int .i64 0, .int .i64 0, .int .i64 0, .bool false, .int .i64 0, .int .i64 0, .bool false, .slice none 0 0, .int .i64 0, .int .i64 0, .int .i64 0]) (t := 30) ?hr ?_; (case hd => rfl); (case hg => rfl); (case hr => first | (go_simp; done) | (go_simp; rfl)); intro gm hg w6_ hbox hb; have N_gp_gm := nl hg B_gp.out; have N_gs_gm := nl hg B_gs.out; have N_gy_gm := nl hg B_gy.out; have N_gm_gp := ng hg B_gp.out; have N_gm_gs := ng hg B_gs.out; have N_gm_gy := ng hg B_gy.out; have E_gm : Aside0 (w.heap.size ≤ gm) := ⟨by rw [hg]; exact below_size HB.out⟩; have n0_ := Aside0.mk (blk_below B_gp.out hb); have n1_ := Aside0.mk (blk_below B_gs.out hb); have n2_ := Aside0.mk (blk_below B_gy.out hb); have n3_ := Aside0.mk (below_step HB.out hb); clear B_gp B_gs B_gy HB; have B_gp := n0_; have B_gs := n1_; have B_gy := n2_; have HB := n3_; clear n0_ n1_ n2_ n3_; have B_gm := Aside0.mk hbox; clear hb hbox hg; have hr1f_gm_0 := blk_frozen B_gm.out 0; have hr1_gm_0 : w6_.cell? ⟨gm, 0, none⟩ = some (.int .i64 0) := (blk_cell B_gm.out 0).trans rfl; have hr1f_gm_1 := blk_frozen B_gm.out 1; have hr1_gm_1 : w6_.cell? ⟨gm, 1, none⟩ = some (.int .i64 0) := (blk_cell B_gm.out 1).trans rfl; have hr1f_gm_2 := blk_frozen B_gm.out 2; have hr1_gm_2 : w6_.cell? ⟨gm, 2, none⟩ = some (.int .i64 0) := (blk_cell B_gm.out 2).trans rfl; have hr1f_gm_3 := blk_frozen B_gm.out 3; have hr1_gm_3 : w6_.cell? ⟨gm, 3, none⟩ = some (.bool false) := (blk_cell B_gm.out 3).trans rfl; have hr1f_gm_4 := blk_frozen B_gm.out 4; have hr1_gm_4 : w6_.cell? ⟨gm, 4, none⟩ = some (.int .i64 0) := (blk_cell B_gm.out 4).trans rfl; have hr1f_gm_5 := blk_frozen B_gm.out 5; have hr1_gm_5 : w6_.cell? ⟨gm, 5, none⟩ = some (.int .i64 0) := (blk_cell B_gm.out 5).trans rfl; have hr1f_gm_6 := blk_frozen B_gm.out 6; have hr1_gm_6 : w6_.cell? ⟨gm, 6, none⟩ = some (.bool false) := (blk_cell B_gm.out 6).trans rfl; have hr1f_gm_7 := blk_frozen B_gm.out 7; have hr1_gm_7 : w6_.cell? ⟨gm, 7, none⟩ = some (.slice none 0 0) := (blk_cell B_gm.out 7).trans rfl; have hr1f_gm_8 := blk_frozen B_gm.out 8; have hr1_gm_8 : w6_.cell? ⟨gm, 8, none⟩ = some (.int .i64 0) := (blk_cell B_gm.out 8).trans rfl; have hr1f_gm_9 := blk_frozen B_gm.out 9; have hr1_gm_9 : w6_.cell? ⟨gm, 9, none⟩ = some (.int .i64 0) := (blk_cell B_gm.out 9).trans rfl; have hr1f_gm_10 := blk_frozen B_gm.out 10; have hr1_gm_10 : w6_.cell? ⟨gm, 10, none⟩ = some (.int .i64 0) := (blk_cell B_gm.out 10).trans rfl))
    clear hc_gy_0 hc_gy_1 hc_gy_2 hc_gy_3 hc_gy_4 hc_gy_5 hc_gy_6 hc_gy_7 hc_gy_8 hc_gy_9 hc_gy_10 hr1f_gm_0 hr1_gm_0 hr1f_gm_1 hr1_gm_1 hr1f_gm_2 hr1_gm_2 hr1f_gm_3 hr1_gm_3 hr1f_gm_4 hr1_gm_4 hr1f_gm_5 hr1_gm_5 hr1f_gm_6 hr1_gm_6 hr1f_gm_7 hr1_gm_7 hr1f_gm_8 hr1_gm_8 hr1f_gm_9 hr1_gm_9 hr1f_gm_10 hr1_gm_10
    have n0_ : Aside0 ((((((((((((w6_.setCell ⟨gm, 0, none⟩ (.int .i64 y0)).setCell ⟨gm, 1, none⟩ (.int .i64 y1)).setCell ⟨gm, 2, none⟩ (.int .i64 y2)).setCell ⟨gm, 3, none⟩ (.bool y3)).setCell ⟨gm, 4, none⟩ (.int .i64 y4)).setCell ⟨gm, 5, none⟩ (.int .i64 y5)).setCell ⟨gm, 6, none⟩ (.bool y6)).setCell ⟨gm, 7, none⟩ (.slice yA yl.length yc)).setCell ⟨gm, 8, none⟩ (.int .i64 y8)).setCell ⟨gm, 9, none⟩ (.int .i64 y9)).setCell ⟨gm, 10, none⟩ (.int .i64 y10)).heap[gp]? = some (.cells #[.int .i64 p0, .int .i64 p1, .int .i64 p2, .int .i64 p3, .int .i64 p4, .int .i64 p5, .int .i64 p6, .int .i64 p7, .int .i64 p8, .int .i64 p9, .int .i64 p10, .int .i64 p11] 23 (0, 0))) := ⟨blk_far (blk_far (blk_far (blk_far (blk_far (blk_far (blk_far (blk_far (blk_far (blk_far (blk_far (B_gp.out) N_gp_gm.out _) N_gp_gm.out _) N_gp_gm.out _) N_gp_gm.out _) N_gp_gm.out _) N_gp_gm.out _) N_gp_gm.out _) N_gp_gm.out _) N_gp_gm.out _) N_gp_gm.out _) N_gp_gm.out _⟩
    have n1_ : Aside0 ((((((((((((w6_.setCell ⟨gm, 0, none⟩ (.int .i64 y0)).setCell ⟨gm, 1, none⟩ (.int .i64 y1)).setCell ⟨gm, 2, none⟩ (.int .i64 y2)).setCell ⟨gm, 3, none⟩ (.bool y3)).setCell ⟨gm, 4, none⟩ (.int .i64 y4)).setCell ⟨gm, 5, none⟩ (.int .i64 y5)).setCell ⟨gm, 6, none⟩ (.bool y6)).setCell ⟨gm, 7, none⟩ (.slice yA yl.length yc)).setCell ⟨gm, 8, none⟩ (.int .i64 y8)).setCell ⟨gm, 9, none⟩ (.int .i64 y9)).setCell ⟨gm, 10, none⟩ (.int .i64 y10)).heap[gs]? = some (.cells #[.int .i64 s0, .int .i64 s1, .int .i64 s2, .bool s3, .int .i64 s4, .int .i64 s5, .bool s6, .slice sA sl.length sc, .int .i64 s8, .int .i64 s9, .int .i64 s10] 30 (0, 0))) := ⟨blk_far (blk_far (blk_far (blk_far (blk_far (blk_far (blk_far (blk_far (blk_far (blk_far (blk_far (B_gs.out) N_gs_gm.out _) N_gs_gm.out _) N_gs_gm.out _) N_gs_gm.out _) N_gs_gm.out _) N_gs_gm.out _) N_gs_gm.out _) N_gs_gm.out _) N_gs_gm.out _) N_gs_gm.out _) N_gs_gm.out _⟩
    have n2_ : Aside0 ((((((((((((w6_.setCell ⟨gm, 0, none⟩ (.int .i64 y0)).setCell ⟨gm, 1, none⟩ (.int .i64 y1)).setCell ⟨gm, 2, none⟩ (.int .i64 y2)).setCell ⟨gm, 3, none⟩ (.bool y3)).setCell ⟨gm, 4, none⟩ (.int .i64 y4)).setCell ⟨gm, 5, none⟩ (.int .i64 y5)).setCell ⟨gm, 6, none⟩ (.bool y6)).setCell ⟨gm, 7, none⟩ (.slice yA yl.length yc)).setCell ⟨gm, 8, none⟩ (.int .i64 y8)).setCell ⟨gm, 9, none⟩ (.int .i64 y9)).setCell ⟨gm, 10, none⟩ (.int .i64 y10)).heap[gy]? = some (.cells #[.int .i64 y0, .int .i64 y1, .int .i64 y2, .bool y3, .int .i64 y4, .int .i64 y5, .bool y6, .slice yA yl.length yc, .int .i64 y8, .int .i64 y9, .int .i64 y10] 30 (0, 0))) := ⟨blk_far (blk_far (blk_far (blk_far (blk_far (blk_far (blk_far (blk_far (blk_far (blk_far (blk_far (B_gy.out) N_gy_gm.out _) N_gy_gm.out _) N_gy_gm.out _) N_gy_gm.out _) N_gy_gm.out _) N_gy_gm.out _) N_gy_gm.out _) N_gy_gm.out _) N_gy_gm.out _) N_gy_gm.out _) N_gy_gm.out _⟩
    have n3_ : Aside0 ((((((((((((w6_.setCell ⟨gm, 0, none⟩ (.int .i64 y0)).setCell ⟨gm, 1, none⟩ (.int .i64 y1)).setCell ⟨gm, 2, none⟩ (.int .i64 y2)).setCell ⟨gm, 3, none⟩ (.bool y3)).setCell ⟨gm, 4, none⟩ (.int .i64 y4)).setCell ⟨gm, 5, none⟩ (.int .i64 y5)).setCell ⟨gm, 6, none⟩ (.bool y6)).setCell ⟨gm, 7, none⟩ (.slice yA yl.length yc)).setCell ⟨gm, 8, none⟩ (.int .i64 y8)).setCell ⟨gm, 9, none⟩ (.int .i64 y9)).setCell ⟨gm, 10, none⟩ (.int .i64 y10)).heap[gm]? = some (.cells #[.int .i64 y0, .int .i64 y1, .int .i64 y2, .bool y3, .int .i64 y4, .int .i64 y5, .bool y6, .slice yA yl.length yc, .int .i64 y8, .int .i64 y9, .int .i64 y10] 30 (0, 0))) := ⟨by have h_ := blk_set (blk_set (blk_set (blk_set (blk_set (blk_set (blk_set (blk_set (blk_set (blk_set (blk_set (B_gm.out) 0 (.int .i64 y0)) 1 (.int .i64 y1)) 2 (.int .i64 y2)) 3 (.bool y3)) 4 (.int .i64 y4)) 5 (.int .i64 y5)) 6 (.bool y6)) 7 (.slice yA yl.length yc)) 8 (.int .i64 y8)) 9 (.int .i64 y9)) 10 (.int .i64 y10); simp only [List.setIfInBounds_toArray, List.set_cons_zero, List.set_cons_succ] at h_; exact h_⟩
    have n4_ : Aside0 (Below w.heap.size w (((((((((((w6_.setCell ⟨gm, 0, none⟩ (.int .i64 y0)).setCell ⟨gm, 1, none⟩ (.int .i64 y1)).setCell ⟨gm, 2, none⟩ (.int .i64 y2)).setCell ⟨gm, 3, none⟩ (.bool y3)).setCell ⟨gm, 4, none⟩ (.int .i64 y4)).setCell ⟨gm, 5, none⟩ (.int .i64 y5)).setCell ⟨gm, 6, none⟩ (.bool y6)).setCell ⟨gm, 7, none⟩ (.slice yA yl.length yc)).setCell ⟨gm, 8, none⟩ (.int .i64 y8)).setCell ⟨gm, 9, none⟩ (.int .i64 y9)).setCell ⟨gm, 10, none⟩ (.int .i64 y10))) := ⟨below_set (below_set (below_set (below_set (below_set (below_set (below_set (below_set (below_set (below_set (below_set (HB.out) E_gm.out) E_gm.out) E_gm.out) E_gm.out) E_gm.out) E_gm.out) E_gm.out) E_gm.out) E_gm.out) E_gm.out) E_gm.out⟩
    clear B_gp B_gs B_gy B_gm HB
    have B_gp := n0_
    have B_gs := n1_
    have B_gy := n2_
    have B_gm := n3_
    have HB := n4_
    clear n0_ n1_ n2_ n3_ n4_
    generalize (((((((((((w6_.setCell ⟨gm, 0, none⟩ (.int .i64 y0)).setCell ⟨gm, 1, none⟩ (.int .i64 y1)).setCell ⟨gm, 2, none⟩ (.int .i64 y2)).setCell ⟨gm, 3, none⟩ (.bool y3)).setCell ⟨gm, 4, none⟩ (.int .i64 y4)).setCell ⟨gm, 5, none⟩ (.int .i64 y5)).setCell ⟨gm, 6, none⟩ (.bool y6)).setCell ⟨gm, 7, none⟩ (.slice yA yl.length yc)).setCell ⟨gm, 8, none⟩ (.int .i64 y8)).setCell ⟨gm, 9, none⟩ (.int .i64 y9)).setCell ⟨gm, 10, none⟩ (.int .i64 y10)) = w7_ at B_gp B_gs B_gy B_gm HB ⊢
    go_upto_region 7 with (first | ((with_reducible refine gate_dst (N := 18) rfl ?_); refine Kd.R_lit k42 _ 42 ?hg (N := 18) ?hd (xs := ([] : List S42)) (inner := []) (ok := fun _ => True) (okp := fun _ => True) ?hr ?hp (fun _ hk => hk) trivial (Below.refl _ _) (Nat.le_refl _) (by simp) ?_; (case hd => rfl); (case hg => rfl); (case hr => first | (go_simp; done) | (go_simp; rfl)); (case hp => exact Reps.none _ _); intro v_n w8_ ho hb hg_ hnew_; have HOn := Aside0.mk (Kd.R_lower ho (below_size HB.out)); have n0_ := Aside0.mk (blk_below B_gp.out hb); have n1_ := Aside0.mk (blk_below B_gs.out hb); have n2_ := Aside0.mk (blk_below B_gy.out hb); have n3_ := Aside0.mk (blk_below B_gm.out hb); have n4_ := Aside0.mk (below_step HB.out hb); clear B_gp B_gs B_gy B_gm HB; have B_gp := n0_; have B_gs := n1_; have B_gy := n2_; have B_gm := n3_; have HB := n4_; clear n0_ n1_ n2_ n3_ n4_; clear ho hb hg_ hnew_; have hr2_gy_7 : w8_.cell? ⟨gy, 7, none⟩ = some (.slice yA yl.length yc) := (blk_cell B_gy.out 7).trans rfl) | ((with_reducible refine gate_dst (N := 21) rfl ?_); refine Kd.R_append_rows k42 (w0 := w) w.heap.size rfl (.tmp 18) (.tmp 20) 26 42 (.agg #[(.int .i64 0), (.int .i64 0)]) 16 rfl Try.underlying26 info42 rfl (by decide) (by omega) v_n [] yl _ _ _ (fun _ => True) (fun _ => False) rfl rfl HOn.out (Kd.C_below HRy.out HB.out) (fun _ _ h => h) (fun _ h => h.elim) (fun _ _ => trivial) HB.out (below_size HB.out) ?aL ?_; (case aL => have := HM16.out; simp; omega); intro v_t w9_ ho hb2_ hg hat; have R0_t : Aside0 (Kd.R k42 42 w9_ w.heap.size (fun _ => True) v_t yl) := ⟨ho⟩; have n0_ := Aside0.mk (blk_grown B_gp.out hg (Kd.R_ne HOn.out B_gp.out (by decide))); have n1_ := Aside0.mk (blk_grown B_gs.out hg (Kd.R_ne HOn.out B_gs.out (by decide))); have n2_ := Aside0.mk (blk_grown B_gy.out hg (Kd.R_ne HOn.out B_gy.out (by decide))); have n3_ := Aside0.mk (blk_grown B_gm.out hg (Kd.R_ne HOn.out B_gm.out (by decide))); have n4_ := Aside0.mk (hb2_); clear B_gp B_gs B_gy B_gm HB; have B_gp := n0_; have B_gs := n1_; have B_gy := n2_; have B_gm := n3_; have HB := n4_; clear n0_ n1_ n2_ n3_ n4_; clear ho hb2_ hg hat HOn; obtain ⟨tA, tc, ev_⟩ := Kd.R_slice R0_t.out; subst ev_; have R_t := Aside0.mk (hx.tight rfl R0_t.out); clear R0_t; have hr3f_gm_7 := blk_frozen B_gm.out 7; have hr3_gm_7 : w9_.cell? ⟨gm, 7, none⟩ = some (.slice yA yl.length yc) := (blk_cell B_gm.out 7).trans rfl))
    clear hr2_gy_7 hr3f_gm_7 hr3_gm_7
    have n0_ : Aside0 ((w9_.setCell ⟨gm, 7, none⟩ (.slice tA yl.length tc)).heap[gp]? = some (.cells #[.int .i64 p0, .int .i64 p1, .int .i64 p2, .int .i64 p3, .int .i64 p4, .int .i64 p5, .int .i64 p6, .int .i64 p7, .int .i64 p8, .int .i64 p9, .int .i64 p10, .int .i64 p11] 23 (0, 0))) := ⟨blk_far (B_gp.out) N_gp_gm.out _⟩
    have n1_ : Aside0 ((w9_.setCell ⟨gm, 7, none⟩ (.slice tA yl.length tc)).heap[gs]? = some (.cells #[.int .i64 s0, .int .i64 s1, .int .i64 s2, .bool s3, .int .i64 s4, .int .i64 s5, .bool s6, .slice sA sl.length sc, .int .i64 s8, .int .i64 s9, .int .i64 s10] 30 (0, 0))) := ⟨blk_far (B_gs.out) N_gs_gm.out _⟩
    have n2_ : Aside0 ((w9_.setCell ⟨gm, 7, none⟩ (.slice tA yl.length tc)).heap[gy]? = some (.cells #[.int .i64 y0, .int .i64 y1, .int .i64 y2, .bool y3, .int .i64 y4, .int .i64 y5, .bool y6, .slice yA yl.length yc, .int .i64 y8, .int .i64 y9, .int .i64 y10] 30 (0, 0))) := ⟨blk_far (B_gy.out) N_gy_gm.out _⟩
    have n3_ : Aside0 ((w9_.setCell ⟨gm, 7, none⟩ (.slice tA yl.length tc)).heap[gm]? = some (.cells #[.int .i64 y0, .int .i64 y1, .int .i64 y2, .bool y3, .int .i64 y4, .int .i64 y5, .bool y6, .slice tA yl.length tc, .int .i64 y8, .int .i64 y9, .int .i64 y10] 30 (0, 0))) := ⟨by have h_ := blk_set (B_gm.out) 7 (.slice tA yl.length tc); simp only [List.setIfInBounds_toArray, List.set_cons_zero, List.set_cons_succ] at h_; exact h_⟩
    have n4_ : Aside0 (Kd.R k42 42 (w9_.setCell ⟨gm, 7, none⟩ (.slice tA yl.length tc)) w.heap.size (fun k_ => some k_ = ((.slice tA yl.length tc) : Value).ownBlock) (.slice tA yl.length tc) yl) := ⟨Kd.R_far (R_t.out) (hx.away R_t.out B_gm.out (by decide)) _⟩
    have n5_ : Aside0 (Below w.heap.size w (w9_.setCell ⟨gm, 7, none⟩ (.slice tA yl.length tc))) := ⟨below_set (HB.out) E_gm.out⟩
    clear B_gp B_gs B_gy B_gm R_t HB
    have B_gp := n0_
    have B_gs := n1_
    have B_gy := n2_
    have B_gm := n3_
    have R_t := n4_
    have HB := n5_
    clear n0_ n1_ n2_ n3_ n4_ n5_
    generalize (w9_.setCell ⟨gm, 7, none⟩ (.slice tA yl.length tc)) = w10_ at B_gp B_gs B_gy B_gm R_t HB ⊢
    have HRm := Aside0.mk (Kd.R_reads' R_t.out).2.2
    have HCm := Aside0.mk (Kd.R_reads' R_t.out).2.1
    clear R_t
    have n0_ := Aside0.mk (Kd.C_below HRs.out HB.out)
    have n1_ := Aside0.mk (Kd.C_below HRy.out HB.out)
    clear HRs HRy
    have HRs := n0_
    have HRy := n1_
    clear n0_ n1_
    have HB0 := HB
    clear HB
    have HB := Aside0.mk (Below.refl w10_.heap.size w10_)
    have hc_gp_0 : w10_.cell? ⟨gp, 0, none⟩ = some (.int .i64 p0) := (blk_cell B_gp.out 0).trans rfl
    have hc_gp_1 : w10_.cell? ⟨gp, 1, none⟩ = some (.int .i64 p1) := (blk_cell B_gp.out 1).trans rfl
    have hc_gp_2 : w10_.cell? ⟨gp, 2, none⟩ = some (.int .i64 p2) := (blk_cell B_gp.out 2).trans rfl
    have hc_gp_3 : w10_.cell? ⟨gp, 3, none⟩ = some (.int .i64 p3) := (blk_cell B_gp.out 3).trans rfl
    have hc_gp_4 : w10_.cell? ⟨gp, 4, none⟩ = some (.int .i64 p4) := (blk_cell B_gp.out 4).trans rfl
    have hc_gp_5 : w10_.cell? ⟨gp, 5, none⟩ = some (.int .i64 p5) := (blk_cell B_gp.out 5).trans rfl
    have hc_gp_6 : w10_.cell? ⟨gp, 6, none⟩ = some (.int .i64 p6) := (blk_cell B_gp.out 6).trans rfl
    have hc_gp_7 : w10_.cell? ⟨gp, 7, none⟩ = some (.int .i64 p7) := (blk_cell B_gp.out 7).trans rfl
    have hc_gp_8 : w10_.cell? ⟨gp, 8, none⟩ = some (.int .i64 p8) := (blk_cell B_gp.out 8).trans rfl
    have hc_gp_9 : w10_.cell? ⟨gp, 9, none⟩ = some (.int .i64 p9) := (blk_cell B_gp.out 9).trans rfl
    have hc_gp_10 : w10_.cell? ⟨gp, 10, none⟩ = some (.int .i64 p10) := (blk_cell B_gp.out 10).trans rfl
    have hc_gp_11 : w10_.cell? ⟨gp, 11, none⟩ = some (.int .i64 p11) := (blk_cell B_gp.out 11).trans rfl
    have hc_gs_0 : w10_.cell? ⟨gs, 0, none⟩ = some (.int .i64 s0) := (blk_cell B_gs.out 0).trans rfl
    have hc_gs_1 : w10_.cell? ⟨gs, 1, none⟩ = some (.int .i64 s1) := (blk_cell B_gs.out 1).trans rfl
    have hc_gs_2 : w10_.cell? ⟨gs, 2, none⟩ = some (.int .i64 s2) := (blk_cell B_gs.out 2).trans rfl
    have hc_gs_3 : w10_.cell? ⟨gs, 3, none⟩ = some (.bool s3) := (blk_cell B_gs.out 3).trans rfl
    have hc_gs_4 : w10_.cell? ⟨gs, 4, none⟩ = some (.int .i64 s4) := (blk_cell B_gs.out 4).trans rfl
    have hc_gs_5 : w10_.cell? ⟨gs, 5, none⟩ = some (.int .i64 s5) := (blk_cell B_gs.out 5).trans rfl
    have hc_gs_6 : w10_.cell? ⟨gs, 6, none⟩ = some (.bool s6) := (blk_cell B_gs.out 6).trans rfl
    have hc_gs_7 : w10_.cell? ⟨gs, 7, none⟩ = some (.slice sA sl.length sc) := (blk_cell B_gs.out 7).trans rfl
    have hc_gs_8 : w10_.cell? ⟨gs, 8, none⟩ = some (.int .i64 s8) := (blk_cell B_gs.out 8).trans rfl
    have hc_gs_9 : w10_.cell? ⟨gs, 9, none⟩ = some (.int .i64 s9) := (blk_cell B_gs.out 9).trans rfl
    have hc_gs_10 : w10_.cell? ⟨gs, 10, none⟩ = some (.int .i64 s10) := (blk_cell B_gs.out 10).trans rfl
    go_upto_region 8 with (((with_reducible refine gate_dst (N := 26) rfl ?_); refine box_event ?hg (N := 26) ?hd (cs := #[.int .i64 p0, .int .i64 p1, .int .i64 p2, .int .i64 p3, .int .i64 p4, .int .i64 p5, .int .i64 p6, .int .i64 p7, .int .i64 p8, .int .i64 p9, .int .i64 p10, .int .i64 p11, .int .i64 s0, .int .i64 s1, .int .i64 s2, .bool s3, .int .i64 s4, .int .i64 s5, .bool s6, .slice sA sl.length sc, .int .i64 s8, .int .i64 s9, .int .i64 s10]) (t := 39) ?hr ?_; (case hd => rfl); (case hg => rfl); (case hr => first | (go_simp; done) | (go_simp; rfl)); intro gf hg w11_ hbox hb; have N_gp_gf := nl hg B_gp.out; have N_gs_gf := nl hg B_gs.out; have N_gy_gf := nl hg B_gy.out; have N_gm_gf := nl hg B_gm.out; have N_gf_gp := ng hg B_gp.out; have N_gf_gs := ng hg B_gs.out; have N_gf_gy := ng hg B_gy.out; have N_gf_gm := ng hg B_gm.out; have E_gf : Aside0 (w10_.heap.size ≤ gf) := ⟨by rw [hg]; exact below_size HB.out⟩; have n0_ := Aside0.mk (blk_below B_gp.out hb); have n1_ := Aside0.mk (blk_below B_gs.out hb); have n2_ := Aside0.mk (blk_below B_gy.out hb); have n3_ := Aside0.mk (blk_below B_gm.out hb); have n4_ := Aside0.mk (below_step HB.out hb); clear B_gp B_gs B_gy B_gm HB; have B_gp := n0_; have B_gs := n1_; have B_gy := n2_; have B_gm := n3_; have HB := n4_; clear n0_ n1_ n2_ n3_ n4_; have B_gf := Aside0.mk hbox; clear hb hbox hg))
    clear hc_gp_0 hc_gp_1 hc_gp_2 hc_gp_3 hc_gp_4 hc_gp_5 hc_gp_6 hc_gp_7 hc_gp_8 hc_gp_9 hc_gp_10 hc_gp_11 hc_gs_0 hc_gs_1 hc_gs_2 hc_gs_3 hc_gs_4 hc_gs_5 hc_gs_6 hc_gs_7 hc_gs_8 hc_gs_9 hc_gs_10
    have hc_gm_0 : w11_.cell? ⟨gm, 0, none⟩ = some (.int .i64 y0) := (blk_cell B_gm.out 0).trans rfl
    have hc_gm_1 : w11_.cell? ⟨gm, 1, none⟩ = some (.int .i64 y1) := (blk_cell B_gm.out 1).trans rfl
    have hc_gm_2 : w11_.cell? ⟨gm, 2, none⟩ = some (.int .i64 y2) := (blk_cell B_gm.out 2).trans rfl
    have hc_gm_3 : w11_.cell? ⟨gm, 3, none⟩ = some (.bool y3) := (blk_cell B_gm.out 3).trans rfl
    have hc_gm_4 : w11_.cell? ⟨gm, 4, none⟩ = some (.int .i64 y4) := (blk_cell B_gm.out 4).trans rfl
    have hc_gm_5 : w11_.cell? ⟨gm, 5, none⟩ = some (.int .i64 y5) := (blk_cell B_gm.out 5).trans rfl
    have hc_gm_6 : w11_.cell? ⟨gm, 6, none⟩ = some (.bool y6) := (blk_cell B_gm.out 6).trans rfl
    have hc_gm_7 : w11_.cell? ⟨gm, 7, none⟩ = some (.slice tA yl.length tc) := (blk_cell B_gm.out 7).trans rfl
    have hc_gm_8 : w11_.cell? ⟨gm, 8, none⟩ = some (.int .i64 y8) := (blk_cell B_gm.out 8).trans rfl
    have hc_gm_9 : w11_.cell? ⟨gm, 9, none⟩ = some (.int .i64 y9) := (blk_cell B_gm.out 9).trans rfl
    have hc_gm_10 : w11_.cell? ⟨gm, 10, none⟩ = some (.int .i64 y10) := (blk_cell B_gm.out 10).trans rfl
    go_upto_region 9 with ((go_at_call 17; (with_reducible refine (health_Front_Step.does k gf p0 p1 p2 p3 p4 p5 p6 p7 p8 p9 p10 p11 s0 s1 s2 s3 s4 s5 s6 sA sc sl s8 s9 s10 5 y0 y1 y2 y3 y4 y5 y6 tA tc yl y8 y9 y10 r0 r1 r2 r3 r4 r5 r6 ml r8 r9 r10 _ (Kd.C_below HRs.out HB.out) HCs.out (Kd.C_below HRm.out HB.out) HCm.out B_gf.out HST.out).mono ?_); rintro e w12_ ⟨mA, mc, rfl, hg, hn, ho⟩; have R_m := Aside0.mk (Kd.R_lower ho (below_size HB.out)); have n0_ := Aside0.mk (blk_grown B_gp.out hg (fun e_ => N_gp_gf.out (Option.some.inj e_))); have n1_ := Aside0.mk (blk_grown B_gs.out hg (fun e_ => N_gs_gf.out (Option.some.inj e_))); have n2_ := Aside0.mk (blk_grown B_gy.out hg (fun e_ => N_gy_gf.out (Option.some.inj e_))); have n3_ := Aside0.mk (blk_grown B_gm.out hg (fun e_ => N_gm_gf.out (Option.some.inj e_))); have n4_ := Aside0.mk (hn); have n5_ := Aside0.mk (pw_below_grown HB.out (some gf) (below_size HB.out) hg (fun k_ e_ => by cases e_; exact E_gf.out)); clear B_gp B_gs B_gy B_gm B_gf HB; have B_gp := n0_; have B_gs := n1_; have B_gy := n2_; have B_gm := n3_; have B_gf := n4_; have HB := n5_; clear n0_ n1_ n2_ n3_ n4_ n5_; clear hg hn ho))
    clear hc_gm_0 hc_gm_1 hc_gm_2 hc_gm_3 hc_gm_4 hc_gm_5 hc_gm_6 hc_gm_7 hc_gm_8 hc_gm_9 hc_gm_10
    have hc_gp_0 : w12_.cell? ⟨gp, 0, none⟩ = some (.int .i64 p0) := (blk_cell B_gp.out 0).trans rfl
    have hc_gp_1 : w12_.cell? ⟨gp, 1, none⟩ = some (.int .i64 p1) := (blk_cell B_gp.out 1).trans rfl
    have hc_gp_2 : w12_.cell? ⟨gp, 2, none⟩ = some (.int .i64 p2) := (blk_cell B_gp.out 2).trans rfl
    have hc_gp_3 : w12_.cell? ⟨gp, 3, none⟩ = some (.int .i64 p3) := (blk_cell B_gp.out 3).trans rfl
    have hc_gp_4 : w12_.cell? ⟨gp, 4, none⟩ = some (.int .i64 p4) := (blk_cell B_gp.out 4).trans rfl
    have hc_gp_5 : w12_.cell? ⟨gp, 5, none⟩ = some (.int .i64 p5) := (blk_cell B_gp.out 5).trans rfl
    have hc_gp_6 : w12_.cell? ⟨gp, 6, none⟩ = some (.int .i64 p6) := (blk_cell B_gp.out 6).trans rfl
    have hc_gp_7 : w12_.cell? ⟨gp, 7, none⟩ = some (.int .i64 p7) := (blk_cell B_gp.out 7).trans rfl
    have hc_gp_8 : w12_.cell? ⟨gp, 8, none⟩ = some (.int .i64 p8) := (blk_cell B_gp.out 8).trans rfl
    have hc_gp_9 : w12_.cell? ⟨gp, 9, none⟩ = some (.int .i64 p9) := (blk_cell B_gp.out 9).trans rfl
    have hc_gp_10 : w12_.cell? ⟨gp, 10, none⟩ = some (.int .i64 p10) := (blk_cell B_gp.out 10).trans rfl
    have hc_gp_11 : w12_.cell? ⟨gp, 11, none⟩ = some (.int .i64 p11) := (blk_cell B_gp.out 11).trans rfl
    have hc_gm_0 : w12_.cell? ⟨gm, 0, none⟩ = some (.int .i64 y0) := (blk_cell B_gm.out 0).trans rfl
    have hc_gm_1 : w12_.cell? ⟨gm, 1, none⟩ = some (.int .i64 y1) := (blk_cell B_gm.out 1).trans rfl
    have hc_gm_2 : w12_.cell? ⟨gm, 2, none⟩ = some (.int .i64 y2) := (blk_cell B_gm.out 2).trans rfl
    have hc_gm_3 : w12_.cell? ⟨gm, 3, none⟩ = some (.bool y3) := (blk_cell B_gm.out 3).trans rfl
    have hc_gm_4 : w12_.cell? ⟨gm, 4, none⟩ = some (.int .i64 y4) := (blk_cell B_gm.out 4).trans rfl
    have hc_gm_5 : w12_.cell? ⟨gm, 5, none⟩ = some (.int .i64 y5) := (blk_cell B_gm.out 5).trans rfl
    have hc_gm_6 : w12_.cell? ⟨gm, 6, none⟩ = some (.bool y6) := (blk_cell B_gm.out 6).trans rfl
    have hc_gm_7 : w12_.cell? ⟨gm, 7, none⟩ = some (.slice tA yl.length tc) := (blk_cell B_gm.out 7).trans rfl
    have hc_gm_8 : w12_.cell? ⟨gm, 8, none⟩ = some (.int .i64 y8) := (blk_cell B_gm.out 8).trans rfl
    have hc_gm_9 : w12_.cell? ⟨gm, 9, none⟩ = some (.int .i64 y9) := (blk_cell B_gm.out 9).trans rfl
    have hc_gm_10 : w12_.cell? ⟨gm, 10, none⟩ = some (.int .i64 y10) := (blk_cell B_gm.out 10).trans rfl
    go_upto_region 10 with (first | (go_at_call 10; (with_reducible refine (health_Sane.calls k p0 p1 p2 p3 p4 p5 p6 p7 p8 p9 p10 p11 y0 y1 y2 y3 y4 y5 y6 tA tc yl y8 y9 y10 x0 x1 x2 x3 x4 x5 x6 xl x8 x9 x10 _ (Kd.C_below HRm.out HB.out) HCm.out HSA.out).mono ?_); rintro e w13_ ⟨v_x, rfl, ho_, hb⟩; have R0_x := Aside0.mk (Kd.R_lower (Kd.R_new' ho_ (fun k_ hk => ((Kd.R_bound R_m.out).1 k_ hk).2.2.1)) (below_size HB.out)); clear ho_; have n0_ := Aside0.mk (blk_below B_gp.out hb); have n1_ := Aside0.mk (blk_below B_gs.out hb); have n2_ := Aside0.mk (blk_below B_gy.out hb); have n3_ := Aside0.mk (blk_below B_gm.out hb); have n4_ := Aside0.mk (blk_below B_gf.out hb); have n5_ := Aside0.mk (Kd.R_below R_m.out hb); have n6_ := Aside0.mk (below_step HB.out hb); clear B_gp B_gs B_gy B_gm B_gf R_m HB; have B_gp := n0_; have B_gs := n1_; have B_gy := n2_; have B_gm := n3_; have B_gf := n4_; have R_m := n5_; have HB := n6_; clear n0_ n1_ n2_ n3_ n4_ n5_ n6_; clear hb; obtain ⟨xA, xc, ev_⟩ := Kd.R_slice R0_x.out; subst ev_; have D_xm : Aside0 (∀ k_, some k_ = (.slice xA xl.length xc : Value).ownBlock → some k_ ≠ (.slice mA ml.length mc : Value).ownBlock) := ⟨fun k_ hk => (R0_x.out.1 k_ hk.symm).2⟩; have R_x := Aside0.mk (hx.tight rfl R0_x.out); clear R0_x) | ((with_reducible refine gate_dst (N := 9) rfl ?_); refine box_event ?hg (N := 9) ?hd (cs := #[.int .i64 0, .int .i64 0, .int .i64 0, .bool false, .int .i64 0, .int .i64 0, .bool false, .slice none 0 0, .int .i64 0, .int .i64 0, .int .i64 0]) (t := 30) ?hr ?_; (case hd => rfl); (case hg => rfl); (case hr => first | (go_simp; done) | (go_simp; rfl)); intro gx hg w14_ hbox hb; have N_gp_gx := nl hg B_gp.out; have N_gs_gx := nl hg B_gs.out; have N_gy_gx := nl hg B_gy.out; have N_gm_gx := nl hg B_gm.out; have N_gf_gx := nl hg B_gf.out; have N_gx_gp := ng hg B_gp.out; have N_gx_gs := ng hg B_gs.out; have N_gx_gy := ng hg B_gy.out; have N_gx_gm := ng hg B_gm.out; have N_gx_gf := ng hg B_gf.out; have E_gx : Aside0 (w10_.heap.size ≤ gx) := ⟨by rw [hg]; exact below_size HB.out⟩; have n0_ := Aside0.mk (blk_below B_gp.out hb); have n1_ := Aside0.mk (blk_below B_gs.out hb); have n2_ := Aside0.mk (blk_below B_gy.out hb); have n3_ := Aside0.mk (blk_below B_gm.out hb); have n4_ := Aside0.mk (blk_below B_gf.out hb); have n5_ := Aside0.mk (Kd.R_below R_m.out hb); have n6_ := Aside0.mk (Kd.R_below R_x.out hb); have n7_ := Aside0.mk (below_step HB.out hb); clear B_gp B_gs B_gy B_gm B_gf R_m R_x HB; have B_gp := n0_; have B_gs := n1_; have B_gy := n2_; have B_gm := n3_; have B_gf := n4_; have R_m := n5_; have R_x := n6_; have HB := n7_; clear n0_ n1_ n2_ n3_ n4_ n5_ n6_ n7_; have B_gx := Aside0.mk hbox; clear hb hbox hg; have hr4f_gx_0 := blk_frozen B_gx.out 0; have hr4_gx_0 : w14_.cell? ⟨gx, 0, none⟩ = some (.int .i64 0) := (blk_cell B_gx.out 0).trans rfl; have hr4f_gx_1 := blk_frozen B_gx.out 1; have hr4_gx_1 : w14_.cell? ⟨gx, 1, none⟩ = some (.int .i64 0) := (blk_cell B_gx.out 1).trans rfl; have hr4f_gx_2 := blk_frozen B_gx.out 2; have hr4_gx_2 : w14_.cell? ⟨gx, 2, none⟩ = some (.int .i64 0) := (blk_cell B_gx.out 2).trans rfl; have hr4f_gx_3 := blk_frozen B_gx.out 3; have hr4_gx_3 : w14_.cell? ⟨gx, 3, none⟩ = some (.bool false) := (blk_cell B_gx.out 3).trans rfl; have hr4f_gx_4 := blk_frozen B_gx.out 4; have hr4_gx_4 : w14_.cell? ⟨gx, 4, none⟩ = some (.int .i64 0) := (blk_cell B_gx.out 4).trans rfl; have hr4f_gx_5 := blk_frozen B_gx.out 5; have hr4_gx_5 : w14_.cell? ⟨gx, 5, none⟩ = some (.int .i64 0) := (blk_cell B_gx.out 5).trans rfl; have hr4f_gx_6 := blk_frozen B_gx.out 6; have hr4_gx_6 : w14_.cell? ⟨gx, 6, none⟩ = some (.bool false) := (blk_cell B_gx.out 6).trans rfl; have hr4f_gx_7 := blk_frozen B_gx.out 7; have hr4_gx_7 : w14_.cell? ⟨gx, 7, none⟩ = some (.slice none 0 0) := (blk_cell B_gx.out 7).trans rfl; have hr4f_gx_8 := blk_frozen B_gx.out 8; have hr4_gx_8 : w14_.cell? ⟨gx, 8, none⟩ = some (.int .i64 0) := (blk_cell B_gx.out 8).trans rfl; have hr4f_gx_9 := blk_frozen B_gx.out 9; have hr4_gx_9 : w14_.cell? ⟨gx, 9, none⟩ = some (.int .i64 0) := (blk_cell B_gx.out 9).trans rfl; have hr4f_gx_10 := blk_frozen B_gx.out 10; have hr4_gx_10 : w14_.cell? ⟨gx, 10, none⟩ = some (.int .i64 0) := (blk_cell B_gx.out 10).trans rfl))
    clear hc_gp_0 hc_gp_1 hc_gp_2 hc_gp_3 hc_gp_4 hc_gp_5 hc_gp_6 hc_gp_7 hc_gp_8 hc_gp_9 hc_gp_10 hc_gp_11 hc_gm_0 hc_gm_1 hc_gm_2 hc_gm_3 hc_gm_4 hc_gm_5 hc_gm_6 hc_gm_7 hc_gm_8 hc_gm_9 hc_gm_10 hr4f_gx_0 hr4_gx_0 hr4f_gx_1 hr4_gx_1 hr4f_gx_2 hr4_gx_2 hr4f_gx_3 hr4_gx_3 hr4f_gx_4 hr4_gx_4 hr4f_gx_5 hr4_gx_5 hr4f_gx_6 hr4_gx_6 hr4f_gx_7 hr4_gx_7 hr4f_gx_8 hr4_gx_8 hr4f_gx_9 hr4_gx_9 hr4f_gx_10 hr4_gx_10
    have n0_ : Aside0 ((((((((((((w14_.setCell ⟨gx, 0, none⟩ (.int .i64 x0)).setCell ⟨gx, 1, none⟩ (.int .i64 x1)).setCell ⟨gx, 2, none⟩ (.int .i64 x2)).setCell ⟨gx, 3, none⟩ (.bool x3)).setCell ⟨gx, 4, none⟩ (.int .i64 x4)).setCell ⟨gx, 5, none⟩ (.int .i64 x5)).setCell ⟨gx, 6, none⟩ (.bool x6)).setCell ⟨gx, 7, none⟩ (.slice xA xl.length xc)).setCell ⟨gx, 8, none⟩ (.int .i64 x8)).setCell ⟨gx, 9, none⟩ (.int .i64 x9)).setCell ⟨gx, 10, none⟩ (.int .i64 x10)).heap[gp]? = some (.cells #[.int .i64 p0, .int .i64 p1, .int .i64 p2, .int .i64 p3, .int .i64 p4, .int .i64 p5, .int .i64 p6, .int .i64 p7, .int .i64 p8, .int .i64 p9, .int .i64 p10, .int .i64 p11] 23 (0, 0))) := ⟨blk_far (blk_far (blk_far (blk_far (blk_far (blk_far (blk_far (blk_far (blk_far (blk_far (blk_far (B_gp.out) N_gp_gx.out _) N_gp_gx.out _) N_gp_gx.out _) N_gp_gx.out _) N_gp_gx.out _) N_gp_gx.out _) N_gp_gx.out _) N_gp_gx.out _) N_gp_gx.out _) N_gp_gx.out _) N_gp_gx.out _⟩
    have n1_ : Aside0 ((((((((((((w14_.setCell ⟨gx, 0, none⟩ (.int .i64 x0)).setCell ⟨gx, 1, none⟩ (.int .i64 x1)).setCell ⟨gx, 2, none⟩ (.int .i64 x2)).setCell ⟨gx, 3, none⟩ (.bool x3)).setCell ⟨gx, 4, none⟩ (.int .i64 x4)).setCell ⟨gx, 5, none⟩ (.int .i64 x5)).setCell ⟨gx, 6, none⟩ (.bool x6)).setCell ⟨gx, 7, none⟩ (.slice xA xl.length xc)).setCell ⟨gx, 8, none⟩ (.int .i64 x8)).setCell ⟨gx, 9, none⟩ (.int .i64 x9)).setCell ⟨gx, 10, none⟩ (.int .i64 x10)).heap[gs]? = some (.cells #[.int .i64 s0, .int .i64 s1, .int .i64 s2, .bool s3, .int .i64 s4, .int .i64 s5, .bool s6, .slice sA sl.length sc, .int .i64 s8, .int .i64 s9, .int .i64 s10] 30 (0, 0))) := ⟨blk_far (blk_far (blk_far (blk_far (blk_far (blk_far (blk_far (blk_far (blk_far (blk_far (blk_far (B_gs.out) N_gs_gx.out _) N_gs_gx.out _) N_gs_gx.out _) N_gs_gx.out _) N_gs_gx.out _) N_gs_gx.out _) N_gs_gx.out _) N_gs_gx.out _) N_gs_gx.out _) N_gs_gx.out _) N_gs_gx.out _⟩
    have n2_ : Aside0 ((((((((((((w14_.setCell ⟨gx, 0, none⟩ (.int .i64 x0)).setCell ⟨gx, 1, none⟩ (.int .i64 x1)).setCell ⟨gx, 2, none⟩ (.int .i64 x2)).setCell ⟨gx, 3, none⟩ (.bool x3)).setCell ⟨gx, 4, none⟩ (.int .i64 x4)).setCell ⟨gx, 5, none⟩ (.int .i64 x5)).setCell ⟨gx, 6, none⟩ (.bool x6)).setCell ⟨gx, 7, none⟩ (.slice xA xl.length xc)).setCell ⟨gx, 8, none⟩ (.int .i64 x8)).setCell ⟨gx, 9, none⟩ (.int .i64 x9)).setCell ⟨gx, 10, none⟩ (.int .i64 x10)).heap[gy]? = some (.cells #[.int .i64 y0, .int .i64 y1, .int .i64 y2, .bool y3, .int .i64 y4, .int .i64 y5, .bool y6, .slice yA yl.length yc, .int .i64 y8, .int .i64 y9, .int .i64 y10] 30 (0, 0))) := ⟨blk_far (blk_far (blk_far (blk_far (blk_far (blk_far (blk_far (blk_far (blk_far (blk_far (blk_far (B_gy.out) N_gy_gx.out _) N_gy_gx.out _) N_gy_gx.out _) N_gy_gx.out _) N_gy_gx.out _) N_gy_gx.out _) N_gy_gx.out _) N_gy_gx.out _) N_gy_gx.out _) N_gy_gx.out _) N_gy_gx.out _⟩
    have n3_ : Aside0 ((((((((((((w14_.setCell ⟨gx, 0, none⟩ (.int .i64 x0)).setCell ⟨gx, 1, none⟩ (.int .i64 x1)).setCell ⟨gx, 2, none⟩ (.int .i64 x2)).setCell ⟨gx, 3, none⟩ (.bool x3)).setCell ⟨gx, 4, none⟩ (.int .i64 x4)).setCell ⟨gx, 5, none⟩ (.int .i64 x5)).setCell ⟨gx, 6, none⟩ (.bool x6)).setCell ⟨gx, 7, none⟩ (.slice xA xl.length xc)).setCell ⟨gx, 8, none⟩ (.int .i64 x8)).setCell ⟨gx, 9, none⟩ (.int .i64 x9)).setCell ⟨gx, 10, none⟩ (.int .i64 x10)).heap[gm]? = some (.cells #[.int .i64 y0, .int .i64 y1, .int .i64 y2, .bool y3, .int .i64 y4, .int .i64 y5, .bool y6, .slice tA yl.length tc, .int .i64 y8, .int .i64 y9, .int .i64 y10] 30 (0, 0))) := ⟨blk_far (blk_far (blk_far (blk_far (blk_far (blk_far (blk_far (blk_far (blk_far (blk_far (blk_far (B_gm.out) N_gm_gx.out _) N_gm_gx.out _) N_gm_gx.out _) N_gm_gx.out _) N_gm_gx.out _) N_gm_gx.out _) N_gm_gx.out _) N_gm_gx.out _) N_gm_gx.out _) N_gm_gx.out _) N_gm_gx.out _⟩
    have n4_ : Aside0 ((((((((((((w14_.setCell ⟨gx, 0, none⟩ (.int .i64 x0)).setCell ⟨gx, 1, none⟩ (.int .i64 x1)).setCell ⟨gx, 2, none⟩ (.int .i64 x2)).setCell ⟨gx, 3, none⟩ (.bool x3)).setCell ⟨gx, 4, none⟩ (.int .i64 x4)).setCell ⟨gx, 5, none⟩ (.int .i64 x5)).setCell ⟨gx, 6, none⟩ (.bool x6)).setCell ⟨gx, 7, none⟩ (.slice xA xl.length xc)).setCell ⟨gx, 8, none⟩ (.int .i64 x8)).setCell ⟨gx, 9, none⟩ (.int .i64 x9)).setCell ⟨gx, 10, none⟩ (.int .i64 x10)).heap[gf]? = some (.cells #[.int .i64 p0, .int .i64 p1, .int .i64 p2, .int .i64 p3, .int .i64 p4, .int .i64 p5, .int .i64 p6, .int .i64 p7, .int .i64 p8, .int .i64 p9, .int .i64 p10, .int .i64 p11, .int .i64 r0, .int .i64 r1, .int .i64 r2, .bool r3, .int .i64 r4, .int .i64 r5, .bool r6, .slice mA ml.length mc, .int .i64 r8, .int .i64 r9, .int .i64 r10] 39 (0, 0))) := ⟨blk_far (blk_far (blk_far (blk_far (blk_far (blk_far (blk_far (blk_far (blk_far (blk_far (blk_far (B_gf.out) N_gf_gx.out _) N_gf_gx.out _) N_gf_gx.out _) N_gf_gx.out _) N_gf_gx.out _) N_gf_gx.out _) N_gf_gx.out _) N_gf_gx.out _) N_gf_gx.out _) N_gf_gx.out _) N_gf_gx.out _⟩
    have n5_ : Aside0 ((((((((((((w14_.setCell ⟨gx, 0, none⟩ (.int .i64 x0)).setCell ⟨gx, 1, none⟩ (.int .i64 x1)).setCell ⟨gx, 2, none⟩ (.int .i64 x2)).setCell ⟨gx, 3, none⟩ (.bool x3)).setCell ⟨gx, 4, none⟩ (.int .i64 x4)).setCell ⟨gx, 5, none⟩ (.int .i64 x5)).setCell ⟨gx, 6, none⟩ (.bool x6)).setCell ⟨gx, 7, none⟩ (.slice xA xl.length xc)).setCell ⟨gx, 8, none⟩ (.int .i64 x8)).setCell ⟨gx, 9, none⟩ (.int .i64 x9)).setCell ⟨gx, 10, none⟩ (.int .i64 x10)).heap[gx]? = some (.cells #[.int .i64 x0, .int .i64 x1, .int .i64 x2, .bool x3, .int .i64 x4, .int .i64 x5, .bool x6, .slice xA xl.length xc, .int .i64 x8, .int .i64 x9, .int .i64 x10] 30 (0, 0))) := ⟨by have h_ := blk_set (blk_set (blk_set (blk_set (blk_set (blk_set (blk_set (blk_set (blk_set (blk_set (blk_set (B_gx.out) 0 (.int .i64 x0)) 1 (.int .i64 x1)) 2 (.int .i64 x2)) 3 (.bool x3)) 4 (.int .i64 x4)) 5 (.int .i64 x5)) 6 (.bool x6)) 7 (.slice xA xl.length xc)) 8 (.int .i64 x8)) 9 (.int .i64 x9)) 10 (.int .i64 x10); simp only [List.setIfInBounds_toArray, List.set_cons_zero, List.set_cons_succ] at h_; exact h_⟩
    have n6_ : Aside0 (Kd.R k42 42 (((((((((((w14_.setCell ⟨gx, 0, none⟩ (.int .i64 x0)).setCell ⟨gx, 1, none⟩ (.int .i64 x1)).setCell ⟨gx, 2, none⟩ (.int .i64 x2)).setCell ⟨gx, 3, none⟩ (.bool x3)).setCell ⟨gx, 4, none⟩ (.int .i64 x4)).setCell ⟨gx, 5, none⟩ (.int .i64 x5)).setCell ⟨gx, 6, none⟩ (.bool x6)).setCell ⟨gx, 7, none⟩ (.slice xA xl.length xc)).setCell ⟨gx, 8, none⟩ (.int .i64 x8)).setCell ⟨gx, 9, none⟩ (.int .i64 x9)).setCell ⟨gx, 10, none⟩ (.int .i64 x10)) w10_.heap.size (fun k_ => some k_ = ((.slice mA ml.length mc) : Value).ownBlock) (.slice mA ml.length mc) ml) := ⟨Kd.R_far (Kd.R_far (Kd.R_far (Kd.R_far (Kd.R_far (Kd.R_far (Kd.R_far (Kd.R_far (Kd.R_far (Kd.R_far (Kd.R_far (R_m.out) (hx.away R_m.out B_gx.out (by decide)) _) (hx.away R_m.out B_gx.out (by decide)) _) (hx.away R_m.out B_gx.out (by decide)) _) (hx.away R_m.out B_gx.out (by decide)) _) (hx.away R_m.out B_gx.out (by decide)) _) (hx.away R_m.out B_gx.out (by decide)) _) (hx.away R_m.out B_gx.out (by decide)) _) (hx.away R_m.out B_gx.out (by decide)) _) (hx.away R_m.out B_gx.out (by decide)) _) (hx.away R_m.out B_gx.out (by decide)) _) (hx.away R_m.out B_gx.out (by decide)) _⟩
    have n7_ : Aside0 (Kd.R k42 42 (((((((((((w14_.setCell ⟨gx, 0, none⟩ (.int .i64 x0)).setCell ⟨gx, 1, none⟩ (.int .i64 x1)).setCell ⟨gx, 2, none⟩ (.int .i64 x2)).setCell ⟨gx, 3, none⟩ (.bool x3)).setCell ⟨gx, 4, none⟩ (.int .i64 x4)).setCell ⟨gx, 5, none⟩ (.int .i64 x5)).setCell ⟨gx, 6, none⟩ (.bool x6)).setCell ⟨gx, 7, none⟩ (.slice xA xl.length xc)).setCell ⟨gx, 8, none⟩ (.int .i64 x8)).setCell ⟨gx, 9, none⟩ (.int .i64 x9)).setCell ⟨gx, 10, none⟩ (.int .i64 x10)) w10_.heap.size (fun k_ => some k_ = ((.slice xA xl.length xc) : Value).ownBlock) (.slice xA xl.length xc) xl) := ⟨Kd.R_far (Kd.R_far (Kd.R_far (Kd.R_far (Kd.R_far (Kd.R_far (Kd.R_far (Kd.R_far (Kd.R_far (Kd.R_far (Kd.R_far (R_x.out) (hx.away R_x.out B_gx.out (by decide)) _) (hx.away R_x.out B_gx.out (by decide)) _) (hx.away R_x.out B_gx.out (by decide)) _) (hx.away R_x.out B_gx.out (by decide)) _) (hx.away R_x.out B_gx.out (by decide)) _) (hx.away R_x.out B_gx.out (by decide)) _) (hx.away R_x.out B_gx.out (by decide)) _) (hx.away R_x.out B_gx.out (by decide)) _) (hx.away R_x.out B_gx.out (by decide)) _) (hx.away R_x.out B_gx.out (by decide)) _) (hx.away R_x.out B_gx.out (by decide)) _⟩
    have n8_ : Aside0 (Below w10_.heap.size w10_ (((((((((((w14_.setCell ⟨gx, 0, none⟩ (.int .i64 x0)).setCell ⟨gx, 1, none⟩ (.int .i64 x1)).setCell ⟨gx, 2, none⟩ (.int .i64 x2)).setCell ⟨gx, 3, none⟩ (.bool x3)).setCell ⟨gx, 4, none⟩ (.int .i64 x4)).setCell ⟨gx, 5, none⟩ (.int .i64 x5)).setCell ⟨gx, 6, none⟩ (.bool x6)).setCell ⟨gx, 7, none⟩ (.slice xA xl.length xc)).setCell ⟨gx, 8, none⟩ (.int .i64 x8)).setCell ⟨gx, 9, none⟩ (.int .i64 x9)).setCell ⟨gx, 10, none⟩ (.int .i64 x10))) := ⟨below_set (below_set (below_set (below_set (below_set (below_set (below_set (below_set (below_set (below_set (below_set (HB.out) E_gx.out) E_gx.out) E_gx.out) E_gx.out) E_gx.out) E_gx.out) E_gx.out) E_gx.out) E_gx.out) E_gx.out) E_gx.out⟩
    clear B_gp B_gs B_gy B_gm B_gf B_gx R_m R_x HB
    have B_gp := n0_
    have B_gs := n1_
    have B_gy := n2_
    have B_gm := n3_
    have B_gf := n4_
    have B_gx := n5_
    have R_m := n6_
    have R_x := n7_
    have HB := n8_
    clear n0_ n1_ n2_ n3_ n4_ n5_ n6_ n7_ n8_
    generalize (((((((((((w14_.setCell ⟨gx, 0, none⟩ (.int .i64 x0)).setCell ⟨gx, 1, none⟩ (.int .i64 x1)).setCell ⟨gx, 2, none⟩ (.int .i64 x2)).setCell ⟨gx, 3, none⟩ (.bool x3)).setCell ⟨gx, 4, none⟩ (.int .i64 x4)).setCell ⟨gx, 5, none⟩ (.int .i64 x5)).setCell ⟨gx, 6, none⟩ (.bool x6)).setCell ⟨gx, 7, none⟩ (.slice xA xl.length xc)).setCell ⟨gx, 8, none⟩ (.int .i64 x8)).setCell ⟨gx, 9, none⟩ (.int .i64 x9)).setCell ⟨gx, 10, none⟩ (.int .i64 x10)) = w15_ at B_gp B_gs B_gy B_gm B_gf B_gx R_m R_x HB ⊢
    clear B_gp B_gs
    have hc_gf_19 : w15_.cell? ⟨gf, 19, none⟩ = some (.slice mA ml.length mc) := (blk_cell B_gf.out 19).trans rfl
    go_wp2_with (fail)
    clear hc_gf_19
    go_loopg [39] ml.length (fun kq v39 w' => ∃ (i : Nat) (l : List S42), v39 = .int .i64 (i : Int) ∧ Aside0 (i + kq = ml.length) ∧ Aside0 (l.length = ml.length) ∧ Aside0 (w'.heap[gy]? = some (.cells #[.int .i64 y0, .int .i64 y1, .int .i64 y2, .bool y3, .int .i64 y4, .int .i64 y5, .bool y6, .slice yA yl.length yc, .int .i64 y8, .int .i64 y9, .int .i64 y10] 30 (0, 0))) ∧ Aside0 (w'.heap[gm]? = some (.cells #[.int .i64 y0, .int .i64 y1, .int .i64 y2, .bool y3, .int .i64 y4, .int .i64 y5, .bool y6, .slice tA yl.length tc, .int .i64 y8, .int .i64 y9, .int .i64 y10] 30 (0, 0))) ∧ Aside0 (w'.heap[gf]? = some (.cells #[.int .i64 p0, .int .i64 p1, .int .i64 p2, .int .i64 p3, .int .i64 p4, .int .i64 p5, .int .i64 p6, .int .i64 p7, .int .i64 p8, .int .i64 p9, .int .i64 p10, .int .i64 p11, .int .i64 r0, .int .i64 r1, .int .i64 r2, .bool r3, .int .i64 r4, .int .i64 r5, .bool r6, .slice mA ml.length mc, .int .i64 r8, .int .i64 r9, .int .i64 r10] 39 (0, 0))) ∧ Aside0 (w'.heap[gx]? = some (.cells #[.int .i64 x0, .int .i64 x1, .int .i64 x2, .bool x3, .int .i64 x4, .int .i64 x5, .bool x6, .slice xA xl.length xc, .int .i64 x8, .int .i64 x9, .int .i64 x10] 30 (0, 0))) ∧ Aside0 (Kd.R k42 42 w' w10_.heap.size (fun k_ => some k_ = ((.slice mA ml.length mc) : Value).ownBlock) (.slice mA ml.length mc) l) ∧ Aside0 (Kd.R k42 42 w' w10_.heap.size (fun k_ => some k_ = ((.slice xA xl.length xc) : Value).ownBlock) (.slice xA xl.length xc) xl) ∧ Aside0 (Below w10_.heap.size w10_ w'))
    case atStart => exact ⟨0, ml, rfl, ⟨by omega⟩, ⟨rfl⟩, ⟨B_gy.out⟩, ⟨B_gm.out⟩, ⟨B_gf.out⟩, ⟨B_gx.out⟩, ⟨R_m.out⟩, ⟨R_x.out⟩, ⟨HB.out⟩⟩
    case round =>
     clear B_gy B_gm B_gf B_gx R_m R_x HB
     obtain ⟨i, l, rfl, HN, HL, B_gy, B_gm, B_gf, B_gx, R_m, R_x, HB⟩ := hrel
     by_cases hlt : (i : Int) < (ml.length : Int)
     ·obtain ⟨q, hq⟩ := hx.head R_m.out (by have := HL.out; omega)
      have hc_gf_19 : wr.cell? ⟨gf, 19, none⟩ = some (.slice mA ml.length mc) := (blk_cell B_gf.out 19).trans rfl
      subst hq
      obtain ⟨hc0, hc1, hf0, hf1⟩ := hx.elem R_m.out i (by omega)
      go_wp2
      have hE : w10_.heap.size ≤ q := ((Kd.R_bound R_m.out).1 q rfl).2.1
      have hN_gy : gy ≠ q := fun e => Kd.R_ne R_m.out B_gy.out (by decide) (by rw [e]; rfl)
      have hN_gm : gm ≠ q := fun e => Kd.R_ne R_m.out B_gm.out (by decide) (by rw [e]; rfl)
      have hN_gf : gf ≠ q := fun e => Kd.R_ne R_m.out B_gf.out (by decide) (by rw [e]; rfl)
      have hN_gx : gx ≠ q := fun e => Kd.R_ne R_m.out B_gx.out (by decide) (by rw [e]; rfl)
      have hD : ∀ k_, some k_ = (.slice xA xl.length xc : Value).ownBlock → k_ ≠ q := fun k_ hk e => D_xm.out k_ hk (by rw [e]; rfl)
      go_roundg (gk - 1)
      case measure => have := HN.out; omega
      case rel => exact ⟨i + 1, l.set i ⟨77, 0⟩, by go_num, ⟨by have := HN.out; omega⟩, ⟨by rw [List.length_set]; exact HL.out⟩, ⟨blk_far (blk_far B_gy.out hN_gy _) hN_gy _⟩, ⟨blk_far (blk_far B_gm.out hN_gm _) hN_gm _⟩, ⟨blk_far (blk_far B_gf.out hN_gf _) hN_gf _⟩, ⟨blk_far (blk_far B_gx.out hN_gx _) hN_gx _⟩, ⟨hx.store R_m.out i (by omega) 77 0⟩, ⟨Kd.R_far (Kd.R_far R_x.out hD _) hD _⟩, ⟨below_set (below_set HB.out hE) hE⟩⟩
     ·skip
      clear R_m D_xm
      go_upto_region 15 with (fail)
      have hc_gx_7 : wr.cell? ⟨gx, 7, none⟩ = some (.slice xA xl.length xc) := (blk_cell B_gx.out 7).trans rfl
      go_wp2_with (fail)
      clear hc_gx_7
      go_loopg [54] xl.length (fun kq v54 w' => ∃ (i : Nat) (l : List S42), v54 = .int .i64 (i : Int) ∧ Aside0 (i + kq = xl.length) ∧ Aside0 (l.length = xl.length) ∧ Aside0 (w'.heap[gy]? = some (.cells #[.int .i64 y0, .int .i64 y1, .int .i64 y2, .bool y3, .int .i64 y4, .int .i64 y5, .bool y6, .slice yA yl.length yc, .int .i64 y8, .int .i64 y9, .int .i64 y10] 30 (0, 0))) ∧ Aside0 (w'.heap[gm]? = some (.cells #[.int .i64 y0, .int .i64 y1, .int .i64 y2, .bool y3, .int .i64 y4, .int .i64 y5, .bool y6, .slice tA yl.length tc, .int .i64 y8, .int .i64 y9, .int .i64 y10] 30 (0, 0))) ∧ Aside0 (w'.heap[gf]? = some (.cells #[.int .i64 p0, .int .i64 p1, .int .i64 p2, .int .i64 p3, .int .i64 p4, .int .i64 p5, .int .i64 p6, .int .i64 p7, .int .i64 p8, .int .i64 p9, .int .i64 p10, .int .i64 p11, .int .i64 r0, .int .i64 r1, .int .i64 r2, .bool r3, .int .i64 r4, .int .i64 r5, .bool r6, .slice mA ml.length mc, .int .i64 r8, .int .i64 r9, .int .i64 r10] 39 (0, 0))) ∧ Aside0 (w'.heap[gx]? = some (.cells #[.int .i64 x0, .int .i64 x1, .int .i64 x2, .bool x3, .int .i64 x4, .int .i64 x5, .bool x6, .slice xA xl.length xc, .int .i64 x8, .int .i64 x9, .int .i64 x10] 30 (0, 0))) ∧ Aside0 (Kd.R k42 42 w' w10_.heap.size (fun k_ => some k_ = ((.slice xA xl.length xc) : Value).ownBlock) (.slice xA xl.length xc) l) ∧ Aside0 (Below w10_.heap.size w10_ w'))
      case atStart => exact ⟨0, xl, rfl, ⟨by omega⟩, ⟨rfl⟩, ⟨B_gy.out⟩, ⟨B_gm.out⟩, ⟨B_gf.out⟩, ⟨B_gx.out⟩, ⟨R_x.out⟩, ⟨HB.out⟩⟩
      case round =>
       clear B_gy B_gm B_gf B_gx R_x HB
       obtain ⟨i, l, rfl, HN, HL, B_gy, B_gm, B_gf, B_gx, R_x, HB⟩ := hrel
       by_cases hlt : (i : Int) < (xl.length : Int)
       ·obtain ⟨q, hq⟩ := hx.head R_x.out (by have := HL.out; omega)
        have hc_gx_7 : wr.cell? ⟨gx, 7, none⟩ = some (.slice xA xl.length xc) := (blk_cell B_gx.out 7).trans rfl
        subst hq
        obtain ⟨hc0, hc1, hf0, hf1⟩ := hx.elem R_x.out i (by omega)
        go_wp2
        have hE : w10_.heap.size ≤ q := ((Kd.R_bound R_x.out).1 q rfl).2.1
        have hN_gy : gy ≠ q := fun e => Kd.R_ne R_x.out B_gy.out (by decide) (by rw [e]; rfl)
        have hN_gm : gm ≠ q := fun e => Kd.R_ne R_x.out B_gm.out (by decide) (by rw [e]; rfl)
        have hN_gf : gf ≠ q := fun e => Kd.R_ne R_x.out B_gf.out (by decide) (by rw [e]; rfl)
        have hN_gx : gx ≠ q := fun e => Kd.R_ne R_x.out B_gx.out (by decide) (by rw [e]; rfl)
        go_roundg (gk - 1)
        case measure => have := HN.out; omega
        case rel => exact ⟨i + 1, l.set i ⟨78, 0⟩, by go_num, ⟨by have := HN.out; omega⟩, ⟨by rw [List.length_set]; exact HL.out⟩, ⟨blk_far (blk_far B_gy.out hN_gy _) hN_gy _⟩, ⟨blk_far (blk_far B_gm.out hN_gm _) hN_gm _⟩, ⟨blk_far (blk_far B_gf.out hN_gf _) hN_gf _⟩, ⟨blk_far (blk_far B_gx.out hN_gx _) hN_gx _⟩, ⟨hx.store R_x.out i (by omega) 78 0⟩, ⟨below_set (below_set HB.out hE) hE⟩⟩
       ·skip
        clear R_x
        go_upto_region 20 with (fail)
        have hc_gm_7 : wr.cell? ⟨gm, 7, none⟩ = some (.slice tA yl.length tc) := (blk_cell B_gm.out 7).trans rfl
        have hc_gy_7 : wr.cell? ⟨gy, 7, none⟩ = some (.slice yA yl.length yc) := (blk_cell B_gy.out 7).trans rfl
        go_wp2_with ((go_at_call 18; (with_reducible refine (clepsydraref06_Tables.calls k tA tc yl yA yc yl true _ (Kd.C_below HRm.out HB.out) HCm.out (Kd.C_below HRy.out HB.out) HCy.out HTB.out).mono ?_); rintro e w16_ ⟨rfl, hd_⟩; have hb := hd_.below; clear hd_; have n0_ := Aside0.mk (blk_below B_gy.out hb); have n1_ := Aside0.mk (blk_below B_gm.out hb); have n2_ := Aside0.mk (blk_below B_gf.out hb); have n3_ := Aside0.mk (blk_below B_gx.out hb); have n4_ := Aside0.mk (below_step HB.out hb); clear B_gy B_gm B_gf B_gx HB; have B_gy := n0_; have B_gm := n1_; have B_gf := n2_; have B_gx := n3_; have HB := n4_; clear n0_ n1_ n2_ n3_ n4_; clear hb))
        clear hc_gm_7 hc_gy_7
        go_ret
        exact ⟨rfl, below_step HB0.out HB.out⟩

end Go.Proofs.Ytigkjbaclpklpaa.Q
