/- The calls of these Go functions answer what the Lean functions beside them answer; written by a program (wip/pr2.py, out of the print of the loaded program); under no condition but those that stand in the theorems. -/
import Derived.Test.YtigkjbaclpklpaaDoorQx0
import Derived.Test.YtigkjbaclpklpaaDoorQx4
import Derived.Test.YtigkjbaclpklpaaDoorQx5
import Derived.Test.YtigkjbaclpklpaaDoorQx12
namespace Go.Proofs.YtigkjbaclpklpaaDoor.Q
open Go.RowKit Go.Proofs.YtigkjbaclpklpaaDoorW.PrintWords Go.Proofs.YtigkjbaclpklpaaDoorW.PrintLast Go.Proofs.YtigkjbaclpklpaaDoorW.PrintMore
attribute [local go_sem] max2_int min2_int max_two min_two max_three min_three max_four min_four   -- for this text's walks alone
set_option linter.unusedVariables false
set_option linter.unusedSimpArgs false

/-! health.Sane, by hand -/
attribute [local go_sem] hx.fl
def health_Sane.f (k : Nat) (p0 p1 p2 p3 p4 p5 p6 p7 p8 p9 p10 p11 : Int) (s0 s1 s2 : Int) (s3 : Bool) (s4 s5 : Int) (s6 : Bool) (sl : List S82) (s8 s9 s10 : Int) : Option (Int × Int × Int × Bool × Int × Int × Bool × List S82 × Int × Int × Int) := (span_Of.f k s0 s1).bind fun ab => (span_Empty.f ab.1 ab.2).bind fun em => (sat_Clip.f k s2).bind fun tm => (sat_Bound.f k s4 0 1073741824).bind fun he => (sat_Add.f k [p2, 1]).bind fun aa => (sat_Bound.f k s5 0 aa).bind fun ho => (sat_Bound.f k s10 0 2305843009213693952).bind fun li => (slices_Clone.f sl).bind fun tb => (leap_Good.f k tb).bind fun go => (hlc_Right.f s8 s9).bind fun ri => some (if em = true then (-2305843009213693952) else ab.1, if em = true then 2305843009213693952 else ab.2, tm, s3, he, ho, if em = true then false else s6, if go = true then tb else ([] : List S82), if ri = true then s8 else tm, if ri = true then s9 else 0, li)
theorem health_Sane.mono : ∀ p0 p1 p2 p3 p4 p5 p6 p7 p8 p9 p10 p11 s0 s1 s2 s3 s4 s5 s6 sl s8 s9 s10 k, LeO (health_Sane.f k p0 p1 p2 p3 p4 p5 p6 p7 p8 p9 p10 p11 s0 s1 s2 s3 s4 s5 s6 sl s8 s9 s10) (health_Sane.f (k + 1) p0 p1 p2 p3 p4 p5 p6 p7 p8 p9 p10 p11 s0 s1 s2 s3 s4 s5 s6 sl s8 s9 s10) := by
 intro p0 p1 p2 p3 p4 p5 p6 p7 p8 p9 p10 p11 s0 s1 s2 s3 s4 s5 s6 sl s8 s9 s10 k
 unfold health_Sane.f
 repeat' first
  | with_reducible exact LeO.refl _
  | with_reducible exact sat_Bound.mono _ _ _ _
  | with_reducible exact sat_Add.mono _ _
  | with_reducible exact leap_Good.mono _ _
  | with_reducible exact span_Of.mono _ _ _
  | with_reducible exact sat_Clip.mono _ _
  | with_reducible refine LeO.bind ?_ (fun _ => ?_)
set_option maxHeartbeats 8000000 in
set_option maxRecDepth 100000 in
theorem health_Sane.calls (k : Nat) (p0 p1 p2 p3 p4 p5 p6 p7 p8 p9 p10 p11 : Int) (s0 s1 s2 : Int) (s3 : Bool) (s4 s5 : Int) (s6 : Bool) (sA : Option Addr) (sc : Nat) (sl : List S82) (s8 s9 s10 : Int) (r1 r2 r3 : Int) (r4 : Bool) (r5 r6 : Int) (r7 : Bool) (r8 : List S82) (r9 r10 r11 : Int) (w : World) (hrs : Kd.C k82 w sA sl.length sl) (hcs : sl.length ≤ sc) (h : health_Sane.f k p0 p1 p2 p3 p4 p5 p6 p7 p8 p9 p10 p11 s0 s1 s2 s3 s4 s5 s6 sl s8 s9 s10 = some (r1, r2, r3, r4, r5, r6, r7, r8, r9, r10, r11)) :
  Calls Tryd.prog 37 #[.agg #[.int .i64 p0, .int .i64 p1, .int .i64 p2, .int .i64 p3, .int .i64 p4, .int .i64 p5, .int .i64 p6, .int .i64 p7, .int .i64 p8, .int .i64 p9, .int .i64 p10, .int .i64 p11], .agg #[.int .i64 s0, .int .i64 s1, .int .i64 s2, .bool s3, .int .i64 s4, .int .i64 s5, .bool s6, .slice sA sl.length sc, .int .i64 s8, .int .i64 s9, .int .i64 s10]] w fun e w' => ∃ v7_ : Value, e = .returned (.agg #[.int .i64 r1, .int .i64 r2, .int .i64 r3, .bool r4, .int .i64 r5, .int .i64 r6, .bool r7, v7_, .int .i64 r9, .int .i64 r10, .int .i64 r11]) ∧ Kd.R k82 82 w' w.heap.size (fun _ => True) v7_ r8 ∧ Below w.heap.size w w' := by
 obtain ⟨⟨a, b⟩, hof, h⟩ := Option.bind_eq_some_iff.mp h
 obtain ⟨em, hem, h⟩ := Option.bind_eq_some_iff.mp h
 obtain ⟨tm, htm, h⟩ := Option.bind_eq_some_iff.mp h
 obtain ⟨he, hhe, h⟩ := Option.bind_eq_some_iff.mp h
 obtain ⟨aa, haa, h⟩ := Option.bind_eq_some_iff.mp h
 obtain ⟨ho, hho, h⟩ := Option.bind_eq_some_iff.mp h
 obtain ⟨li, hli, h⟩ := Option.bind_eq_some_iff.mp h
 obtain ⟨tb, htb, h⟩ := Option.bind_eq_some_iff.mp h
 obtain ⟨go, hgo, h⟩ := Option.bind_eq_some_iff.mp h
 obtain ⟨ri, hri, h⟩ := Option.bind_eq_some_iff.mp h
 simp only [Option.some.injEq, Prod.mk.injEq] at h
 obtain ⟨e1, e2, rfl, rfl, rfl, rfl, e7, e8, e9, e10, rfl⟩ := h
 have htl : tb = sl := by
  unfold slices_Clone.f at htb
  split at htb
  ·exact (Option.some.inj htb).symm
  ·cases htb
 subst htl
 have HRs := Aside0.mk hrs
 have HCs := Aside0.mk hcs
 have HOF := Aside0.mk hof
 have HEM := Aside0.mk hem
 have HTB := Aside0.mk htb
 have HTM := Aside0.mk htm
 have HHE := Aside0.mk hhe
 have HAA := Aside0.mk haa
 have HHO := Aside0.mk hho
 have HLI := Aside0.mk hli
 have HGO := Aside0.mk hgo
 have HRI := Aside0.mk hri
 have E1 := Aside0.mk e1
 have E2 := Aside0.mk e2
 have E7 := Aside0.mk e7
 have E8 := Aside0.mk e8
 have E9 := Aside0.mk e9
 have E10 := Aside0.mk e10
 clear hrs hcs hof hem htb htm hhe haa hho hli hgo hri e1 e2 e7 e8 e9 e10
 have HB := Aside0.mk (Below.refl w.heap.size w)
 go_enter Tryd.func37, Tryd.ntmps37
 go_upto_region 1 with (first | ((with_reducible refine gate_dst (N := 2) rfl ?_); refine bx 2 #[.int .i64 p0, .int .i64 p1, .int .i64 p2, .int .i64 p3, .int .i64 p4, .int .i64 p5, .int .i64 p6, .int .i64 p7, .int .i64 p8, .int .i64 p9, .int .i64 p10, .int .i64 p11] 23 ?_; intro qp hg w1_ hbox hb; have E_qp : Aside0 (w.heap.size ≤ qp) := ⟨by rw [hg]; exact below_size HB.1⟩; replace HB := Aside0.mk (below_step HB.1 hb); have B_qp := Aside0.mk hbox; clear hb hbox hg) | ((with_reducible refine gate_dst (N := 3) rfl ?_); refine bx 3 #[.int .i64 s0, .int .i64 s1, .int .i64 s2, .bool s3, .int .i64 s4, .int .i64 s5, .bool s6, .slice sA tb.length sc, .int .i64 s8, .int .i64 s9, .int .i64 s10] 30 ?_; intro qs hg w2_ hbox hb; have N_qp_qs := nl hg B_qp.1; have N_qs_qp := ng hg B_qp.1; have E_qs : Aside0 (w.heap.size ≤ qs) := ⟨by rw [hg]; exact below_size HB.1⟩; replace B_qp := bb hb B_qp.1; replace HB := Aside0.mk (below_step HB.1 hb); have B_qs := Aside0.mk hbox; clear hb hbox hg) | ((with_reducible refine gate_dst (N := 4) rfl ?_); refine bx 4 #[.int .i64 0, .int .i64 0, .int .i64 0, .bool false, .int .i64 0, .int .i64 0, .bool false, .slice none 0 0, .int .i64 0, .int .i64 0, .int .i64 0] 30 ?_; intro qr hg w3_ hbox hb; have N_qp_qr := nl hg B_qp.1; have N_qs_qr := nl hg B_qs.1; have N_qr_qp := ng hg B_qp.1; have N_qr_qs := ng hg B_qs.1; have E_qr : Aside0 (w.heap.size ≤ qr) := ⟨by rw [hg]; exact below_size HB.1⟩; replace B_qp := bb hb B_qp.1; replace B_qs := bb hb B_qs.1; replace HB := Aside0.mk (below_step HB.1 hb); have B_qr := Aside0.mk hbox; clear hb hbox hg))
 obtain ⟨hc_qs_0, hc_qs_1⟩ := cc2 B_qs.1
 go_upto_region 2 with ((go_at_call 57; (with_reducible refine (span_Of.calls k s0 s1 a b _ HOF.1).mono ?_); rintro e w4_ ⟨rfl, hb⟩; replace B_qp := bb hb B_qp.1; replace B_qs := bb hb B_qs.1; replace B_qr := bb hb B_qr.1; replace HB := Aside0.mk (below_step HB.1 hb); clear hb; have hr1f_qs_0 := blk_frozen B_qs.1 0; have hr1_qs_0 : w4_.cell? ⟨qs, 0, none⟩ = some (.int .i64 s0) := (blk_cell B_qs.1 0).trans rfl; have hr1f_qs_1 := blk_frozen B_qs.1 1; have hr1_qs_1 : w4_.cell? ⟨qs, 1, none⟩ = some (.int .i64 s1) := (blk_cell B_qs.1 1).trans rfl))
 clear hc_qs_0 hc_qs_1 hr1f_qs_0 hr1_qs_0 hr1f_qs_1 hr1_qs_1
 have n0_ : Aside0 (((w4_.setCell ⟨qs, 0, none⟩ (.int .i64 a)).setCell ⟨qs, 1, none⟩ (.int .i64 b)).heap[qp]? = some (.cells #[.int .i64 p0, .int .i64 p1, .int .i64 p2, .int .i64 p3, .int .i64 p4, .int .i64 p5, .int .i64 p6, .int .i64 p7, .int .i64 p8, .int .i64 p9, .int .i64 p10, .int .i64 p11] 23 (0, 0))) := ⟨blk_far (blk_far (B_qp.1) N_qp_qs.1 _) N_qp_qs.1 _⟩
 have n1_ : Aside0 (((w4_.setCell ⟨qs, 0, none⟩ (.int .i64 a)).setCell ⟨qs, 1, none⟩ (.int .i64 b)).heap[qs]? = some (.cells #[.int .i64 a, .int .i64 b, .int .i64 s2, .bool s3, .int .i64 s4, .int .i64 s5, .bool s6, .slice sA tb.length sc, .int .i64 s8, .int .i64 s9, .int .i64 s10] 30 (0, 0))) := ⟨by have h_ := blk_set (blk_set (B_qs.1) 0 (.int .i64 a)) 1 (.int .i64 b); simp only [zA, zB, zC] at h_; exact h_⟩
 have n2_ : Aside0 (((w4_.setCell ⟨qs, 0, none⟩ (.int .i64 a)).setCell ⟨qs, 1, none⟩ (.int .i64 b)).heap[qr]? = some (.cells #[.int .i64 0, .int .i64 0, .int .i64 0, .bool false, .int .i64 0, .int .i64 0, .bool false, .slice none 0 0, .int .i64 0, .int .i64 0, .int .i64 0] 30 (0, 0))) := ⟨blk_far (blk_far (B_qr.1) N_qr_qs.1 _) N_qr_qs.1 _⟩
 have n3_ : Aside0 (Below w.heap.size w ((w4_.setCell ⟨qs, 0, none⟩ (.int .i64 a)).setCell ⟨qs, 1, none⟩ (.int .i64 b))) := ⟨below_set (below_set (HB.1) E_qs.1) E_qs.1⟩
 clear B_qp B_qs B_qr HB
 have B_qp := n0_
 have B_qs := n1_
 have B_qr := n2_
 have HB := n3_
 clear n0_ n1_ n2_ n3_
 generalize ((w4_.setCell ⟨qs, 0, none⟩ (.int .i64 a)).setCell ⟨qs, 1, none⟩ (.int .i64 b)) = w5_ at B_qp B_qs B_qr HB ⊢
 obtain ⟨hc_qs_0, hc_qs_1⟩ := cc2 B_qs.1
 go_upto_if 15 with ((go_at_call 58; (with_reducible refine (span_Empty.calls a b em _ HEM.1).mono ?_); rintro e w6_ ⟨rfl, hb⟩; replace B_qp := bb hb B_qp.1; replace B_qs := bb hb B_qs.1; replace B_qr := bb hb B_qr.1; replace HB := Aside0.mk (below_step HB.1 hb); clear hb))
 clear hc_qs_0 hc_qs_1
 go_cut [] (fun wc => True ∧ Aside0 (wc.heap[qp]? = some (.cells #[.int .i64 p0, .int .i64 p1, .int .i64 p2, .int .i64 p3, .int .i64 p4, .int .i64 p5, .int .i64 p6, .int .i64 p7, .int .i64 p8, .int .i64 p9, .int .i64 p10, .int .i64 p11] 23 (0, 0))) ∧ Aside0 (wc.heap[qs]? = some (.cells #[.int .i64 r1, .int .i64 r2, .int .i64 s2, .bool s3, .int .i64 s4, .int .i64 s5, .bool r7, .slice sA tb.length sc, .int .i64 s8, .int .i64 s9, .int .i64 s10] 30 (0, 0))) ∧ Aside0 (wc.heap[qr]? = some (.cells #[.int .i64 0, .int .i64 0, .int .i64 0, .bool false, .int .i64 0, .int .i64 0, .bool false, .slice none 0 0, .int .i64 0, .int .i64 0, .int .i64 0] 30 (0, 0))) ∧ Aside0 (Below w.heap.size w wc))
 case first =>
  cases em
  ·have x1 := E1.1
   have x2 := E2.1
   have x7 := E7.1
   simp only [if_false, Bool.false_eq_true] at x1 x2 x7
   subst x1
   subst x2
   subst x7
   go_wp2_with (fail)
   go_meet
   case rel => exact ⟨trivial, B_qp, B_qs, B_qr, HB⟩
  ·have x1 := E1.1
   have x2 := E2.1
   have x7 := E7.1
   simp only [if_true] at x1 x2 x7
   subst x1
   subst x2
   subst x7
   go_wp2_with ((go_at_call 59; (with_reducible refine (span_All.calls _ _ _ rfl).mono ?_); rintro e w7_ ⟨rfl, hb⟩; replace B_qp := bb hb B_qp.1; replace B_qs := bb hb B_qs.1; replace B_qr := bb hb B_qr.1; replace HB := Aside0.mk (below_step HB.1 hb); clear hb; have hr2f_qs_0 := blk_frozen B_qs.1 0; have hr2_qs_0 : w7_.cell? ⟨qs, 0, none⟩ = some (.int .i64 a) := (blk_cell B_qs.1 0).trans rfl; have hr2f_qs_1 := blk_frozen B_qs.1 1; have hr2_qs_1 : w7_.cell? ⟨qs, 1, none⟩ = some (.int .i64 b) := (blk_cell B_qs.1 1).trans rfl; have hr2f_qs_6 := blk_frozen B_qs.1 6; have hr2_qs_6 : w7_.cell? ⟨qs, 6, none⟩ = some (.bool s6) := (blk_cell B_qs.1 6).trans rfl))
   clear hr2f_qs_0 hr2_qs_0 hr2f_qs_1 hr2_qs_1 hr2f_qs_6 hr2_qs_6
   have n0_ : Aside0 ((((w7_.setCell ⟨qs, 0, none⟩ (.int .i64 (-2305843009213693952))).setCell ⟨qs, 1, none⟩ (.int .i64 2305843009213693952)).setCell ⟨qs, 6, none⟩ (.bool false)).heap[qp]? = some (.cells #[.int .i64 p0, .int .i64 p1, .int .i64 p2, .int .i64 p3, .int .i64 p4, .int .i64 p5, .int .i64 p6, .int .i64 p7, .int .i64 p8, .int .i64 p9, .int .i64 p10, .int .i64 p11] 23 (0, 0))) := ⟨blk_far (blk_far (blk_far (B_qp.1) N_qp_qs.1 _) N_qp_qs.1 _) N_qp_qs.1 _⟩
   have n1_ : Aside0 ((((w7_.setCell ⟨qs, 0, none⟩ (.int .i64 (-2305843009213693952))).setCell ⟨qs, 1, none⟩ (.int .i64 2305843009213693952)).setCell ⟨qs, 6, none⟩ (.bool false)).heap[qs]? = some (.cells #[.int .i64 (-2305843009213693952), .int .i64 2305843009213693952, .int .i64 s2, .bool s3, .int .i64 s4, .int .i64 s5, .bool false, .slice sA tb.length sc, .int .i64 s8, .int .i64 s9, .int .i64 s10] 30 (0, 0))) := ⟨by have h_ := blk_set (blk_set (blk_set (B_qs.1) 0 (.int .i64 (-2305843009213693952))) 1 (.int .i64 2305843009213693952)) 6 (.bool false); simp only [zA, zB, zC] at h_; exact h_⟩
   have n2_ : Aside0 ((((w7_.setCell ⟨qs, 0, none⟩ (.int .i64 (-2305843009213693952))).setCell ⟨qs, 1, none⟩ (.int .i64 2305843009213693952)).setCell ⟨qs, 6, none⟩ (.bool false)).heap[qr]? = some (.cells #[.int .i64 0, .int .i64 0, .int .i64 0, .bool false, .int .i64 0, .int .i64 0, .bool false, .slice none 0 0, .int .i64 0, .int .i64 0, .int .i64 0] 30 (0, 0))) := ⟨blk_far (blk_far (blk_far (B_qr.1) N_qr_qs.1 _) N_qr_qs.1 _) N_qr_qs.1 _⟩
   have n3_ : Aside0 (Below w.heap.size w (((w7_.setCell ⟨qs, 0, none⟩ (.int .i64 (-2305843009213693952))).setCell ⟨qs, 1, none⟩ (.int .i64 2305843009213693952)).setCell ⟨qs, 6, none⟩ (.bool false))) := ⟨below_set (below_set (below_set (HB.1) E_qs.1) E_qs.1) E_qs.1⟩
   clear B_qp B_qs B_qr HB
   have B_qp := n0_
   have B_qs := n1_
   have B_qr := n2_
   have HB := n3_
   clear n0_ n1_ n2_ n3_
   generalize (((w7_.setCell ⟨qs, 0, none⟩ (.int .i64 (-2305843009213693952))).setCell ⟨qs, 1, none⟩ (.int .i64 2305843009213693952)).setCell ⟨qs, 6, none⟩ (.bool false)) = w8_ at B_qp B_qs B_qr HB ⊢
   go_meet
   case rel => exact ⟨trivial, B_qp, B_qs, B_qr, HB⟩
 case rest =>
  clear B_qp B_qs B_qr HB
  obtain ⟨w9_, ew_⟩ : ∃ x, x = wc := ⟨_, rfl⟩
  subst ew_
  obtain ⟨_, B_qp, B_qs, B_qr, HB⟩ := hcut
  go_upto_region 4 with (fail)
  replace B_qp := Aside0.mk (blk_drew B_qp.1)
  replace B_qs := Aside0.mk (blk_drew B_qs.1)
  replace B_qr := Aside0.mk (blk_drew B_qr.1)
  replace HB := Aside0.mk (below_drew1 HB.1)
  refine start_ (n := 19) (S := fun w' => w'.heap[qs]? = some (.cells #[.int .i64 r1, .int .i64 r2, .int .i64 s2, .bool s3, .int .i64 s4, .int .i64 s5, .bool r7, .slice sA tb.length sc, .int .i64 s8, .int .i64 s9, .int .i64 s10] 30 (0, 0)) ∧ w'.heap[qp]? = some (.cells #[.int .i64 p0, .int .i64 p1, .int .i64 p2, .int .i64 p3, .int .i64 p4, .int .i64 p5, .int .i64 p6, .int .i64 p7, .int .i64 p8, .int .i64 p9, .int .i64 p10, .int .i64 p11] 23 (0, 0))) (ds := [14, 16, 18]) (bs 19 0) (by kernel_rfl) rfl (by rfl) ⟨B_qs.1, B_qp.1⟩ (fun hHeld => ?_)
  generalize w9_.drew = w10_ at B_qp B_qs B_qr HB hHeld ⊢
  refine pu 0 19 1 ?_
  refine pu 3 22 9 ?_
  refine pu 6 25 73 ?_
  refine pu 8 27 329 ?_
  refine take_ (i := 1) (N := some 20) (v := ?_) (a' := ?_) (bs 19 331) rfl rfl (by kernel_rfl) (fun _ _ _ h => h) (Or.inl ⟨by rfl, ?_⟩) hHeld ?_ ?_
  rotate_left
  ·rintro w' ⟨s_qs, s_qp⟩
   have c_2 : w'.cell? ⟨qs, 2, none⟩ = some (.int .i64 s2) := (blk_cell s_qs 2).trans rfl
   clear s_qs s_qp
   go_simp
   with_reducible rfl
  rotate_left
  ·simp only [Act.put, zA, zB, zC, i64_w, i32_w]
   rfl
  refine take_ (i := 4) (N := some 23) (v := ?_) (a' := ?_) (bs 19 347) rfl rfl (by kernel_rfl) (fun _ _ _ h => h) (Or.inl ⟨by rfl, ?_⟩) hHeld ?_ ?_
  rotate_left
  ·rintro w' ⟨s_qs, s_qp⟩
   have c_4 : w'.cell? ⟨qs, 4, none⟩ = some (.int .i64 s4) := (blk_cell s_qs 4).trans rfl
   clear s_qs s_qp
   go_simp
   with_reducible rfl
  rotate_left
  ·simp only [Act.put, zA, zB, zC, i64_w, i32_w]
   rfl
  refine take_ (i := 7) (N := some 26) (v := ?_) (a' := ?_) (bs 19 475) rfl rfl (by kernel_rfl) (fun _ _ _ h => h) (Or.inl ⟨by rfl, ?_⟩) hHeld ?_ ?_
  rotate_left
  ·rintro w' ⟨s_qs, s_qp⟩
   have c_5 : w'.cell? ⟨qs, 5, none⟩ = some (.int .i64 s5) := (blk_cell s_qs 5).trans rfl
   clear s_qs s_qp
   go_simp
   with_reducible rfl
  rotate_left
  ·simp only [Act.put, zA, zB, zC, i64_w, i32_w]
   rfl
  refine take_ (i := 9) (N := some 28) (v := ?_) (a' := ?_) (bs 19 987) rfl rfl (by kernel_rfl) (fun _ _ _ h => h) (Or.inl ⟨by rfl, ?_⟩) hHeld ?_ ?_
  rotate_left
  ·rintro w' ⟨s_qs, s_qp⟩
   have c_2 : w'.cell? ⟨qp, 2, none⟩ = some (.int .i64 p2) := (blk_cell s_qp 2).trans rfl
   clear s_qs s_qp
   go_simp
   with_reducible rfl
  rotate_left
  ·simp only [Act.put, zA, zB, zC, i64_w, i32_w]
   rfl
  refine join_ (σ := Option Addr × Nat) 7 (bs 19 10239) (fun s_ => [(21, .int .i64 tm), (24, .int .i64 he), (29, .slice s_.1 2 s_.2), (32, .pointer (some ⟨qs, 2, none⟩))]) (fun s_ w' => (w'.heap[qs]? = some (.cells #[.int .i64 r1, .int .i64 r2, .int .i64 s2, .bool s3, .int .i64 s4, .int .i64 s5, .bool r7, .slice sA tb.length sc, .int .i64 s8, .int .i64 s9, .int .i64 s10] 30 (0, 0)) ∧ w'.heap[qp]? = some (.cells #[.int .i64 p0, .int .i64 p1, .int .i64 p2, .int .i64 p3, .int .i64 p4, .int .i64 p5, .int .i64 p6, .int .i64 p7, .int .i64 p8, .int .i64 p9, .int .i64 p10, .int .i64 p11] 23 (0, 0))) ∧ (w'.heap[qp]? = some (.cells #[.int .i64 p0, .int .i64 p1, .int .i64 p2, .int .i64 p3, .int .i64 p4, .int .i64 p5, .int .i64 p6, .int .i64 p7, .int .i64 p8, .int .i64 p9, .int .i64 p10, .int .i64 p11] 23 (0, 0))) ∧ (w'.heap[qs]? = some (.cells #[.int .i64 r1, .int .i64 r2, .int .i64 s2, .bool s3, .int .i64 s4, .int .i64 s5, .bool r7, .slice sA tb.length sc, .int .i64 s8, .int .i64 s9, .int .i64 s10] 30 (0, 0))) ∧ (w'.heap[qr]? = some (.cells #[.int .i64 0, .int .i64 0, .int .i64 0, .bool false, .int .i64 0, .int .i64 0, .bool false, .slice none 0 0, .int .i64 0, .int .i64 0, .int .i64 0] 30 (0, 0))) ∧ (Kd.R (Kd.int .i64) 3 w' w.heap.size (fun k_ => some k_ = ((.slice s_.1 2 s_.2) : Value).ownBlock) (.slice s_.1 2 s_.2) [p2, 1]) ∧ (Below w.heap.size w w')) ?_ ?_
  rotate_left
  ·intro hCont
   refine two_ (i := 2) (j := 10) (Ni := some 21) (Nj := some 29) (bs 19 991) (bs 19 2011) rfl rfl rfl rfl (by kernel_rfl) (by decide) (by decide) (fun K hK => ?_) (fun K hK => ?_)
   ·skip
    refine goes_ Tryd.func40 (by kernel_rfl) rfl #[.int .i64 s2] (by rfl) rfl rfl (by (try simp only [List.map_toArray, List.map_cons, List.map_nil]); first | done | rfl) ?_
    with_reducible refine (sat_Clip.calls k s2 tm _ HTM.1).mono ?_
    rintro e w11_ ⟨rfl, hd_⟩
    have hb := hd_.below
    clear hd_
    replace B_qp := bb hb B_qp.1
    replace B_qs := bb hb B_qs.1
    replace B_qr := bb hb B_qr.1
    replace HB := Aside0.mk (below_step HB.1 hb)
    clear hb
    refine ⟨_, rfl, ?_⟩
    refine hK.out _ _ ⟨B_qs.1, B_qp.1⟩ (fun hHeld => ?_)
    clear hK K
    refine nm 21 ?_
    refine pu 13 32 9183 ?_
    refine two_ (i := 5) (j := 10) (Ni := some 24) (Nj := some 29) (bs 19 9215) (bs 19 10207) rfl rfl rfl rfl (by kernel_rfl) (by decide) (by decide) (fun K hK => ?_) (fun K hK => ?_)
    ·skip
     refine goes_ Tryd.func38 (by kernel_rfl) rfl #[.int .i64 s4, .int .i64 0, .int .i64 1073741824] (by rfl) rfl rfl (by (try simp only [List.map_toArray, List.map_cons, List.map_nil]); first | done | rfl) ?_
     with_reducible refine (sat_Bound.calls k s4 0 1073741824 he _ HHE.1).mono ?_
     rintro e w12_ ⟨rfl, hd_⟩
     have hb := hd_.below
     clear hd_
     replace B_qp := bb hb B_qp.1
     replace B_qs := bb hb B_qs.1
     replace B_qr := bb hb B_qr.1
     replace HB := Aside0.mk (below_step HB.1 hb)
     clear hb
     refine ⟨_, rfl, ?_⟩
     refine hK.out _ _ ⟨B_qs.1, B_qp.1⟩ (fun hHeld => ?_)
     clear hK K
     refine nm 24 ?_
     refine one_ (i := 10) (N := some 29) (bs 19 10239) rfl rfl (by kernel_rfl) (by decide) (fun K hK => ?_)
     refine Kd.R_lit_step (Kd.int .i64) _ 3 ?hg (N := 29) ?hd (xs := ([p2, 1] : List Int)) (inner := [.int .i64 p2, .int .i64 1]) (ok := fun _ => True) (okp := fun _ => True) ?hr ?hp (fun _ hk => hk) trivial (Below.refl _ _) (Nat.le_refl _) (by simp) ?_; (case hd => rfl); (case hg => rfl); (case hr => first | (go_simp; done) | (go_simp; rfl)); (case hp => exact (Reps.one (show Kd.M (Kd.int .i64) _ _ _ (p2) [.int .i64 (p2)] from rfl) (Reps.one (show Kd.M (Kd.int .i64) _ _ _ (1) [.int .i64 (1)] from rfl) (Reps.none _ _))))
     intro v_y w13_ ho hb hg_ hnew_
     clear hg_ hnew_
     have R0_ := Aside0.mk (Kd.R_lower ho (below_size HB.1))
     replace B_qp := bb hb B_qp.1
     replace B_qs := bb hb B_qs.1
     replace B_qr := bb hb B_qr.1
     replace HB := Aside0.mk (below_step HB.1 hb)
     obtain ⟨A_y, c_y, e_y⟩ := Kd.R_slice R0_.1
     subst e_y
     have R_y : Aside0 (Kd.R (Kd.int .i64) 3 w13_ w.heap.size (fun k_ => some k_ = (.slice A_y 2 c_y : Value).ownBlock) (.slice A_y 2 c_y) [p2, 1]) := ⟨hx.tight rfl R0_.1⟩
     clear R0_ ho hb
     refine hK.out _ _ ⟨B_qs.1, B_qp.1⟩ (fun hHeld => ?_)
     clear hK K
     refine nm 29 ?_
     exact norm_ (by simp only [putAll, Act.put, zA, zB, zC] <;> rfl) (hCont (A_y, c_y) _ ⟨hHeld, B_qp.1, B_qs.1, B_qr.1, R_y.1, HB.1⟩)
    ·skip
     refine Kd.R_lit_step (Kd.int .i64) _ 3 ?hg (N := 29) ?hd (xs := ([p2, 1] : List Int)) (inner := [.int .i64 p2, .int .i64 1]) (ok := fun _ => True) (okp := fun _ => True) ?hr ?hp (fun _ hk => hk) trivial (Below.refl _ _) (Nat.le_refl _) (by simp) ?_; (case hd => rfl); (case hg => rfl); (case hr => first | (go_simp; done) | (go_simp; rfl)); (case hp => exact (Reps.one (show Kd.M (Kd.int .i64) _ _ _ (p2) [.int .i64 (p2)] from rfl) (Reps.one (show Kd.M (Kd.int .i64) _ _ _ (1) [.int .i64 (1)] from rfl) (Reps.none _ _))))
     intro v_y w14_ ho hb hg_ hnew_
     clear hg_ hnew_
     have R0_ := Aside0.mk (Kd.R_lower ho (below_size HB.1))
     replace B_qp := bb hb B_qp.1
     replace B_qs := bb hb B_qs.1
     replace B_qr := bb hb B_qr.1
     replace HB := Aside0.mk (below_step HB.1 hb)
     obtain ⟨A_y, c_y, e_y⟩ := Kd.R_slice R0_.1
     subst e_y
     have R_y : Aside0 (Kd.R (Kd.int .i64) 3 w14_ w.heap.size (fun k_ => some k_ = (.slice A_y 2 c_y : Value).ownBlock) (.slice A_y 2 c_y) [p2, 1]) := ⟨hx.tight rfl R0_.1⟩
     clear R0_ ho hb
     refine hK.out _ _ ⟨B_qs.1, B_qp.1⟩ (fun hHeld => ?_)
     clear hK K
     refine nm 29 ?_
     refine one_ (i := 5) (N := some 24) (bs 19 10239) rfl rfl (by kernel_rfl) (by decide) (fun K hK => ?_)
     refine goes_ Tryd.func38 (by kernel_rfl) rfl #[.int .i64 s4, .int .i64 0, .int .i64 1073741824] (by rfl) rfl rfl (by (try simp only [List.map_toArray, List.map_cons, List.map_nil]); first | done | rfl) ?_
     with_reducible refine (sat_Bound.calls k s4 0 1073741824 he _ HHE.1).mono ?_
     rintro e w15_ ⟨rfl, hd_⟩
     have hb := hd_.below
     clear hd_
     replace B_qp := bb hb B_qp.1
     replace B_qs := bb hb B_qs.1
     replace B_qr := bb hb B_qr.1
     replace R_y := Aside0.mk (Kd.R_below R_y.1 hb)
     replace HB := Aside0.mk (below_step HB.1 hb)
     clear hb
     refine ⟨_, rfl, ?_⟩
     refine hK.out _ _ ⟨B_qs.1, B_qp.1⟩ (fun hHeld => ?_)
     clear hK K
     refine nm 24 ?_
     exact norm_ (by simp only [putAll, Act.put, zA, zB, zC] <;> rfl) (hCont (A_y, c_y) _ ⟨hHeld, B_qp.1, B_qs.1, B_qr.1, R_y.1, HB.1⟩)
   ·skip
    refine Kd.R_lit_step (Kd.int .i64) _ 3 ?hg (N := 29) ?hd (xs := ([p2, 1] : List Int)) (inner := [.int .i64 p2, .int .i64 1]) (ok := fun _ => True) (okp := fun _ => True) ?hr ?hp (fun _ hk => hk) trivial (Below.refl _ _) (Nat.le_refl _) (by simp) ?_; (case hd => rfl); (case hg => rfl); (case hr => first | (go_simp; done) | (go_simp; rfl)); (case hp => exact (Reps.one (show Kd.M (Kd.int .i64) _ _ _ (p2) [.int .i64 (p2)] from rfl) (Reps.one (show Kd.M (Kd.int .i64) _ _ _ (1) [.int .i64 (1)] from rfl) (Reps.none _ _))))
    intro v_y w16_ ho hb hg_ hnew_
    clear hg_ hnew_
    have R0_ := Aside0.mk (Kd.R_lower ho (below_size HB.1))
    replace B_qp := bb hb B_qp.1
    replace B_qs := bb hb B_qs.1
    replace B_qr := bb hb B_qr.1
    replace HB := Aside0.mk (below_step HB.1 hb)
    obtain ⟨A_y, c_y, e_y⟩ := Kd.R_slice R0_.1
    subst e_y
    have R_y : Aside0 (Kd.R (Kd.int .i64) 3 w16_ w.heap.size (fun k_ => some k_ = (.slice A_y 2 c_y : Value).ownBlock) (.slice A_y 2 c_y) [p2, 1]) := ⟨hx.tight rfl R0_.1⟩
    clear R0_ ho hb
    refine hK.out _ _ ⟨B_qs.1, B_qp.1⟩ (fun hHeld => ?_)
    clear hK K
    refine nm 29 ?_
    refine one_ (i := 2) (N := some 21) (bs 19 2015) rfl rfl (by kernel_rfl) (by decide) (fun K hK => ?_)
    refine goes_ Tryd.func40 (by kernel_rfl) rfl #[.int .i64 s2] (by rfl) rfl rfl (by (try simp only [List.map_toArray, List.map_cons, List.map_nil]); first | done | rfl) ?_
    with_reducible refine (sat_Clip.calls k s2 tm _ HTM.1).mono ?_
    rintro e w17_ ⟨rfl, hd_⟩
    have hb := hd_.below
    clear hd_
    replace B_qp := bb hb B_qp.1
    replace B_qs := bb hb B_qs.1
    replace B_qr := bb hb B_qr.1
    replace R_y := Aside0.mk (Kd.R_below R_y.1 hb)
    replace HB := Aside0.mk (below_step HB.1 hb)
    clear hb
    refine ⟨_, rfl, ?_⟩
    refine hK.out _ _ ⟨B_qs.1, B_qp.1⟩ (fun hHeld => ?_)
    clear hK K
    refine nm 21 ?_
    refine pu 13 32 10207 ?_
    refine one_ (i := 5) (N := some 24) (bs 19 10239) rfl rfl (by kernel_rfl) (by decide) (fun K hK => ?_)
    refine goes_ Tryd.func38 (by kernel_rfl) rfl #[.int .i64 s4, .int .i64 0, .int .i64 1073741824] (by rfl) rfl rfl (by (try simp only [List.map_toArray, List.map_cons, List.map_nil]); first | done | rfl) ?_
    with_reducible refine (sat_Bound.calls k s4 0 1073741824 he _ HHE.1).mono ?_
    rintro e w18_ ⟨rfl, hd_⟩
    have hb := hd_.below
    clear hd_
    replace B_qp := bb hb B_qp.1
    replace B_qs := bb hb B_qs.1
    replace B_qr := bb hb B_qr.1
    replace R_y := Aside0.mk (Kd.R_below R_y.1 hb)
    replace HB := Aside0.mk (below_step HB.1 hb)
    clear hb
    refine ⟨_, rfl, ?_⟩
    refine hK.out _ _ ⟨B_qs.1, B_qp.1⟩ (fun hHeld => ?_)
    clear hK K
    refine nm 24 ?_
    exact norm_ (by simp only [putAll, Act.put, zA, zB, zC] <;> rfl) (hCont (A_y, c_y) _ ⟨hHeld, B_qp.1, B_qs.1, B_qr.1, R_y.1, HB.1⟩)
  rintro ⟨A_y, c_y⟩ w19_ ⟨hS_, h0_, h1_, h2_, h3_, h4_⟩
  clear B_qp B_qs B_qr HB
  have B_qp : Aside0 (w19_.heap[qp]? = some (.cells #[.int .i64 p0, .int .i64 p1, .int .i64 p2, .int .i64 p3, .int .i64 p4, .int .i64 p5, .int .i64 p6, .int .i64 p7, .int .i64 p8, .int .i64 p9, .int .i64 p10, .int .i64 p11] 23 (0, 0))) := ⟨h0_⟩
  have B_qs : Aside0 (w19_.heap[qs]? = some (.cells #[.int .i64 r1, .int .i64 r2, .int .i64 s2, .bool s3, .int .i64 s4, .int .i64 s5, .bool r7, .slice sA tb.length sc, .int .i64 s8, .int .i64 s9, .int .i64 s10] 30 (0, 0))) := ⟨h1_⟩
  have B_qr : Aside0 (w19_.heap[qr]? = some (.cells #[.int .i64 0, .int .i64 0, .int .i64 0, .bool false, .int .i64 0, .int .i64 0, .bool false, .slice none 0 0, .int .i64 0, .int .i64 0, .int .i64 0] 30 (0, 0))) := ⟨h2_⟩
  have R_y : Aside0 (Kd.R (Kd.int .i64) 3 w19_ w.heap.size (fun k_ => some k_ = ((.slice A_y 2 c_y) : Value).ownBlock) (.slice A_y 2 c_y) [p2, 1]) := ⟨h3_⟩
  have HB : Aside0 (Below w.heap.size w w19_) := ⟨h4_⟩
  clear h0_ h1_ h2_ h3_ h4_
  have hHeld := hS_
  try dsimp only at hHeld
  clear hS_
  refine norm_ (a' := ?_) ?_ ?_
  rotate_left
  ·simp only [putAll, Act.put, zA, zB, zC]
   rfl
  refine one_ (i := 11) (N := some 30) (bs 19 12287) rfl rfl (by kernel_rfl) (by decide) (fun K hK => ?_)
  refine goes_ Tryd.func34 (by kernel_rfl) rfl #[.slice A_y 2 c_y] (by rfl) rfl rfl (by (try simp only [List.map_toArray, List.map_cons, List.map_nil]); first | done | rfl) ?_
  with_reducible refine (hx.add2l k A_y c_y p2 1 aa _ (Kd.R_reads' R_y.1).2.2 (Kd.R_reads' R_y.1).2.1 HAA.1).mono ?_
  rintro e w20_ ⟨rfl, hd_⟩
  have hb := hd_.below
  clear hd_
  replace B_qp := bb hb B_qp.1
  replace B_qs := bb hb B_qs.1
  replace B_qr := bb hb B_qr.1
  replace R_y := Aside0.mk (Kd.R_below R_y.1 hb)
  replace HB := Aside0.mk (below_step HB.1 hb)
  clear hb
  refine ⟨_, rfl, ?_⟩
  refine hK.out _ _ ⟨B_qs.1, B_qp.1⟩ (fun hHeld => ?_)
  clear hK K
  refine nm 30 ?_
  refine one_ (i := 12) (N := some 31) (bs 19 16383) rfl rfl (by kernel_rfl) (by decide) (fun K hK => ?_)
  refine goes_ Tryd.func38 (by kernel_rfl) rfl #[.int .i64 s5, .int .i64 0, .int .i64 aa] (by rfl) rfl rfl (by (try simp only [List.map_toArray, List.map_cons, List.map_nil]); first | done | rfl) ?_
  with_reducible refine (sat_Bound.calls k s5 0 aa ho _ HHO.1).mono ?_
  rintro e w21_ ⟨rfl, hd_⟩
  have hb := hd_.below
  clear hd_
  replace B_qp := bb hb B_qp.1
  replace B_qs := bb hb B_qs.1
  replace B_qr := bb hb B_qr.1
  replace R_y := Aside0.mk (Kd.R_below R_y.1 hb)
  replace HB := Aside0.mk (below_step HB.1 hb)
  clear hb
  refine ⟨_, rfl, ?_⟩
  refine hK.out _ _ ⟨B_qs.1, B_qp.1⟩ (fun hHeld => ?_)
  clear hK K
  refine nm 31 ?_
  refine last_ (i := 14) (N := none) (bs 19 32767) rfl rfl (by kernel_rfl) (by decide) (fun K hK => ?_)
  have hs_2 : w21_.cell? ⟨qs, 2, none⟩ = some (.int .i64 s2) := (blk_cell B_qs.1 2).trans rfl
  have hf_2 := blk_frozen B_qs.1 2
  refine skip_ (w1 := ?_) (by rfl) rfl ?_ ?_
  rotate_left
  ·go_simp
   rfl
  refine hK.out _ _ ?_
  clear hK K hHeld hs_2 hf_2
  have n0_ : Aside0 ((w21_.setCell ⟨qs, 2, none⟩ (.int .i64 tm)).heap[qp]? = some (.cells #[.int .i64 p0, .int .i64 p1, .int .i64 p2, .int .i64 p3, .int .i64 p4, .int .i64 p5, .int .i64 p6, .int .i64 p7, .int .i64 p8, .int .i64 p9, .int .i64 p10, .int .i64 p11] 23 (0, 0))) := ⟨blk_far (B_qp.1) N_qp_qs.1 _⟩
  have n1_ : Aside0 ((w21_.setCell ⟨qs, 2, none⟩ (.int .i64 tm)).heap[qs]? = some (.cells #[.int .i64 r1, .int .i64 r2, .int .i64 tm, .bool s3, .int .i64 s4, .int .i64 s5, .bool r7, .slice sA tb.length sc, .int .i64 s8, .int .i64 s9, .int .i64 s10] 30 (0, 0))) := ⟨by have h_ := blk_set (B_qs.1) 2 (.int .i64 tm); simp only [zA, zB, zC] at h_; exact h_⟩
  have n2_ : Aside0 ((w21_.setCell ⟨qs, 2, none⟩ (.int .i64 tm)).heap[qr]? = some (.cells #[.int .i64 0, .int .i64 0, .int .i64 0, .bool false, .int .i64 0, .int .i64 0, .bool false, .slice none 0 0, .int .i64 0, .int .i64 0, .int .i64 0] 30 (0, 0))) := ⟨blk_far (B_qr.1) N_qr_qs.1 _⟩
  have n3_ : Aside0 (Kd.R (Kd.int .i64) 3 (w21_.setCell ⟨qs, 2, none⟩ (.int .i64 tm)) w.heap.size (fun k_ => some k_ = ((.slice A_y 2 c_y) : Value).ownBlock) (.slice A_y 2 c_y) [p2, 1]) := ⟨Kd.R_far (R_y.1) (hx.away R_y.1 B_qs.1 (by decide)) _⟩
  have n4_ : Aside0 (Below w.heap.size w (w21_.setCell ⟨qs, 2, none⟩ (.int .i64 tm))) := ⟨below_set (HB.1) E_qs.1⟩
  clear B_qp B_qs B_qr R_y HB
  have B_qp := n0_
  have B_qs := n1_
  have B_qr := n2_
  have R_y := n3_
  have HB := n4_
  clear n0_ n1_ n2_ n3_ n4_
  generalize (w21_.setCell ⟨qs, 2, none⟩ (.int .i64 tm)) = w22_ at B_qp B_qs B_qr R_y HB ⊢
  refine pu 15 33 65535 ?_
  refine last_ (i := 16) (N := none) (bs 19 131071) rfl rfl (by kernel_rfl) (by decide) (fun K hK => ?_)
  have hs_4 : w22_.cell? ⟨qs, 4, none⟩ = some (.int .i64 s4) := (blk_cell B_qs.1 4).trans rfl
  have hf_4 := blk_frozen B_qs.1 4
  refine skip_ (w1 := ?_) (by rfl) rfl ?_ ?_
  rotate_left
  ·go_simp
   rfl
  refine hK.out _ _ ?_
  clear hK K hs_4 hf_4
  have n0_ : Aside0 ((w22_.setCell ⟨qs, 4, none⟩ (.int .i64 he)).heap[qp]? = some (.cells #[.int .i64 p0, .int .i64 p1, .int .i64 p2, .int .i64 p3, .int .i64 p4, .int .i64 p5, .int .i64 p6, .int .i64 p7, .int .i64 p8, .int .i64 p9, .int .i64 p10, .int .i64 p11] 23 (0, 0))) := ⟨blk_far (B_qp.1) N_qp_qs.1 _⟩
  have n1_ : Aside0 ((w22_.setCell ⟨qs, 4, none⟩ (.int .i64 he)).heap[qs]? = some (.cells #[.int .i64 r1, .int .i64 r2, .int .i64 tm, .bool s3, .int .i64 he, .int .i64 s5, .bool r7, .slice sA tb.length sc, .int .i64 s8, .int .i64 s9, .int .i64 s10] 30 (0, 0))) := ⟨by have h_ := blk_set (B_qs.1) 4 (.int .i64 he); simp only [zA, zB, zC] at h_; exact h_⟩
  have n2_ : Aside0 ((w22_.setCell ⟨qs, 4, none⟩ (.int .i64 he)).heap[qr]? = some (.cells #[.int .i64 0, .int .i64 0, .int .i64 0, .bool false, .int .i64 0, .int .i64 0, .bool false, .slice none 0 0, .int .i64 0, .int .i64 0, .int .i64 0] 30 (0, 0))) := ⟨blk_far (B_qr.1) N_qr_qs.1 _⟩
  have n3_ : Aside0 (Kd.R (Kd.int .i64) 3 (w22_.setCell ⟨qs, 4, none⟩ (.int .i64 he)) w.heap.size (fun k_ => some k_ = ((.slice A_y 2 c_y) : Value).ownBlock) (.slice A_y 2 c_y) [p2, 1]) := ⟨Kd.R_far (R_y.1) (hx.away R_y.1 B_qs.1 (by decide)) _⟩
  have n4_ : Aside0 (Below w.heap.size w (w22_.setCell ⟨qs, 4, none⟩ (.int .i64 he))) := ⟨below_set (HB.1) E_qs.1⟩
  clear B_qp B_qs B_qr R_y HB
  have B_qp := n0_
  have B_qs := n1_
  have B_qr := n2_
  have R_y := n3_
  have HB := n4_
  clear n0_ n1_ n2_ n3_ n4_
  generalize (w22_.setCell ⟨qs, 4, none⟩ (.int .i64 he)) = w23_ at B_qp B_qs B_qr R_y HB ⊢
  refine pu 17 34 262143 ?_
  refine last_ (i := 18) (N := none) (bs 19 524287) rfl rfl (by kernel_rfl) (by decide) (fun K hK => ?_)
  have hs_5 : w23_.cell? ⟨qs, 5, none⟩ = some (.int .i64 s5) := (blk_cell B_qs.1 5).trans rfl
  have hf_5 := blk_frozen B_qs.1 5
  refine skip_ (w1 := ?_) (by rfl) rfl ?_ ?_
  rotate_left
  ·go_simp
   rfl
  refine hK.out _ _ ?_
  clear hK K hs_5 hf_5
  refine done_ (by kernel_rfl) ?_
  have n0_ : Aside0 ((w23_.setCell ⟨qs, 5, none⟩ (.int .i64 ho)).heap[qp]? = some (.cells #[.int .i64 p0, .int .i64 p1, .int .i64 p2, .int .i64 p3, .int .i64 p4, .int .i64 p5, .int .i64 p6, .int .i64 p7, .int .i64 p8, .int .i64 p9, .int .i64 p10, .int .i64 p11] 23 (0, 0))) := ⟨blk_far (B_qp.1) N_qp_qs.1 _⟩
  have n1_ : Aside0 ((w23_.setCell ⟨qs, 5, none⟩ (.int .i64 ho)).heap[qs]? = some (.cells #[.int .i64 r1, .int .i64 r2, .int .i64 tm, .bool s3, .int .i64 he, .int .i64 ho, .bool r7, .slice sA tb.length sc, .int .i64 s8, .int .i64 s9, .int .i64 s10] 30 (0, 0))) := ⟨by have h_ := blk_set (B_qs.1) 5 (.int .i64 ho); simp only [zA, zB, zC] at h_; exact h_⟩
  have n2_ : Aside0 ((w23_.setCell ⟨qs, 5, none⟩ (.int .i64 ho)).heap[qr]? = some (.cells #[.int .i64 0, .int .i64 0, .int .i64 0, .bool false, .int .i64 0, .int .i64 0, .bool false, .slice none 0 0, .int .i64 0, .int .i64 0, .int .i64 0] 30 (0, 0))) := ⟨blk_far (B_qr.1) N_qr_qs.1 _⟩
  have n3_ : Aside0 (Kd.R (Kd.int .i64) 3 (w23_.setCell ⟨qs, 5, none⟩ (.int .i64 ho)) w.heap.size (fun k_ => some k_ = ((.slice A_y 2 c_y) : Value).ownBlock) (.slice A_y 2 c_y) [p2, 1]) := ⟨Kd.R_far (R_y.1) (hx.away R_y.1 B_qs.1 (by decide)) _⟩
  have n4_ : Aside0 (Below w.heap.size w (w23_.setCell ⟨qs, 5, none⟩ (.int .i64 ho))) := ⟨below_set (HB.1) E_qs.1⟩
  clear B_qp B_qs B_qr R_y HB
  have B_qp := n0_
  have B_qs := n1_
  have B_qr := n2_
  have R_y := n3_
  have HB := n4_
  clear n0_ n1_ n2_ n3_ n4_
  generalize (w23_.setCell ⟨qs, 5, none⟩ (.int .i64 ho)) = w24_ at B_qp B_qs B_qr R_y HB ⊢
  clear R_y
  go_upto_region 5 with (fail)
  have hc_qs_10 : w24_.cell? ⟨qs, 10, none⟩ = some (.int .i64 s10) := (blk_cell B_qs.1 10).trans rfl
  go_upto_region 6 with ((go_at_call 38; (with_reducible refine (sat_Bound.calls k s10 0 2305843009213693952 li _ HLI.1).mono ?_); rintro e w25_ ⟨rfl, hd_⟩; have hb := hd_.below; clear hd_; replace B_qp := bb hb B_qp.1; replace B_qs := bb hb B_qs.1; replace B_qr := bb hb B_qr.1; replace HB := Aside0.mk (below_step HB.1 hb); clear hb; have hr3f_qs_10 := blk_frozen B_qs.1 10; have hr3_qs_10 : w25_.cell? ⟨qs, 10, none⟩ = some (.int .i64 s10) := (blk_cell B_qs.1 10).trans rfl))
  clear hc_qs_10 hr3f_qs_10 hr3_qs_10
  have n0_ : Aside0 ((w25_.setCell ⟨qs, 10, none⟩ (.int .i64 li)).heap[qp]? = some (.cells #[.int .i64 p0, .int .i64 p1, .int .i64 p2, .int .i64 p3, .int .i64 p4, .int .i64 p5, .int .i64 p6, .int .i64 p7, .int .i64 p8, .int .i64 p9, .int .i64 p10, .int .i64 p11] 23 (0, 0))) := ⟨blk_far (B_qp.1) N_qp_qs.1 _⟩
  have n1_ : Aside0 ((w25_.setCell ⟨qs, 10, none⟩ (.int .i64 li)).heap[qs]? = some (.cells #[.int .i64 r1, .int .i64 r2, .int .i64 tm, .bool s3, .int .i64 he, .int .i64 ho, .bool r7, .slice sA tb.length sc, .int .i64 s8, .int .i64 s9, .int .i64 li] 30 (0, 0))) := ⟨by have h_ := blk_set (B_qs.1) 10 (.int .i64 li); simp only [zA, zB, zC] at h_; exact h_⟩
  have n2_ : Aside0 ((w25_.setCell ⟨qs, 10, none⟩ (.int .i64 li)).heap[qr]? = some (.cells #[.int .i64 0, .int .i64 0, .int .i64 0, .bool false, .int .i64 0, .int .i64 0, .bool false, .slice none 0 0, .int .i64 0, .int .i64 0, .int .i64 0] 30 (0, 0))) := ⟨blk_far (B_qr.1) N_qr_qs.1 _⟩
  have n3_ : Aside0 (Below w.heap.size w (w25_.setCell ⟨qs, 10, none⟩ (.int .i64 li))) := ⟨below_set (HB.1) E_qs.1⟩
  clear B_qp B_qs B_qr HB
  have B_qp := n0_
  have B_qs := n1_
  have B_qr := n2_
  have HB := n3_
  clear n0_ n1_ n2_ n3_
  generalize (w25_.setCell ⟨qs, 10, none⟩ (.int .i64 li)) = w26_ at B_qp B_qs B_qr HB ⊢
  have hc_qs_7 : w26_.cell? ⟨qs, 7, none⟩ = some (.slice sA tb.length sc) := (blk_cell B_qs.1 7).trans rfl
  go_upto_region 7 with ((go_at_call 60; (with_reducible refine (slices_Clone.calls sA sc tb tb _ (Kd.C_below HRs.1 HB.1) HCs.1 HTB.1).mono ?_); rintro e w27_ ⟨v_t, rfl, ho_, hb⟩; have R0_t := Aside0.mk (Kd.R_lower ho_ (below_size HB.1)); clear ho_; replace B_qp := bb hb B_qp.1; replace B_qs := bb hb B_qs.1; replace B_qr := bb hb B_qr.1; replace HB := Aside0.mk (below_step HB.1 hb); clear hb; obtain ⟨tA, tc, ev_⟩ := Kd.R_slice R0_t.1; subst ev_; have R_t := Aside0.mk (hx.tight rfl R0_t.1); clear R0_t; have hr4f_qs_7 := blk_frozen B_qs.1 7; have hr4_qs_7 : w27_.cell? ⟨qs, 7, none⟩ = some (.slice sA tb.length sc) := (blk_cell B_qs.1 7).trans rfl))
  clear hc_qs_7 hr4f_qs_7 hr4_qs_7
  have n0_ : Aside0 ((w27_.setCell ⟨qs, 7, none⟩ (.slice tA tb.length tc)).heap[qp]? = some (.cells #[.int .i64 p0, .int .i64 p1, .int .i64 p2, .int .i64 p3, .int .i64 p4, .int .i64 p5, .int .i64 p6, .int .i64 p7, .int .i64 p8, .int .i64 p9, .int .i64 p10, .int .i64 p11] 23 (0, 0))) := ⟨blk_far (B_qp.1) N_qp_qs.1 _⟩
  have n1_ : Aside0 ((w27_.setCell ⟨qs, 7, none⟩ (.slice tA tb.length tc)).heap[qs]? = some (.cells #[.int .i64 r1, .int .i64 r2, .int .i64 tm, .bool s3, .int .i64 he, .int .i64 ho, .bool r7, .slice tA tb.length tc, .int .i64 s8, .int .i64 s9, .int .i64 li] 30 (0, 0))) := ⟨by have h_ := blk_set (B_qs.1) 7 (.slice tA tb.length tc); simp only [zA, zB, zC] at h_; exact h_⟩
  have n2_ : Aside0 ((w27_.setCell ⟨qs, 7, none⟩ (.slice tA tb.length tc)).heap[qr]? = some (.cells #[.int .i64 0, .int .i64 0, .int .i64 0, .bool false, .int .i64 0, .int .i64 0, .bool false, .slice none 0 0, .int .i64 0, .int .i64 0, .int .i64 0] 30 (0, 0))) := ⟨blk_far (B_qr.1) N_qr_qs.1 _⟩
  have n3_ : Aside0 (Kd.R k82 82 (w27_.setCell ⟨qs, 7, none⟩ (.slice tA tb.length tc)) w.heap.size (fun k_ => some k_ = ((.slice tA tb.length tc) : Value).ownBlock) (.slice tA tb.length tc) tb) := ⟨Kd.R_far (R_t.1) (hx.away R_t.1 B_qs.1 (by decide)) _⟩
  have n4_ : Aside0 (Below w.heap.size w (w27_.setCell ⟨qs, 7, none⟩ (.slice tA tb.length tc))) := ⟨below_set (HB.1) E_qs.1⟩
  clear B_qp B_qs B_qr R_t HB
  have B_qp := n0_
  have B_qs := n1_
  have B_qr := n2_
  have R_t := n3_
  have HB := n4_
  clear n0_ n1_ n2_ n3_ n4_
  generalize (w27_.setCell ⟨qs, 7, none⟩ (.slice tA tb.length tc)) = w28_ at B_qp B_qs B_qr R_t HB ⊢
  have hc_qs_7 : w28_.cell? ⟨qs, 7, none⟩ = some (.slice tA tb.length tc) := (blk_cell B_qs.1 7).trans rfl
  go_upto_if 46 with ((go_at_call 41; (with_reducible refine (leap_Good.calls k tA tc tb go _ (Kd.R_reads' R_t.1).2.2 (Kd.R_reads' R_t.1).2.1 HGO.1).mono ?_); rintro e w29_ ⟨rfl, hb⟩; replace B_qp := bb hb B_qp.1; replace B_qs := bb hb B_qs.1; replace B_qr := bb hb B_qr.1; replace R_t := Aside0.mk (Kd.R_below R_t.1 hb); replace HB := Aside0.mk (below_step HB.1 hb); clear hb))
  clear hc_qs_7
  go_cut [] (fun wc => ∃ (uA : Option Addr) (uc : Nat), Aside0 (wc.heap[qp]? = some (.cells #[.int .i64 p0, .int .i64 p1, .int .i64 p2, .int .i64 p3, .int .i64 p4, .int .i64 p5, .int .i64 p6, .int .i64 p7, .int .i64 p8, .int .i64 p9, .int .i64 p10, .int .i64 p11] 23 (0, 0))) ∧ Aside0 (wc.heap[qs]? = some (.cells #[.int .i64 r1, .int .i64 r2, .int .i64 tm, .bool s3, .int .i64 he, .int .i64 ho, .bool r7, .slice uA r8.length uc, .int .i64 s8, .int .i64 s9, .int .i64 li] 30 (0, 0))) ∧ Aside0 (wc.heap[qr]? = some (.cells #[.int .i64 0, .int .i64 0, .int .i64 0, .bool false, .int .i64 0, .int .i64 0, .bool false, .slice none 0 0, .int .i64 0, .int .i64 0, .int .i64 0] 30 (0, 0))) ∧ Aside0 (Kd.R k82 82 wc w.heap.size (fun k_ => some k_ = ((.slice uA r8.length uc) : Value).ownBlock) (.slice uA r8.length uc) r8) ∧ Aside0 (Below w.heap.size w wc))
  case first =>
   have x8 := E8.1
   clear E8
   cases go
   ·simp only [if_false, Bool.false_eq_true] at x8
    subst x8
    have hcf_qs_7 := blk_frozen B_qs.1 7
    have hc_qs_7 : w29_.cell? ⟨qs, 7, none⟩ = some (.slice tA tb.length tc) := (blk_cell B_qs.1 7).trans rfl
    go_wp2_with (fail)
    clear hcf_qs_7 hc_qs_7
    have n0_ : Aside0 ((w29_.setCell ⟨qs, 7, none⟩ (.slice none 0 0)).heap[qp]? = some (.cells #[.int .i64 p0, .int .i64 p1, .int .i64 p2, .int .i64 p3, .int .i64 p4, .int .i64 p5, .int .i64 p6, .int .i64 p7, .int .i64 p8, .int .i64 p9, .int .i64 p10, .int .i64 p11] 23 (0, 0))) := ⟨blk_far (B_qp.1) N_qp_qs.1 _⟩
    have n1_ : Aside0 ((w29_.setCell ⟨qs, 7, none⟩ (.slice none 0 0)).heap[qs]? = some (.cells #[.int .i64 r1, .int .i64 r2, .int .i64 tm, .bool s3, .int .i64 he, .int .i64 ho, .bool r7, .slice none 0 0, .int .i64 s8, .int .i64 s9, .int .i64 li] 30 (0, 0))) := ⟨by have h_ := blk_set (B_qs.1) 7 (.slice none 0 0); simp only [zA, zB, zC] at h_; exact h_⟩
    have n2_ : Aside0 ((w29_.setCell ⟨qs, 7, none⟩ (.slice none 0 0)).heap[qr]? = some (.cells #[.int .i64 0, .int .i64 0, .int .i64 0, .bool false, .int .i64 0, .int .i64 0, .bool false, .slice none 0 0, .int .i64 0, .int .i64 0, .int .i64 0] 30 (0, 0))) := ⟨blk_far (B_qr.1) N_qr_qs.1 _⟩
    have n3_ : Aside0 (Kd.R k82 82 (w29_.setCell ⟨qs, 7, none⟩ (.slice none 0 0)) w.heap.size (fun k_ => some k_ = ((.slice tA tb.length tc) : Value).ownBlock) (.slice tA tb.length tc) tb) := ⟨Kd.R_far (R_t.1) (hx.away R_t.1 B_qs.1 (by decide)) _⟩
    have n4_ : Aside0 (Below w.heap.size w (w29_.setCell ⟨qs, 7, none⟩ (.slice none 0 0))) := ⟨below_set (HB.1) E_qs.1⟩
    clear B_qp B_qs B_qr R_t HB
    have B_qp := n0_
    have B_qs := n1_
    have B_qr := n2_
    have R_t := n3_
    have HB := n4_
    clear n0_ n1_ n2_ n3_ n4_
    generalize (w29_.setCell ⟨qs, 7, none⟩ (.slice none 0 0)) = w30_ at B_qp B_qs B_qr R_t HB ⊢
    go_meet
    case rel => exact ⟨none, 0, B_qp, B_qs, B_qr, ⟨Kd.R_nil _ _ _ _ _⟩, HB⟩
   ·simp only [if_true] at x8
    subst x8
    go_wp2_with (fail)
    go_meet
    case rel => exact ⟨tA, tc, B_qp, B_qs, B_qr, ⟨R_t.1⟩, HB⟩
  case rest =>
   clear E8 B_qp B_qs B_qr R_t HB
   obtain ⟨w31_, ew_⟩ : ∃ x, x = wc := ⟨_, rfl⟩
   subst ew_
   obtain ⟨uA, uc, B_qp, B_qs, B_qr, R_u, HB⟩ := hcut
   have hc_qs_8 : w31_.cell? ⟨qs, 8, none⟩ = some (.int .i64 s8) := (blk_cell B_qs.1 8).trans rfl
   have hc_qs_9 : w31_.cell? ⟨qs, 9, none⟩ = some (.int .i64 s9) := (blk_cell B_qs.1 9).trans rfl
   go_upto_if 51 with ((go_at_call 51; (with_reducible refine (hlc_Right.calls s8 s9 ri _ HRI.1).mono ?_); rintro e w32_ ⟨rfl, hb⟩; replace B_qp := bb hb B_qp.1; replace B_qs := bb hb B_qs.1; replace B_qr := bb hb B_qr.1; replace R_u := Aside0.mk (Kd.R_below R_u.1 hb); replace HB := Aside0.mk (below_step HB.1 hb); clear hb))
   clear hc_qs_8 hc_qs_9
   go_cut [] (fun wc => Aside0 (wc.heap[qp]? = some (.cells #[.int .i64 p0, .int .i64 p1, .int .i64 p2, .int .i64 p3, .int .i64 p4, .int .i64 p5, .int .i64 p6, .int .i64 p7, .int .i64 p8, .int .i64 p9, .int .i64 p10, .int .i64 p11] 23 (0, 0))) ∧ Aside0 (wc.heap[qs]? = some (.cells #[.int .i64 r1, .int .i64 r2, .int .i64 tm, .bool s3, .int .i64 he, .int .i64 ho, .bool r7, .slice uA r8.length uc, .int .i64 r9, .int .i64 r10, .int .i64 li] 30 (0, 0))) ∧ Aside0 (wc.heap[qr]? = some (.cells #[.int .i64 0, .int .i64 0, .int .i64 0, .bool false, .int .i64 0, .int .i64 0, .bool false, .slice none 0 0, .int .i64 0, .int .i64 0, .int .i64 0] 30 (0, 0))) ∧ Aside0 (Kd.R k82 82 wc w.heap.size (fun k_ => some k_ = ((.slice uA r8.length uc) : Value).ownBlock) (.slice uA r8.length uc) r8) ∧ Aside0 (Below w.heap.size w wc))
   case first =>
    have x9 := E9.1
    have x10 := E10.1
    clear E9 E10
    cases ri
    ·simp only [if_false, Bool.false_eq_true] at x9 x10
     subst x9
     subst x10
     have hc_qs_2 : w32_.cell? ⟨qs, 2, none⟩ = some (.int .i64 tm) := (blk_cell B_qs.1 2).trans rfl
     have hcf_qs_8 := blk_frozen B_qs.1 8
     have hc_qs_8 : w32_.cell? ⟨qs, 8, none⟩ = some (.int .i64 s8) := (blk_cell B_qs.1 8).trans rfl
     have hcf_qs_9 := blk_frozen B_qs.1 9
     have hc_qs_9 : w32_.cell? ⟨qs, 9, none⟩ = some (.int .i64 s9) := (blk_cell B_qs.1 9).trans rfl
     go_wp2_with (fail)
     clear hc_qs_2 hcf_qs_8 hc_qs_8 hcf_qs_9 hc_qs_9
     have n0_ : Aside0 (((w32_.setCell ⟨qs, 8, none⟩ (.int .i64 tm)).setCell ⟨qs, 9, none⟩ (.int .i64 0)).heap[qp]? = some (.cells #[.int .i64 p0, .int .i64 p1, .int .i64 p2, .int .i64 p3, .int .i64 p4, .int .i64 p5, .int .i64 p6, .int .i64 p7, .int .i64 p8, .int .i64 p9, .int .i64 p10, .int .i64 p11] 23 (0, 0))) := ⟨blk_far (blk_far (B_qp.1) N_qp_qs.1 _) N_qp_qs.1 _⟩
     have n1_ : Aside0 (((w32_.setCell ⟨qs, 8, none⟩ (.int .i64 tm)).setCell ⟨qs, 9, none⟩ (.int .i64 0)).heap[qs]? = some (.cells #[.int .i64 r1, .int .i64 r2, .int .i64 tm, .bool s3, .int .i64 he, .int .i64 ho, .bool r7, .slice uA r8.length uc, .int .i64 tm, .int .i64 0, .int .i64 li] 30 (0, 0))) := ⟨by have h_ := blk_set (blk_set (B_qs.1) 8 (.int .i64 tm)) 9 (.int .i64 0); simp only [zA, zB, zC] at h_; exact h_⟩
     have n2_ : Aside0 (((w32_.setCell ⟨qs, 8, none⟩ (.int .i64 tm)).setCell ⟨qs, 9, none⟩ (.int .i64 0)).heap[qr]? = some (.cells #[.int .i64 0, .int .i64 0, .int .i64 0, .bool false, .int .i64 0, .int .i64 0, .bool false, .slice none 0 0, .int .i64 0, .int .i64 0, .int .i64 0] 30 (0, 0))) := ⟨blk_far (blk_far (B_qr.1) N_qr_qs.1 _) N_qr_qs.1 _⟩
     have n3_ : Aside0 (Kd.R k82 82 ((w32_.setCell ⟨qs, 8, none⟩ (.int .i64 tm)).setCell ⟨qs, 9, none⟩ (.int .i64 0)) w.heap.size (fun k_ => some k_ = ((.slice uA r8.length uc) : Value).ownBlock) (.slice uA r8.length uc) r8) := ⟨Kd.R_far (Kd.R_far (R_u.1) (hx.away R_u.1 B_qs.1 (by decide)) _) (hx.away R_u.1 B_qs.1 (by decide)) _⟩
     have n4_ : Aside0 (Below w.heap.size w ((w32_.setCell ⟨qs, 8, none⟩ (.int .i64 tm)).setCell ⟨qs, 9, none⟩ (.int .i64 0))) := ⟨below_set (below_set (HB.1) E_qs.1) E_qs.1⟩
     clear B_qp B_qs B_qr R_u HB
     have B_qp := n0_
     have B_qs := n1_
     have B_qr := n2_
     have R_u := n3_
     have HB := n4_
     clear n0_ n1_ n2_ n3_ n4_
     generalize ((w32_.setCell ⟨qs, 8, none⟩ (.int .i64 tm)).setCell ⟨qs, 9, none⟩ (.int .i64 0)) = w33_ at B_qp B_qs B_qr R_u HB ⊢
     go_meet
     case rel => exact ⟨B_qp, B_qs, B_qr, R_u, HB⟩
    ·simp only [if_true] at x9 x10
     subst x9
     subst x10
     go_wp2_with (fail)
     go_meet
     case rel => exact ⟨B_qp, B_qs, B_qr, R_u, HB⟩
   case rest =>
    clear E9 E10 B_qp B_qs B_qr R_u HB
    obtain ⟨w34_, ew_⟩ : ∃ x, x = wc := ⟨_, rfl⟩
    subst ew_
    obtain ⟨B_qp, B_qs, B_qr, R_u, HB⟩ := hcut
    obtain ⟨hc_qs_0, hc_qs_1, hc_qs_2, hc_qs_3, hc_qs_4, hc_qs_5, hc_qs_6, hc_qs_7, hc_qs_8, hc_qs_9, hc_qs_10⟩ := cc11 B_qs.1
    have hcf_qr_0 := blk_frozen B_qr.1 0
    have hc_qr_0 : w34_.cell? ⟨qr, 0, none⟩ = some (.int .i64 0) := (blk_cell B_qr.1 0).trans rfl
    have hcf_qr_1 := blk_frozen B_qr.1 1
    have hc_qr_1 : w34_.cell? ⟨qr, 1, none⟩ = some (.int .i64 0) := (blk_cell B_qr.1 1).trans rfl
    have hcf_qr_2 := blk_frozen B_qr.1 2
    have hc_qr_2 : w34_.cell? ⟨qr, 2, none⟩ = some (.int .i64 0) := (blk_cell B_qr.1 2).trans rfl
    have hcf_qr_3 := blk_frozen B_qr.1 3
    have hc_qr_3 : w34_.cell? ⟨qr, 3, none⟩ = some (.bool false) := (blk_cell B_qr.1 3).trans rfl
    have hcf_qr_4 := blk_frozen B_qr.1 4
    have hc_qr_4 : w34_.cell? ⟨qr, 4, none⟩ = some (.int .i64 0) := (blk_cell B_qr.1 4).trans rfl
    have hcf_qr_5 := blk_frozen B_qr.1 5
    have hc_qr_5 : w34_.cell? ⟨qr, 5, none⟩ = some (.int .i64 0) := (blk_cell B_qr.1 5).trans rfl
    have hcf_qr_6 := blk_frozen B_qr.1 6
    have hc_qr_6 : w34_.cell? ⟨qr, 6, none⟩ = some (.bool false) := (blk_cell B_qr.1 6).trans rfl
    have hcf_qr_7 := blk_frozen B_qr.1 7
    have hc_qr_7 : w34_.cell? ⟨qr, 7, none⟩ = some (.slice none 0 0) := (blk_cell B_qr.1 7).trans rfl
    have hcf_qr_8 := blk_frozen B_qr.1 8
    have hc_qr_8 : w34_.cell? ⟨qr, 8, none⟩ = some (.int .i64 0) := (blk_cell B_qr.1 8).trans rfl
    have hcf_qr_9 := blk_frozen B_qr.1 9
    have hc_qr_9 : w34_.cell? ⟨qr, 9, none⟩ = some (.int .i64 0) := (blk_cell B_qr.1 9).trans rfl
    have hcf_qr_10 := blk_frozen B_qr.1 10
    have hc_qr_10 : w34_.cell? ⟨qr, 10, none⟩ = some (.int .i64 0) := (blk_cell B_qr.1 10).trans rfl
    go_wp2_with (fail)
    clear hc_qs_0 hc_qs_1 hc_qs_2 hc_qs_3 hc_qs_4 hc_qs_5 hc_qs_6 hc_qs_7 hc_qs_8 hc_qs_9 hc_qs_10 hcf_qr_0 hc_qr_0 hcf_qr_1 hc_qr_1 hcf_qr_2 hc_qr_2 hcf_qr_3 hc_qr_3 hcf_qr_4 hc_qr_4 hcf_qr_5 hc_qr_5 hcf_qr_6 hc_qr_6 hcf_qr_7 hc_qr_7 hcf_qr_8 hc_qr_8 hcf_qr_9 hc_qr_9 hcf_qr_10 hc_qr_10
    have n0_ : Aside0 ((((((((((((w34_.setCell ⟨qr, 0, none⟩ (.int .i64 r1)).setCell ⟨qr, 1, none⟩ (.int .i64 r2)).setCell ⟨qr, 2, none⟩ (.int .i64 tm)).setCell ⟨qr, 3, none⟩ (.bool s3)).setCell ⟨qr, 4, none⟩ (.int .i64 he)).setCell ⟨qr, 5, none⟩ (.int .i64 ho)).setCell ⟨qr, 6, none⟩ (.bool r7)).setCell ⟨qr, 7, none⟩ (.slice uA r8.length uc)).setCell ⟨qr, 8, none⟩ (.int .i64 r9)).setCell ⟨qr, 9, none⟩ (.int .i64 r10)).setCell ⟨qr, 10, none⟩ (.int .i64 li)).heap[qp]? = some (.cells #[.int .i64 p0, .int .i64 p1, .int .i64 p2, .int .i64 p3, .int .i64 p4, .int .i64 p5, .int .i64 p6, .int .i64 p7, .int .i64 p8, .int .i64 p9, .int .i64 p10, .int .i64 p11] 23 (0, 0))) := ⟨blk_far (blk_far (blk_far (blk_far (blk_far (blk_far (blk_far (blk_far (blk_far (blk_far (blk_far (B_qp.1) N_qp_qr.1 _) N_qp_qr.1 _) N_qp_qr.1 _) N_qp_qr.1 _) N_qp_qr.1 _) N_qp_qr.1 _) N_qp_qr.1 _) N_qp_qr.1 _) N_qp_qr.1 _) N_qp_qr.1 _) N_qp_qr.1 _⟩
    have n1_ : Aside0 ((((((((((((w34_.setCell ⟨qr, 0, none⟩ (.int .i64 r1)).setCell ⟨qr, 1, none⟩ (.int .i64 r2)).setCell ⟨qr, 2, none⟩ (.int .i64 tm)).setCell ⟨qr, 3, none⟩ (.bool s3)).setCell ⟨qr, 4, none⟩ (.int .i64 he)).setCell ⟨qr, 5, none⟩ (.int .i64 ho)).setCell ⟨qr, 6, none⟩ (.bool r7)).setCell ⟨qr, 7, none⟩ (.slice uA r8.length uc)).setCell ⟨qr, 8, none⟩ (.int .i64 r9)).setCell ⟨qr, 9, none⟩ (.int .i64 r10)).setCell ⟨qr, 10, none⟩ (.int .i64 li)).heap[qs]? = some (.cells #[.int .i64 r1, .int .i64 r2, .int .i64 tm, .bool s3, .int .i64 he, .int .i64 ho, .bool r7, .slice uA r8.length uc, .int .i64 r9, .int .i64 r10, .int .i64 li] 30 (0, 0))) := ⟨blk_far (blk_far (blk_far (blk_far (blk_far (blk_far (blk_far (blk_far (blk_far (blk_far (blk_far (B_qs.1) N_qs_qr.1 _) N_qs_qr.1 _) N_qs_qr.1 _) N_qs_qr.1 _) N_qs_qr.1 _) N_qs_qr.1 _) N_qs_qr.1 _) N_qs_qr.1 _) N_qs_qr.1 _) N_qs_qr.1 _) N_qs_qr.1 _⟩
    have n2_ : Aside0 ((((((((((((w34_.setCell ⟨qr, 0, none⟩ (.int .i64 r1)).setCell ⟨qr, 1, none⟩ (.int .i64 r2)).setCell ⟨qr, 2, none⟩ (.int .i64 tm)).setCell ⟨qr, 3, none⟩ (.bool s3)).setCell ⟨qr, 4, none⟩ (.int .i64 he)).setCell ⟨qr, 5, none⟩ (.int .i64 ho)).setCell ⟨qr, 6, none⟩ (.bool r7)).setCell ⟨qr, 7, none⟩ (.slice uA r8.length uc)).setCell ⟨qr, 8, none⟩ (.int .i64 r9)).setCell ⟨qr, 9, none⟩ (.int .i64 r10)).setCell ⟨qr, 10, none⟩ (.int .i64 li)).heap[qr]? = some (.cells #[.int .i64 r1, .int .i64 r2, .int .i64 tm, .bool s3, .int .i64 he, .int .i64 ho, .bool r7, .slice uA r8.length uc, .int .i64 r9, .int .i64 r10, .int .i64 li] 30 (0, 0))) := ⟨by have h_ := blk_set (blk_set (blk_set (blk_set (blk_set (blk_set (blk_set (blk_set (blk_set (blk_set (blk_set (B_qr.1) 0 (.int .i64 r1)) 1 (.int .i64 r2)) 2 (.int .i64 tm)) 3 (.bool s3)) 4 (.int .i64 he)) 5 (.int .i64 ho)) 6 (.bool r7)) 7 (.slice uA r8.length uc)) 8 (.int .i64 r9)) 9 (.int .i64 r10)) 10 (.int .i64 li); simp only [zA, zB, zC] at h_; exact h_⟩
    have n3_ : Aside0 (Kd.R k82 82 (((((((((((w34_.setCell ⟨qr, 0, none⟩ (.int .i64 r1)).setCell ⟨qr, 1, none⟩ (.int .i64 r2)).setCell ⟨qr, 2, none⟩ (.int .i64 tm)).setCell ⟨qr, 3, none⟩ (.bool s3)).setCell ⟨qr, 4, none⟩ (.int .i64 he)).setCell ⟨qr, 5, none⟩ (.int .i64 ho)).setCell ⟨qr, 6, none⟩ (.bool r7)).setCell ⟨qr, 7, none⟩ (.slice uA r8.length uc)).setCell ⟨qr, 8, none⟩ (.int .i64 r9)).setCell ⟨qr, 9, none⟩ (.int .i64 r10)).setCell ⟨qr, 10, none⟩ (.int .i64 li)) w.heap.size (fun k_ => some k_ = ((.slice uA r8.length uc) : Value).ownBlock) (.slice uA r8.length uc) r8) := ⟨Kd.R_far (Kd.R_far (Kd.R_far (Kd.R_far (Kd.R_far (Kd.R_far (Kd.R_far (Kd.R_far (Kd.R_far (Kd.R_far (Kd.R_far (R_u.1) (hx.away R_u.1 B_qr.1 (by decide)) _) (hx.away R_u.1 B_qr.1 (by decide)) _) (hx.away R_u.1 B_qr.1 (by decide)) _) (hx.away R_u.1 B_qr.1 (by decide)) _) (hx.away R_u.1 B_qr.1 (by decide)) _) (hx.away R_u.1 B_qr.1 (by decide)) _) (hx.away R_u.1 B_qr.1 (by decide)) _) (hx.away R_u.1 B_qr.1 (by decide)) _) (hx.away R_u.1 B_qr.1 (by decide)) _) (hx.away R_u.1 B_qr.1 (by decide)) _) (hx.away R_u.1 B_qr.1 (by decide)) _⟩
    have n4_ : Aside0 (Below w.heap.size w (((((((((((w34_.setCell ⟨qr, 0, none⟩ (.int .i64 r1)).setCell ⟨qr, 1, none⟩ (.int .i64 r2)).setCell ⟨qr, 2, none⟩ (.int .i64 tm)).setCell ⟨qr, 3, none⟩ (.bool s3)).setCell ⟨qr, 4, none⟩ (.int .i64 he)).setCell ⟨qr, 5, none⟩ (.int .i64 ho)).setCell ⟨qr, 6, none⟩ (.bool r7)).setCell ⟨qr, 7, none⟩ (.slice uA r8.length uc)).setCell ⟨qr, 8, none⟩ (.int .i64 r9)).setCell ⟨qr, 9, none⟩ (.int .i64 r10)).setCell ⟨qr, 10, none⟩ (.int .i64 li))) := ⟨below_set (below_set (below_set (below_set (below_set (below_set (below_set (below_set (below_set (below_set (below_set (HB.1) E_qr.1) E_qr.1) E_qr.1) E_qr.1) E_qr.1) E_qr.1) E_qr.1) E_qr.1) E_qr.1) E_qr.1) E_qr.1⟩
    clear B_qp B_qs B_qr R_u HB
    have B_qp := n0_
    have B_qs := n1_
    have B_qr := n2_
    have R_u := n3_
    have HB := n4_
    clear n0_ n1_ n2_ n3_ n4_
    generalize (((((((((((w34_.setCell ⟨qr, 0, none⟩ (.int .i64 r1)).setCell ⟨qr, 1, none⟩ (.int .i64 r2)).setCell ⟨qr, 2, none⟩ (.int .i64 tm)).setCell ⟨qr, 3, none⟩ (.bool s3)).setCell ⟨qr, 4, none⟩ (.int .i64 he)).setCell ⟨qr, 5, none⟩ (.int .i64 ho)).setCell ⟨qr, 6, none⟩ (.bool r7)).setCell ⟨qr, 7, none⟩ (.slice uA r8.length uc)).setCell ⟨qr, 8, none⟩ (.int .i64 r9)).setCell ⟨qr, 9, none⟩ (.int .i64 r10)).setCell ⟨qr, 10, none⟩ (.int .i64 li)) = w35_ at B_qp B_qs B_qr R_u HB ⊢
    refine bodyPost_ret (results_cell_row rfl _ _ qr 30 #[.int .i64 r1, .int .i64 r2, .int .i64 tm, .bool s3, .int .i64 he, .int .i64 ho, .bool r7, .slice uA r8.length uc, .int .i64 r9, .int .i64 r10, .int .i64 li] (0, 0) _ rfl B_qr.1 Tryd.underlying30 rfl (by kernel_rfl)) rfl ?_
    exact ⟨.slice uA r8.length uc, rfl, Kd.R_mono R_u.1 (fun _ _ => trivial), HB.1⟩

end Go.Proofs.YtigkjbaclpklpaaDoor.Q
