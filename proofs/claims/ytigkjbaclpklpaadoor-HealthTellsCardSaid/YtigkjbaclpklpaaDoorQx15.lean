/- The calls of these Go functions answer what the Lean functions beside them answer; written by a program (wip/pr2.py, out of the print of the loaded program); under no condition but those that stand in the theorems. -/
import Derived.Test.YtigkjbaclpklpaaDoorQx0
import Derived.Test.YtigkjbaclpklpaaDoorQx4
import Derived.Test.YtigkjbaclpklpaaDoorQx5
import Derived.Test.YtigkjbaclpklpaaDoorQx9
import Derived.Test.YtigkjbaclpklpaaDoorQx12
namespace Go.Proofs.YtigkjbaclpklpaaDoor.Q
open Go.RowKit Go.Proofs.YtigkjbaclpklpaaDoorW.PrintWords Go.Proofs.YtigkjbaclpklpaaDoorW.PrintLast Go.Proofs.YtigkjbaclpklpaaDoorW.PrintMore
attribute [local go_sem] max2_int min2_int max_two min_two max_three min_three max_four min_four   -- for this text's walks alone
set_option linter.unusedVariables false
set_option linter.unusedSimpArgs false

/-! Front's methods, by hand -/
attribute [local go_sem] hx.fl
set_option maxHeartbeats 8000000 in
set_option maxRecDepth 100000 in
theorem health_Front_Health.calls (k : Nat) (g : Nat) (p0 p1 p2 p3 p4 p5 p6 p7 p8 p9 p10 p11 : Int) (s0 s1 s2 : Int) (s3 : Bool) (s4 s5 : Int) (s6 : Bool) (sA : Option Addr) (sc : Nat) (sl : List S82) (s8 s9 s10 : Int) (r : Int) (w : World) (hrs : Kd.C k82 w sA sl.length sl) (hcs : sl.length ≤ sc) (hb : w.heap[g]? = some (.cells #[.int .i64 p0, .int .i64 p1, .int .i64 p2, .int .i64 p3, .int .i64 p4, .int .i64 p5, .int .i64 p6, .int .i64 p7, .int .i64 p8, .int .i64 p9, .int .i64 p10, .int .i64 p11, .int .i64 s0, .int .i64 s1, .int .i64 s2, .bool s3, .int .i64 s4, .int .i64 s5, .bool s6, .slice sA sl.length sc, .int .i64 s8, .int .i64 s9, .int .i64 s10] 35 (0, 0))) (h : health_Of.f k p0 p1 p2 p3 p4 p5 p6 p7 p8 p9 p10 p11 s0 s1 s2 s3 s4 s5 s6 sl s8 s9 s10 = some r) :
  Calls Tryd.prog 13 #[.pointer (some ⟨g, 0, none⟩)] w fun e w' => e = .returned (.int .i64 r) ∧ Below w.heap.size w w' := by
 have HRs := Aside0.mk hrs
 have HCs := Aside0.mk hcs
 have B_g := Aside0.mk hb
 have HF := Aside0.mk h
 clear hrs hcs hb h
 have HB := Aside0.mk (Below.refl w.heap.size w)
 go_enter Tryd.func13, Tryd.ntmps13
 go_upto_region 3 with (fail)
 replace B_g := Aside0.mk (blk_drew B_g.1)
 replace HB := Aside0.mk (below_drew1 HB.1)
 refine start_ (n := 10) (S := fun w' => w'.heap[g]? = some (.cells #[.int .i64 p0, .int .i64 p1, .int .i64 p2, .int .i64 p3, .int .i64 p4, .int .i64 p5, .int .i64 p6, .int .i64 p7, .int .i64 p8, .int .i64 p9, .int .i64 p10, .int .i64 p11, .int .i64 s0, .int .i64 s1, .int .i64 s2, .bool s3, .int .i64 s4, .int .i64 s5, .bool s6, .slice sA sl.length sc, .int .i64 s8, .int .i64 s9, .int .i64 s10] 35 (0, 0))) (ds := []) (bs 10 0) (by kernel_rfl) rfl (by rfl) B_g.1 (fun hHeld => ?_)
 generalize w.drew = w1_ at B_g HB hHeld ⊢
 refine pu 0 5 1 ?_
 refine pu 1 6 3 ?_
 refine pu 2 7 7 ?_
 refine pu 4 9 23 ?_
 refine pu 5 10 55 ?_
 refine pu 6 11 119 ?_
 refine take_ (i := 3) (N := some 8) (v := ?_) (a' := ?_) (bs 10 127) rfl rfl (by kernel_rfl) (fun _ _ _ h => h) (Or.inl ⟨by rfl, ?_⟩) hHeld ?_ ?_
 rotate_left
 ·rintro w' s_g
  have c_0 : w'.cell? ⟨g, 0, none⟩ = some (.int .i64 p0) := (blk_cell s_g 0).trans rfl
  have c_1 : w'.cell? ⟨g, 1, none⟩ = some (.int .i64 p1) := (blk_cell s_g 1).trans rfl
  have c_2 : w'.cell? ⟨g, 2, none⟩ = some (.int .i64 p2) := (blk_cell s_g 2).trans rfl
  have c_3 : w'.cell? ⟨g, 3, none⟩ = some (.int .i64 p3) := (blk_cell s_g 3).trans rfl
  have c_4 : w'.cell? ⟨g, 4, none⟩ = some (.int .i64 p4) := (blk_cell s_g 4).trans rfl
  have c_5 : w'.cell? ⟨g, 5, none⟩ = some (.int .i64 p5) := (blk_cell s_g 5).trans rfl
  have c_6 : w'.cell? ⟨g, 6, none⟩ = some (.int .i64 p6) := (blk_cell s_g 6).trans rfl
  have c_7 : w'.cell? ⟨g, 7, none⟩ = some (.int .i64 p7) := (blk_cell s_g 7).trans rfl
  have c_8 : w'.cell? ⟨g, 8, none⟩ = some (.int .i64 p8) := (blk_cell s_g 8).trans rfl
  have c_9 : w'.cell? ⟨g, 9, none⟩ = some (.int .i64 p9) := (blk_cell s_g 9).trans rfl
  have c_10 : w'.cell? ⟨g, 10, none⟩ = some (.int .i64 p10) := (blk_cell s_g 10).trans rfl
  have c_11 : w'.cell? ⟨g, 11, none⟩ = some (.int .i64 p11) := (blk_cell s_g 11).trans rfl
  clear s_g
  go_simp
  with_reducible rfl
 rotate_left
 ·simp only [Act.put, zA, zB, zC, i64_w, i32_w]
  rfl
 refine take_ (i := 7) (N := some 12) (v := ?_) (a' := ?_) (bs 10 255) rfl rfl (by kernel_rfl) (fun _ _ _ h => h) (Or.inl ⟨by rfl, ?_⟩) hHeld ?_ ?_
 rotate_left
 ·rintro w' s_g
  have c_12 : w'.cell? ⟨g, 12, none⟩ = some (.int .i64 s0) := (blk_cell s_g 12).trans rfl
  have c_13 : w'.cell? ⟨g, 13, none⟩ = some (.int .i64 s1) := (blk_cell s_g 13).trans rfl
  have c_14 : w'.cell? ⟨g, 14, none⟩ = some (.int .i64 s2) := (blk_cell s_g 14).trans rfl
  have c_15 : w'.cell? ⟨g, 15, none⟩ = some (.bool s3) := (blk_cell s_g 15).trans rfl
  have c_16 : w'.cell? ⟨g, 16, none⟩ = some (.int .i64 s4) := (blk_cell s_g 16).trans rfl
  have c_17 : w'.cell? ⟨g, 17, none⟩ = some (.int .i64 s5) := (blk_cell s_g 17).trans rfl
  have c_18 : w'.cell? ⟨g, 18, none⟩ = some (.bool s6) := (blk_cell s_g 18).trans rfl
  have c_19 : w'.cell? ⟨g, 19, none⟩ = some (.slice sA sl.length sc) := (blk_cell s_g 19).trans rfl
  have c_20 : w'.cell? ⟨g, 20, none⟩ = some (.int .i64 s8) := (blk_cell s_g 20).trans rfl
  have c_21 : w'.cell? ⟨g, 21, none⟩ = some (.int .i64 s9) := (blk_cell s_g 21).trans rfl
  have c_22 : w'.cell? ⟨g, 22, none⟩ = some (.int .i64 s10) := (blk_cell s_g 22).trans rfl
  clear s_g
  go_simp
  with_reducible rfl
 rotate_left
 ·simp only [Act.put, zA, zB, zC, i64_w, i32_w]
  rfl
 refine one_ (i := 8) (N := some 13) (bs 10 511) rfl rfl (by kernel_rfl) (by decide) (fun K hK => ?_)
 refine goes_ Tryd.func26 (by kernel_rfl) rfl #[.agg #[.int .i64 p0, .int .i64 p1, .int .i64 p2, .int .i64 p3, .int .i64 p4, .int .i64 p5, .int .i64 p6, .int .i64 p7, .int .i64 p8, .int .i64 p9, .int .i64 p10, .int .i64 p11], .agg #[.int .i64 s0, .int .i64 s1, .int .i64 s2, .bool s3, .int .i64 s4, .int .i64 s5, .bool s6, .slice sA sl.length sc, .int .i64 s8, .int .i64 s9, .int .i64 s10]] (by rfl) rfl rfl (by (try simp only [List.map_toArray, List.map_cons, List.map_nil]); first | done | rfl) ?_
 with_reducible refine (health_Of.calls k p0 p1 p2 p3 p4 p5 p6 p7 p8 p9 p10 p11 s0 s1 s2 s3 s4 s5 s6 sA sc sl s8 s9 s10 r _ (Kd.C_below HRs.1 HB.1) HCs.1 HF.1).mono ?_
 rintro e w2_ ⟨rfl, hb⟩
 replace B_g := bb hb B_g.1
 replace HB := Aside0.mk (below_step HB.1 hb)
 clear hb
 refine ⟨_, rfl, ?_⟩
 refine hK.out _ _ B_g.1 (fun hHeld => ?_)
 clear hK K
 refine nm 13 ?_
 refine pu 9 2 1023 ?_
 refine done_ (by kernel_rfl) ?_
 go_wp2
 go_ret
 exact ⟨rfl, HB.1⟩

set_option maxHeartbeats 8000000 in
set_option maxRecDepth 100000 in
theorem health_Front_synced.boot (k : Nat) (g : Nat) (p0 p1 p2 p3 p4 p5 p6 p7 p8 p9 p10 p11 : Int) (s0 s1 s2 : Int) (s3 : Bool) (s4 s5 : Int) (s6 : Bool) (sA : Option Addr) (sc : Nat) (sl : List S82) (s8 s9 s10 : Int) (w : World) (hrs : Kd.C k82 w sA sl.length sl) (hcs : sl.length ≤ sc) (hb : w.heap[g]? = some (.cells #[.int .i64 p0, .int .i64 p1, .int .i64 p2, .int .i64 p3, .int .i64 p4, .int .i64 p5, .int .i64 p6, .int .i64 p7, .int .i64 p8, .int .i64 p9, .int .i64 p10, .int .i64 p11, .int .i64 s0, .int .i64 s1, .int .i64 s2, .bool s3, .int .i64 s4, .int .i64 s5, .bool s6, .slice sA sl.length sc, .int .i64 s8, .int .i64 s9, .int .i64 s10] 35 (0, 0))) (h : health_Of.f k p0 p1 p2 p3 p4 p5 p6 p7 p8 p9 p10 p11 s0 s1 s2 s3 s4 s5 s6 sl s8 s9 s10 = some 0) :
  Calls Tryd.prog 19 #[.pointer (some ⟨g, 0, none⟩)] w fun e w' => e = .returned (.int .i64 20) ∧ Below w.heap.size w w' := by
 have HRs := Aside0.mk hrs
 have HCs := Aside0.mk hcs
 have B_g := Aside0.mk hb
 have HF := Aside0.mk h
 clear hrs hcs hb h
 have HB := Aside0.mk (Below.refl w.heap.size w)
 go_enter Tryd.func19, Tryd.ntmps19
 go_upto_region 3 with (fail)
 go_wp2_with ((go_at_call 13; (with_reducible refine (health_Front_Health.calls k g p0 p1 p2 p3 p4 p5 p6 p7 p8 p9 p10 p11 s0 s1 s2 s3 s4 s5 s6 sA sc sl s8 s9 s10 0 _ (Kd.C_below HRs.1 HB.1) HCs.1 B_g.1 HF.1).mono ?_); rintro e w1_ ⟨rfl, hb⟩; replace B_g := bb hb B_g.1; replace HB := Aside0.mk (below_step HB.1 hb); clear hb))
 go_ret
 exact ⟨rfl, HB.1⟩

set_option maxHeartbeats 8000000 in
set_option maxRecDepth 100000 in
theorem health_Front_synced.ok (k : Nat) (g : Nat) (p0 p1 p2 p3 p4 p5 p6 p7 p8 p9 p10 p11 : Int) (s0 s1 s2 : Int) (s3 : Bool) (s4 s5 : Int) (s6 : Bool) (sA : Option Addr) (sc : Nat) (sl : List S82) (s8 s9 s10 : Int) (r : Int) (hr : r ≠ 0) (w : World) (hrs : Kd.C k82 w sA sl.length sl) (hcs : sl.length ≤ sc) (hb : w.heap[g]? = some (.cells #[.int .i64 p0, .int .i64 p1, .int .i64 p2, .int .i64 p3, .int .i64 p4, .int .i64 p5, .int .i64 p6, .int .i64 p7, .int .i64 p8, .int .i64 p9, .int .i64 p10, .int .i64 p11, .int .i64 s0, .int .i64 s1, .int .i64 s2, .bool s3, .int .i64 s4, .int .i64 s5, .bool s6, .slice sA sl.length sc, .int .i64 s8, .int .i64 s9, .int .i64 s10] 35 (0, 0))) (h : health_Of.f k p0 p1 p2 p3 p4 p5 p6 p7 p8 p9 p10 p11 s0 s1 s2 s3 s4 s5 s6 sl s8 s9 s10 = some r) :
  Calls Tryd.prog 19 #[.pointer (some ⟨g, 0, none⟩)] w fun e w' => e = .returned (.int .i64 0) ∧ Below w.heap.size w w' := by
 have HRs := Aside0.mk hrs
 have HCs := Aside0.mk hcs
 have B_g := Aside0.mk hb
 have HF := Aside0.mk h
 clear hrs hcs hb h
 have HB := Aside0.mk (Below.refl w.heap.size w)
 have hr0 : decide (r = 0) = false := decide_eq_false hr
 go_enter Tryd.func19, Tryd.ntmps19
 go_upto_region 3 with (fail)
 go_wp2_with ((go_at_call 13; (with_reducible refine (health_Front_Health.calls k g p0 p1 p2 p3 p4 p5 p6 p7 p8 p9 p10 p11 s0 s1 s2 s3 s4 s5 s6 sA sc sl s8 s9 s10 r _ (Kd.C_below HRs.1 HB.1) HCs.1 B_g.1 HF.1).mono ?_); rintro e w1_ ⟨rfl, hb⟩; replace B_g := bb hb B_g.1; replace HB := Aside0.mk (below_step HB.1 hb); clear hb))
 go_ret
 exact ⟨rfl, HB.1⟩

set_option maxHeartbeats 8000000 in
set_option maxRecDepth 100000 in
theorem health_Front_Now.boot (k : Nat) (g : Nat) (p0 p1 p2 p3 p4 p5 p6 p7 p8 p9 p10 p11 : Int) (s0 s1 s2 : Int) (s3 : Bool) (s4 s5 : Int) (s6 : Bool) (sA : Option Addr) (sc : Nat) (sl : List S82) (s8 s9 s10 : Int) (w : World) (hrs : Kd.C k82 w sA sl.length sl) (hcs : sl.length ≤ sc) (hb : w.heap[g]? = some (.cells #[.int .i64 p0, .int .i64 p1, .int .i64 p2, .int .i64 p3, .int .i64 p4, .int .i64 p5, .int .i64 p6, .int .i64 p7, .int .i64 p8, .int .i64 p9, .int .i64 p10, .int .i64 p11, .int .i64 s0, .int .i64 s1, .int .i64 s2, .bool s3, .int .i64 s4, .int .i64 s5, .bool s6, .slice sA sl.length sc, .int .i64 s8, .int .i64 s9, .int .i64 s10] 35 (0, 0))) (h : health_Of.f k p0 p1 p2 p3 p4 p5 p6 p7 p8 p9 p10 p11 s0 s1 s2 s3 s4 s5 s6 sl s8 s9 s10 = some 0) :
  Calls Tryd.prog 7 #[.pointer (some ⟨g, 0, none⟩)] w fun e w' => e = .returned (.tuple #[.int .i64 0, .int .i64 20]) ∧ Below w.heap.size w w' := by
 have HRs := Aside0.mk hrs
 have HCs := Aside0.mk hcs
 have B_g := Aside0.mk hb
 have HF := Aside0.mk h
 clear hrs hcs hb h
 have HB := Aside0.mk (Below.refl w.heap.size w)
 go_enter Tryd.func7, Tryd.ntmps7
 go_upto_region 2 with ((go_at_call 19; (with_reducible refine (health_Front_synced.boot k g p0 p1 p2 p3 p4 p5 p6 p7 p8 p9 p10 p11 s0 s1 s2 s3 s4 s5 s6 sA sc sl s8 s9 s10 _ (Kd.C_below HRs.1 HB.1) HCs.1 B_g.1 HF.1).mono ?_); rintro e w1_ ⟨rfl, hb⟩; replace B_g := bb hb B_g.1; replace HB := Aside0.mk (below_step HB.1 hb); clear hb))
 go_wp2_with (fail)
 go_ret2
 exact ⟨rfl, HB.1⟩

set_option maxHeartbeats 8000000 in
set_option maxRecDepth 100000 in
theorem health_Front_Now.ok (k : Nat) (g : Nat) (p0 p1 p2 p3 p4 p5 p6 p7 p8 p9 p10 p11 : Int) (s0 s1 s2 : Int) (s3 : Bool) (s4 s5 : Int) (s6 : Bool) (sA : Option Addr) (sc : Nat) (sl : List S82) (s8 s9 s10 : Int) (r : Int) (hr : r ≠ 0) (w : World) (hrs : Kd.C k82 w sA sl.length sl) (hcs : sl.length ≤ sc) (hb : w.heap[g]? = some (.cells #[.int .i64 p0, .int .i64 p1, .int .i64 p2, .int .i64 p3, .int .i64 p4, .int .i64 p5, .int .i64 p6, .int .i64 p7, .int .i64 p8, .int .i64 p9, .int .i64 p10, .int .i64 p11, .int .i64 s0, .int .i64 s1, .int .i64 s2, .bool s3, .int .i64 s4, .int .i64 s5, .bool s6, .slice sA sl.length sc, .int .i64 s8, .int .i64 s9, .int .i64 s10] 35 (0, 0))) (h : health_Of.f k p0 p1 p2 p3 p4 p5 p6 p7 p8 p9 p10 p11 s0 s1 s2 s3 s4 s5 s6 sl s8 s9 s10 = some r) :
  Calls Tryd.prog 7 #[.pointer (some ⟨g, 0, none⟩)] w fun e w' => e = .returned (.tuple #[.int .i64 s2, .int .i64 0]) ∧ Below w.heap.size w w' := by
 have HRs := Aside0.mk hrs
 have HCs := Aside0.mk hcs
 have B_g := Aside0.mk hb
 have HF := Aside0.mk h
 clear hrs hcs hb h
 have HB := Aside0.mk (Below.refl w.heap.size w)
 have hr0 : decide (r = 0) = false := decide_eq_false hr
 go_enter Tryd.func7, Tryd.ntmps7
 go_upto_region 2 with ((go_at_call 19; (with_reducible refine (health_Front_synced.ok k g p0 p1 p2 p3 p4 p5 p6 p7 p8 p9 p10 p11 s0 s1 s2 s3 s4 s5 s6 sA sc sl s8 s9 s10 r hr _ (Kd.C_below HRs.1 HB.1) HCs.1 B_g.1 HF.1).mono ?_); rintro e w1_ ⟨rfl, hb⟩; replace B_g := bb hb B_g.1; replace HB := Aside0.mk (below_step HB.1 hb); clear hb))
 have hc_g_14 : w1_.cell? ⟨g, 14, none⟩ = some (.int .i64 s2) := (blk_cell B_g.1 14).trans rfl
 go_wp2_with (fail)
 clear hc_g_14
 go_ret2
 exact ⟨rfl, HB.1⟩

set_option maxHeartbeats 8000000 in
set_option maxRecDepth 100000 in
theorem health_Front_Interval.boot (k : Nat) (g : Nat) (p0 p1 p2 p3 p4 p5 p6 p7 p8 p9 p10 p11 : Int) (s0 s1 s2 : Int) (s3 : Bool) (s4 s5 : Int) (s6 : Bool) (sA : Option Addr) (sc : Nat) (sl : List S82) (s8 s9 s10 : Int) (w : World) (hrs : Kd.C k82 w sA sl.length sl) (hcs : sl.length ≤ sc) (hb : w.heap[g]? = some (.cells #[.int .i64 p0, .int .i64 p1, .int .i64 p2, .int .i64 p3, .int .i64 p4, .int .i64 p5, .int .i64 p6, .int .i64 p7, .int .i64 p8, .int .i64 p9, .int .i64 p10, .int .i64 p11, .int .i64 s0, .int .i64 s1, .int .i64 s2, .bool s3, .int .i64 s4, .int .i64 s5, .bool s6, .slice sA sl.length sc, .int .i64 s8, .int .i64 s9, .int .i64 s10] 35 (0, 0))) (h : health_Of.f k p0 p1 p2 p3 p4 p5 p6 p7 p8 p9 p10 p11 s0 s1 s2 s3 s4 s5 s6 sl s8 s9 s10 = some 0) :
  Calls Tryd.prog 8 #[.pointer (some ⟨g, 0, none⟩)] w fun e w' => e = .returned (.tuple #[.agg #[.int .i64 0, .int .i64 0], .int .i64 20]) ∧ Below w.heap.size w w' := by
 have HRs := Aside0.mk hrs
 have HCs := Aside0.mk hcs
 have B_g := Aside0.mk hb
 have HF := Aside0.mk h
 clear hrs hcs hb h
 have HB := Aside0.mk (Below.refl w.heap.size w)
 go_enter Tryd.func8, Tryd.ntmps8
 go_upto_region 1 with (((with_reducible refine gate_dst (N := 2) rfl ?_); refine bx 2 #[.int .i64 0, .int .i64 0] 25 ?_; intro q hg w1_ hbox hb; have N_g_q := nl hg B_g.1; have N_q_g := ng hg B_g.1; have E_q : Aside0 (w.heap.size ≤ q) := ⟨by rw [hg]; exact below_size HB.1⟩; replace B_g := bb hb B_g.1; replace HB := Aside0.mk (below_step HB.1 hb); have B_q := Aside0.mk hbox; clear hb hbox hg))
 go_upto_region 2 with ((go_at_call 19; (with_reducible refine (health_Front_synced.boot k g p0 p1 p2 p3 p4 p5 p6 p7 p8 p9 p10 p11 s0 s1 s2 s3 s4 s5 s6 sA sc sl s8 s9 s10 _ (Kd.C_below HRs.1 HB.1) HCs.1 B_g.1 HF.1).mono ?_); rintro e w2_ ⟨rfl, hb⟩; replace B_g := bb hb B_g.1; replace B_q := bb hb B_q.1; replace HB := Aside0.mk (below_step HB.1 hb); clear hb))
 have hcf_q_0 := blk_frozen B_q.1 0
 have hc_q_0 : w2_.cell? ⟨q, 0, none⟩ = some (.int .i64 0) := (blk_cell B_q.1 0).trans rfl
 have hcf_q_1 := blk_frozen B_q.1 1
 have hc_q_1 : w2_.cell? ⟨q, 1, none⟩ = some (.int .i64 0) := (blk_cell B_q.1 1).trans rfl
 go_wp2_with (fail)
 clear hcf_q_0 hc_q_0 hcf_q_1 hc_q_1
 have n0_ : Aside0 (((w2_.setCell ⟨q, 0, none⟩ (.int .i64 0)).setCell ⟨q, 1, none⟩ (.int .i64 0)).heap[g]? = some (.cells #[.int .i64 p0, .int .i64 p1, .int .i64 p2, .int .i64 p3, .int .i64 p4, .int .i64 p5, .int .i64 p6, .int .i64 p7, .int .i64 p8, .int .i64 p9, .int .i64 p10, .int .i64 p11, .int .i64 s0, .int .i64 s1, .int .i64 s2, .bool s3, .int .i64 s4, .int .i64 s5, .bool s6, .slice sA sl.length sc, .int .i64 s8, .int .i64 s9, .int .i64 s10] 35 (0, 0))) := ⟨blk_far (blk_far (B_g.1) N_g_q.1 _) N_g_q.1 _⟩
 have n1_ : Aside0 (((w2_.setCell ⟨q, 0, none⟩ (.int .i64 0)).setCell ⟨q, 1, none⟩ (.int .i64 0)).heap[q]? = some (.cells #[.int .i64 0, .int .i64 0] 25 (0, 0))) := ⟨by have h_ := blk_set (blk_set (B_q.1) 0 (.int .i64 0)) 1 (.int .i64 0); simp only [zA, zB, zC] at h_; exact h_⟩
 have n2_ : Aside0 (Below w.heap.size w ((w2_.setCell ⟨q, 0, none⟩ (.int .i64 0)).setCell ⟨q, 1, none⟩ (.int .i64 0))) := ⟨below_set (below_set (HB.1) E_q.1) E_q.1⟩
 clear B_g B_q HB
 have B_g := n0_
 have B_q := n1_
 have HB := n2_
 clear n0_ n1_ n2_
 generalize ((w2_.setCell ⟨q, 0, none⟩ (.int .i64 0)).setCell ⟨q, 1, none⟩ (.int .i64 0)) = w3_ at B_g B_q HB ⊢
 refine bodyPost_ret (results_ct rfl _ _ q 25 #[.int .i64 0, .int .i64 0] (0, 0) _ rfl B_q.1 Tryd.underlying25 rfl (by kernel_rfl)) rfl ?_
 exact ⟨rfl, HB.1⟩

set_option maxHeartbeats 8000000 in
set_option maxRecDepth 100000 in
theorem health_Front_Interval.ok (k : Nat) (g : Nat) (p0 p1 p2 p3 p4 p5 p6 p7 p8 p9 p10 p11 : Int) (s0 s1 s2 : Int) (s3 : Bool) (s4 s5 : Int) (s6 : Bool) (sA : Option Addr) (sc : Nat) (sl : List S82) (s8 s9 s10 : Int) (r : Int) (hr : r ≠ 0) (w : World) (hrs : Kd.C k82 w sA sl.length sl) (hcs : sl.length ≤ sc) (hb : w.heap[g]? = some (.cells #[.int .i64 p0, .int .i64 p1, .int .i64 p2, .int .i64 p3, .int .i64 p4, .int .i64 p5, .int .i64 p6, .int .i64 p7, .int .i64 p8, .int .i64 p9, .int .i64 p10, .int .i64 p11, .int .i64 s0, .int .i64 s1, .int .i64 s2, .bool s3, .int .i64 s4, .int .i64 s5, .bool s6, .slice sA sl.length sc, .int .i64 s8, .int .i64 s9, .int .i64 s10] 35 (0, 0))) (h : health_Of.f k p0 p1 p2 p3 p4 p5 p6 p7 p8 p9 p10 p11 s0 s1 s2 s3 s4 s5 s6 sl s8 s9 s10 = some r) :
  Calls Tryd.prog 8 #[.pointer (some ⟨g, 0, none⟩)] w fun e w' => e = .returned (.tuple #[.agg #[.int .i64 s0, .int .i64 s1], .int .i64 0]) ∧ Below w.heap.size w w' := by
 have HRs := Aside0.mk hrs
 have HCs := Aside0.mk hcs
 have B_g := Aside0.mk hb
 have HF := Aside0.mk h
 clear hrs hcs hb h
 have HB := Aside0.mk (Below.refl w.heap.size w)
 have hr0 : decide (r = 0) = false := decide_eq_false hr
 go_enter Tryd.func8, Tryd.ntmps8
 go_upto_region 1 with (((with_reducible refine gate_dst (N := 2) rfl ?_); refine bx 2 #[.int .i64 0, .int .i64 0] 25 ?_; intro q hg w1_ hbox hb; have N_g_q := nl hg B_g.1; have N_q_g := ng hg B_g.1; have E_q : Aside0 (w.heap.size ≤ q) := ⟨by rw [hg]; exact below_size HB.1⟩; replace B_g := bb hb B_g.1; replace HB := Aside0.mk (below_step HB.1 hb); have B_q := Aside0.mk hbox; clear hb hbox hg))
 go_upto_region 2 with ((go_at_call 19; (with_reducible refine (health_Front_synced.ok k g p0 p1 p2 p3 p4 p5 p6 p7 p8 p9 p10 p11 s0 s1 s2 s3 s4 s5 s6 sA sc sl s8 s9 s10 r hr _ (Kd.C_below HRs.1 HB.1) HCs.1 B_g.1 HF.1).mono ?_); rintro e w2_ ⟨rfl, hb⟩; replace B_g := bb hb B_g.1; replace B_q := bb hb B_q.1; replace HB := Aside0.mk (below_step HB.1 hb); clear hb))
 have hc_g_12 : w2_.cell? ⟨g, 12, none⟩ = some (.int .i64 s0) := (blk_cell B_g.1 12).trans rfl
 have hc_g_13 : w2_.cell? ⟨g, 13, none⟩ = some (.int .i64 s1) := (blk_cell B_g.1 13).trans rfl
 have hcf_q_0 := blk_frozen B_q.1 0
 have hc_q_0 : w2_.cell? ⟨q, 0, none⟩ = some (.int .i64 0) := (blk_cell B_q.1 0).trans rfl
 have hcf_q_1 := blk_frozen B_q.1 1
 have hc_q_1 : w2_.cell? ⟨q, 1, none⟩ = some (.int .i64 0) := (blk_cell B_q.1 1).trans rfl
 go_wp2_with (fail)
 clear hc_g_12 hc_g_13 hcf_q_0 hc_q_0 hcf_q_1 hc_q_1
 have n0_ : Aside0 (((w2_.setCell ⟨q, 0, none⟩ (.int .i64 s0)).setCell ⟨q, 1, none⟩ (.int .i64 s1)).heap[g]? = some (.cells #[.int .i64 p0, .int .i64 p1, .int .i64 p2, .int .i64 p3, .int .i64 p4, .int .i64 p5, .int .i64 p6, .int .i64 p7, .int .i64 p8, .int .i64 p9, .int .i64 p10, .int .i64 p11, .int .i64 s0, .int .i64 s1, .int .i64 s2, .bool s3, .int .i64 s4, .int .i64 s5, .bool s6, .slice sA sl.length sc, .int .i64 s8, .int .i64 s9, .int .i64 s10] 35 (0, 0))) := ⟨blk_far (blk_far (B_g.1) N_g_q.1 _) N_g_q.1 _⟩
 have n1_ : Aside0 (((w2_.setCell ⟨q, 0, none⟩ (.int .i64 s0)).setCell ⟨q, 1, none⟩ (.int .i64 s1)).heap[q]? = some (.cells #[.int .i64 s0, .int .i64 s1] 25 (0, 0))) := ⟨by have h_ := blk_set (blk_set (B_q.1) 0 (.int .i64 s0)) 1 (.int .i64 s1); simp only [zA, zB, zC] at h_; exact h_⟩
 have n2_ : Aside0 (Below w.heap.size w ((w2_.setCell ⟨q, 0, none⟩ (.int .i64 s0)).setCell ⟨q, 1, none⟩ (.int .i64 s1))) := ⟨below_set (below_set (HB.1) E_q.1) E_q.1⟩
 clear B_g B_q HB
 have B_g := n0_
 have B_q := n1_
 have HB := n2_
 clear n0_ n1_ n2_
 generalize ((w2_.setCell ⟨q, 0, none⟩ (.int .i64 s0)).setCell ⟨q, 1, none⟩ (.int .i64 s1)) = w3_ at B_g B_q HB ⊢
 refine bodyPost_ret (results_ct rfl _ _ q 25 #[.int .i64 s0, .int .i64 s1] (0, 0) _ rfl B_q.1 Tryd.underlying25 rfl (by kernel_rfl)) rfl ?_
 exact ⟨rfl, HB.1⟩

set_option maxHeartbeats 8000000 in
set_option maxRecDepth 100000 in
theorem health_Front_most.calls (k : Nat) (g : Nat) (p0 p1 p2 p3 p4 p5 p6 p7 p8 p9 p10 p11 : Int) (s0 s1 s2 : Int) (s3 : Bool) (s4 s5 : Int) (s6 : Bool) (sA : Option Addr) (sc : Nat) (sl : List S82) (s8 s9 s10 : Int) (f r : Int) (w : World) (hb : w.heap[g]? = some (.cells #[.int .i64 p0, .int .i64 p1, .int .i64 p2, .int .i64 p3, .int .i64 p4, .int .i64 p5, .int .i64 p6, .int .i64 p7, .int .i64 p8, .int .i64 p9, .int .i64 p10, .int .i64 p11, .int .i64 s0, .int .i64 s1, .int .i64 s2, .bool s3, .int .i64 s4, .int .i64 s5, .bool s6, .slice sA sl.length sc, .int .i64 s8, .int .i64 s9, .int .i64 s10] 35 (0, 0))) (hf : health_Far.f k p0 p1 p2 p3 p4 p5 p6 p7 p8 p9 p10 p11 s4 = some f) (ha : sat_Add.f k [s1, f] = some r) :
  Calls Tryd.prog 30 #[.pointer (some ⟨g, 0, none⟩)] w fun e w' => e = .returned (.int .i64 r) ∧ Below w.heap.size w w' := by
 have B_g := Aside0.mk hb
 have HF := Aside0.mk hf
 have HA := Aside0.mk ha
 clear hb hf ha
 have HB := Aside0.mk (Below.refl w.heap.size w)
 go_enter Tryd.func30, Tryd.ntmps30
 go_upto_region 1 with (fail)
 replace B_g := Aside0.mk (blk_drew B_g.1)
 replace HB := Aside0.mk (below_drew1 HB.1)
 refine start_ (n := 19) (S := fun w' => w'.heap[g]? = some (.cells #[.int .i64 p0, .int .i64 p1, .int .i64 p2, .int .i64 p3, .int .i64 p4, .int .i64 p5, .int .i64 p6, .int .i64 p7, .int .i64 p8, .int .i64 p9, .int .i64 p10, .int .i64 p11, .int .i64 s0, .int .i64 s1, .int .i64 s2, .bool s3, .int .i64 s4, .int .i64 s5, .bool s6, .slice sA sl.length sc, .int .i64 s8, .int .i64 s9, .int .i64 s10] 35 (0, 0))) (ds := []) (bs 19 0) (by kernel_rfl) rfl (by rfl) B_g.1 (fun hHeld => ?_)
 generalize w.drew = w1_ at B_g HB hHeld ⊢
 refine pu 0 3 1 ?_
 refine pu 1 4 3 ?_
 refine pu 2 5 7 ?_
 refine pu 3 6 15 ?_
 refine pu 4 7 31 ?_
 refine pu 6 9 95 ?_
 refine pu 7 10 223 ?_
 refine pu 8 11 479 ?_
 refine pu 10 13 1503 ?_
 refine pu 11 14 3551 ?_
 refine pu 12 15 7647 ?_
 refine pu 13 16 15839 ?_
 refine take_ (i := 5) (N := some 8) (v := ?_) (a' := ?_) (bs 19 15871) rfl rfl (by kernel_rfl) (fun _ _ _ h => h) (Or.inl ⟨by rfl, ?_⟩) hHeld ?_ ?_
 rotate_left
 ·rintro w' s_g
  have c_13 : w'.cell? ⟨g, 13, none⟩ = some (.int .i64 s1) := (blk_cell s_g 13).trans rfl
  clear s_g
  go_simp
  with_reducible rfl
 rotate_left
 ·simp only [Act.put, zA, zB, zC, i64_w, i32_w]
  rfl
 refine take_ (i := 9) (N := some 12) (v := ?_) (a' := ?_) (bs 19 16383) rfl rfl (by kernel_rfl) (fun _ _ _ h => h) (Or.inl ⟨by rfl, ?_⟩) hHeld ?_ ?_
 rotate_left
 ·rintro w' s_g
  have c_0 : w'.cell? ⟨g, 0, none⟩ = some (.int .i64 p0) := (blk_cell s_g 0).trans rfl
  have c_1 : w'.cell? ⟨g, 1, none⟩ = some (.int .i64 p1) := (blk_cell s_g 1).trans rfl
  have c_2 : w'.cell? ⟨g, 2, none⟩ = some (.int .i64 p2) := (blk_cell s_g 2).trans rfl
  have c_3 : w'.cell? ⟨g, 3, none⟩ = some (.int .i64 p3) := (blk_cell s_g 3).trans rfl
  have c_4 : w'.cell? ⟨g, 4, none⟩ = some (.int .i64 p4) := (blk_cell s_g 4).trans rfl
  have c_5 : w'.cell? ⟨g, 5, none⟩ = some (.int .i64 p5) := (blk_cell s_g 5).trans rfl
  have c_6 : w'.cell? ⟨g, 6, none⟩ = some (.int .i64 p6) := (blk_cell s_g 6).trans rfl
  have c_7 : w'.cell? ⟨g, 7, none⟩ = some (.int .i64 p7) := (blk_cell s_g 7).trans rfl
  have c_8 : w'.cell? ⟨g, 8, none⟩ = some (.int .i64 p8) := (blk_cell s_g 8).trans rfl
  have c_9 : w'.cell? ⟨g, 9, none⟩ = some (.int .i64 p9) := (blk_cell s_g 9).trans rfl
  have c_10 : w'.cell? ⟨g, 10, none⟩ = some (.int .i64 p10) := (blk_cell s_g 10).trans rfl
  have c_11 : w'.cell? ⟨g, 11, none⟩ = some (.int .i64 p11) := (blk_cell s_g 11).trans rfl
  clear s_g
  go_simp
  with_reducible rfl
 rotate_left
 ·simp only [Act.put, zA, zB, zC, i64_w, i32_w]
  rfl
 refine take_ (i := 14) (N := some 17) (v := ?_) (a' := ?_) (bs 19 32767) rfl rfl (by kernel_rfl) (fun _ _ _ h => h) (Or.inl ⟨by rfl, ?_⟩) hHeld ?_ ?_
 rotate_left
 ·rintro w' s_g
  have c_16 : w'.cell? ⟨g, 16, none⟩ = some (.int .i64 s4) := (blk_cell s_g 16).trans rfl
  clear s_g
  go_simp
  with_reducible rfl
 rotate_left
 ·simp only [Act.put, zA, zB, zC, i64_w, i32_w]
  rfl
 refine one_ (i := 15) (N := some 18) (bs 19 65535) rfl rfl (by kernel_rfl) (by decide) (fun K hK => ?_)
 refine goes_ Tryd.func35 (by kernel_rfl) rfl #[.agg #[.int .i64 p0, .int .i64 p1, .int .i64 p2, .int .i64 p3, .int .i64 p4, .int .i64 p5, .int .i64 p6, .int .i64 p7, .int .i64 p8, .int .i64 p9, .int .i64 p10, .int .i64 p11], .int .i64 s4] (by rfl) rfl rfl (by (try simp only [List.map_toArray, List.map_cons, List.map_nil]); first | done | rfl) ?_
 with_reducible refine (health_Far.calls k p0 p1 p2 p3 p4 p5 p6 p7 p8 p9 p10 p11 s4 f _ HF.1).mono ?_
 rintro e w2_ ⟨rfl, hb⟩
 replace B_g := bb hb B_g.1
 replace HB := Aside0.mk (below_step HB.1 hb)
 clear hb
 refine ⟨_, rfl, ?_⟩
 refine hK.out _ _ B_g.1 (fun hHeld => ?_)
 clear hK K
 refine nm 18 ?_
 refine one_ (i := 16) (N := some 19) (bs 19 131071) rfl rfl (by kernel_rfl) (by decide) (fun K hK => ?_)
 refine Kd.R_lit_step (Kd.int .i64) _ 3 ?hg (N := 19) ?hd (xs := ([s1, f] : List Int)) (inner := [.int .i64 s1, .int .i64 f]) (ok := fun _ => True) (okp := fun _ => True) ?hr ?hp (fun _ hk => hk) trivial (Below.refl _ _) (Nat.le_refl _) (by simp) ?_; (case hd => rfl); (case hg => rfl); (case hr => first | (go_simp; done) | (go_simp; rfl)); (case hp => exact (Reps.one (show Kd.M (Kd.int .i64) _ _ _ (s1) [.int .i64 (s1)] from rfl) (Reps.one (show Kd.M (Kd.int .i64) _ _ _ (f) [.int .i64 (f)] from rfl) (Reps.none _ _))))
 intro v_y w3_ ho hb hg_ hnew_
 clear hg_ hnew_
 replace B_g := bb hb B_g.1
 replace HB := Aside0.mk (below_step HB.1 hb)
 have R0_y := Aside0.mk ho
 clear ho hb
 obtain ⟨A_y, c_y, e_y⟩ := Kd.R_slice R0_y.1
 subst e_y
 refine hK.out _ _ B_g.1 (fun hHeld => ?_)
 clear hK K
 refine nm 19 ?_
 refine one_ (i := 17) (N := some 20) (bs 19 262143) rfl rfl (by kernel_rfl) (by decide) (fun K hK => ?_)
 refine goes_ Tryd.func34 (by kernel_rfl) rfl #[.slice A_y ([s1, f] : List Int).length c_y] (by rfl) rfl rfl (by (try simp only [List.map_toArray, List.map_cons, List.map_nil]); first | done | rfl) ?_
 with_reducible refine (sat_Add.calls k A_y c_y [s1, f] r _ (Kd.R_reads' R0_y.1).2.2 (Kd.R_reads' R0_y.1).2.1 HA.1).mono ?_
 rintro e w4_ ⟨rfl, hd_⟩
 have hb := hd_.below
 clear hd_
 replace B_g := bb hb B_g.1
 replace HB := Aside0.mk (below_step HB.1 hb)
 clear hb
 refine ⟨_, rfl, ?_⟩
 refine hK.out _ _ B_g.1 (fun hHeld => ?_)
 clear hK K
 refine nm 20 ?_
 refine pu 18 2 524287 ?_
 refine done_ (by kernel_rfl) ?_
 go_wp2
 go_ret
 exact ⟨rfl, HB.1⟩

end Go.Proofs.YtigkjbaclpklpaaDoor.Q
