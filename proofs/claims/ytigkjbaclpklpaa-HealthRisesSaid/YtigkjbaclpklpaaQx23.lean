/- The calls of these Go functions answer what the Lean functions beside them answer; written by a program (wip/pr2.py, out of the print of the loaded program); under no condition but those that stand in the theorems. -/
import Derived.Test.YtigkjbaclpklpaaQx0
import Derived.Test.YtigkjbaclpklpaaQx2
import Derived.Test.YtigkjbaclpklpaaQx5
import Derived.Test.YtigkjbaclpklpaaQx13
import Derived.Test.YtigkjbaclpklpaaQx22
namespace Go.Proofs.Ytigkjbaclpklpaa.Q
open Go.RowKit Go.Proofs.YtigkjbaclpklpaaW.PrintWords Go.Proofs.YtigkjbaclpklpaaW.PrintLast Go.Proofs.YtigkjbaclpklpaaW.PrintMore
attribute [local go_sem] max2_int min2_int max_two min_two max_three min_three max_four min_four   -- for this text's walks alone
set_option linter.unusedVariables false
set_option linter.unusedSimpArgs false

/-! ### hlc_Clock_Hear: function 57 -/
def hlc_Clock_Hear.j0 : Nat → Int → Bool → Int → Int → Int → Int → Option (Int × Int × Bool)
 | 0, _, _, _, _, _, _ => none
 | k + 1, x1, x18, x286000, x286001, x287000, x287001 => if x18 = true then ((hlc_Clock_Tick.f k x286000 x286001 x1).bind fun bt289 => (some (bt289.1, bt289.2, false))) else ((sat_Clip.f k x1).bind fun t291 => ((hlc_later.f k (([(⟨x286000, x286001⟩ : S28), (⟨x287000, x287001⟩ : S28), (⟨t291, (-1)⟩ : S28)] : List (S28)))).bind fun bt295 => ((hlc_Next.f k bt295.1 bt295.2).bind fun bt297 => (some (bt297.1, bt297.2, true)))))
def hlc_Clock_Hear.f (k : Nat) (a0_0 : Int) (a0_1 : Int) (a1 : Int) (a2_0 : Int) (a2_1 : Int) (a3 : Int) : Option (Int × Int × Bool) := (hlc_Right.f a2_0 a2_1).bind fun t288 => (if t288 = true then (hlc_Clock_Hear.j0 k a1 (decide (a2_0 > a3)) a0_0 a0_1 a2_0 a2_1) else (hlc_Clock_Hear.j0 k a1 true a0_0 a0_1 a2_0 a2_1))
theorem hlc_Clock_Hear.mono_l : ∀ k, (∀ y0 y1 y2 y3 y4 y5, LeO (hlc_Clock_Hear.j0 k y0 y1 y2 y3 y4 y5) (hlc_Clock_Hear.j0 (k + 1) y0 y1 y2 y3 y4 y5))
 | 0 => fun _ _ _ _ _ _ r h => by simp [hlc_Clock_Hear.j0] at h
 | k + 1 => by
  have ih0 := hlc_Clock_Hear.mono_l k
  intro y0 y1 y2 y3 y4 y5
  unfold hlc_Clock_Hear.j0
  repeat' first
  | (with_reducible exact ih0 _ _ _ _ _ _)
  | (with_reducible exact hlc_Clock_Tick.mono _ _ _ _)
  | (with_reducible exact hlc_Next.mono _ _ _)
  | (with_reducible exact hlc_later.mono _ _)
  | (with_reducible exact sat_Clip.mono _ _)
  | (with_reducible exact LeO.refl _)
  | (with_reducible exact LeO.none _)
  | (with_reducible refine LeO.ite ?_ ?_)
  | (with_reducible refine LeO.bind ?_ (fun _ => ?_))
  | exact ih0 _ _ _ _ _ _
  | exact hlc_Clock_Tick.mono _ _ _ _
  | exact hlc_Next.mono _ _ _
  | exact hlc_later.mono _ _
  | exact sat_Clip.mono _ _
  | exact LeO.none _
  | refine LeO.ite ?_ ?_
  | refine LeO.bind ?_ (fun _ => ?_)
theorem hlc_Clock_Hear.mono : ∀ a0 a1 a2 a3 a4 a5 k, LeO (hlc_Clock_Hear.f k a0 a1 a2 a3 a4 a5) (hlc_Clock_Hear.f (k + 1) a0 a1 a2 a3 a4 a5) := by
 intro a0 a1 a2 a3 a4 a5 k
 have ih0 := hlc_Clock_Hear.mono_l k
 unfold hlc_Clock_Hear.f
 repeat' first
   | (with_reducible exact ih0 _ _ _ _ _ _)
   | (with_reducible exact hlc_Clock_Tick.mono _ _ _ _)
   | (with_reducible exact hlc_Next.mono _ _ _)
   | (with_reducible exact hlc_later.mono _ _)
   | (with_reducible exact sat_Clip.mono _ _)
   | (with_reducible exact LeO.refl _)
   | (with_reducible exact LeO.none _)
   | (with_reducible refine LeO.ite ?_ ?_)
   | (with_reducible refine LeO.bind ?_ (fun _ => ?_))
   | exact ih0 _ _ _ _ _ _
   | exact hlc_Clock_Tick.mono _ _ _ _
   | exact hlc_Next.mono _ _ _
   | exact hlc_later.mono _ _
   | exact sat_Clip.mono _ _
   | exact LeO.none _
   | refine LeO.ite ?_ ?_
   | refine LeO.bind ?_ (fun _ => ?_)
def hlc_Clock_Hear.T3 : Bool × List (List Nat × List Nat) := (true, [([], []), ([0], [0]), ([], []), ([], []), ([3], [3]), ([4], [4]), ([1, 2, 5], [1, 2, 5]), ([6, 4], [6]), ([7, 7], [7]), ([8], [8]), ([9, 8, 0, 1, 2, 3, 4, 5, 6, 7, 8, 9], [9]), ([10, 0, 1, 2, 3, 4, 5, 6, 7, 8, 9, 10], [])])
def hlc_Clock_Hear.B3 : List Nat := [0, 1, 0, 0, 8, 24, 63, 127, 255, 511, 1023, 2047]
theorem hlc_Clock_Hear.tab3 : rtab .any (opsOf Try.f57 3) = hlc_Clock_Hear.T3 := by kernel_rfl
theorem hlc_Clock_Hear.bits3 : waitsOk hlc_Clock_Hear.T3.2 hlc_Clock_Hear.B3 = true := by kernel_rfl
set_option maxHeartbeats 8000000 in
set_option maxRecDepth 100000 in
theorem hlc_Clock_Hear.calls (k : Nat) (a0_0 : Int) (a0_1 : Int) (a1 : Int) (a2_0 : Int) (a2_1 : Int) (a3 : Int) (r1 : Int) (r2 : Int) (r3 : Bool) (w : World) (h : hlc_Clock_Hear.f k a0_0 a0_1 a1 a2_0 a2_1 a3 = some (r1, r2, r3)) :
  Calls Try.prog 57 #[.agg #[.int .i64 a0_0, .int .i64 a0_1], .int .i64 a1, .agg #[.int .i64 a2_0, .int .i64 a2_1], .int .i64 a3] w fun e w' => e = .returned (.tuple #[.agg #[.int .i64 r1, .int .i64 r2], .bool r3]) ∧ Below w.heap.size w w' := by
 have hu78 := Try.underlying78
 have hu28 := Try.underlying28
 have HB := mk (Below.refl w.heap.size w)
 have H : ((hlc_Right.f a2_0 a2_1).bind fun t288 => (if t288 = true then (hlc_Clock_Hear.j0 k a1 (decide (a2_0 > a3)) a0_0 a0_1 a2_0 a2_1) else (hlc_Clock_Hear.j0 k a1 true a0_0 a0_1 a2_0 a2_1))) = some (r1, r2, r3) := h
 clear h
 have HC5 := mk H
 clear H
 go_enter Try.func57, Try.ntmps57
 go_upto_region 1 with (first | ((with_reducible refine gate_dst (N := 4) rfl ?_); refine box_event ?hg (N := 4) ?hd (cs := #[.int .i64 a0_0, .int .i64 a0_1]) (t := 78) ?hr ?_; (case hd => rfl); (case hg => rfl); (case hr => first | (go_simp; done) | (go_simp; rfl)); intro g0_ hg w6 hbox hb; have n0_ := mk (below_step (by repeat first | exact HB.1 | apply pD | apply b1 | refine bT (by assumption) ?_ | apply bA) hb); have n1_ := mk (hbox); have n2_ := gl hg (by repeat first | exact HB.1 | apply pD | apply b1 | refine bT (by assumption) ?_ | apply bA); have n3_ := gl hg (by repeat first | exact HB.1 | apply pD | apply b1 | refine bT (by assumption) ?_ | apply bA); clear HB; have HB := n0_; have B0_ := n1_; have W0_ := n2_; have E0_ := n3_; clear n0_ n1_ n2_ n3_; clear hb hbox hg) | ((with_reducible refine gate_dst (N := 6) rfl ?_); refine box_event ?hg (N := 6) ?hd (cs := #[.int .i64 a2_0, .int .i64 a2_1]) (t := 28) ?hr ?_; (case hd => rfl); (case hg => rfl); (case hr => first | (go_simp; done) | (go_simp; rfl)); intro g1_ hg w7 hbox hb; have n0_ := bb hb B0_.1; have n1_ := mk (below_step (by repeat first | exact HB.1 | apply pD | apply b1 | refine bT (by assumption) ?_ | apply bA) hb); have n2_ := mk (hbox); have n3_ := gl hg (by repeat first | exact HB.1 | apply pD | apply b1 | refine bT (by assumption) ?_ | apply bA); have n4_ := gl hg (by repeat first | exact HB.1 | apply pD | apply b1 | refine bT (by assumption) ?_ | apply bA); have n5_ := nl hg B0_.1; have n6_ := ng hg B0_.1; clear B0_; clear HB; have B0_ := n0_; have HB := n1_; have B1_ := n2_; have W1_ := n3_; have E1_ := n4_; have N01_ := n5_; have N10_ := n6_; clear n0_ n1_ n2_ n3_ n4_ n5_ n6_; clear hb hbox hg) | ((with_reducible refine gate_dst (N := 8) rfl ?_); refine box_event ?hg (N := 8) ?hd (cs := #[.int .i64 0, .int .i64 0]) (t := 78) ?hr ?_; (case hd => rfl); (case hg => rfl); (case hr => first | (go_simp; done) | (go_simp; rfl)); intro g2_ hg w8 hbox hb; have n0_ := bb hb B0_.1; have n1_ := bb hb B1_.1; have n2_ := mk (below_step (by repeat first | exact HB.1 | apply pD | apply b1 | refine bT (by assumption) ?_ | apply bA) hb); have n3_ := mk (hbox); have n4_ := gl hg (by repeat first | exact HB.1 | apply pD | apply b1 | refine bT (by assumption) ?_ | apply bA); have n5_ := gl hg (by repeat first | exact HB.1 | apply pD | apply b1 | refine bT (by assumption) ?_ | apply bA); have n6_ := nl hg B0_.1; have n7_ := ng hg B0_.1; have n8_ := nl hg B1_.1; have n9_ := ng hg B1_.1; clear B0_; clear B1_; clear HB; have B0_ := n0_; have B1_ := n1_; have HB := n2_; have B2_ := n3_; have W2_ := n4_; have E2_ := n5_; have N02_ := n6_; have N20_ := n7_; have N12_ := n8_; have N21_ := n9_; clear n0_ n1_ n2_ n3_ n4_ n5_ n6_ n7_ n8_ n9_; clear hb hbox hg))
 (try simp only [Act.put, List.setIfInBounds_toArray, List.set_cons_zero, List.set_cons_succ])
 go_cut [18] (fun v18 wc => ∃ (kq : Nat) (x18_4 : Bool), v18 = .bool x18_4 ∧ Aside0 (hlc_Clock_Hear.j0 kq a1 x18_4 a0_0 a0_1 a2_0 a2_1 = some (r1, r2, r3)) ∧ Aside0 (kq ≤ k) ∧ Aside0 (wc.heap[g0_]? = some (.cells #[.int .i64 a0_0, .int .i64 a0_1] 78 (0, 0))) ∧ Aside0 (wc.heap[g1_]? = some (.cells #[.int .i64 a2_0, .int .i64 a2_1] 28 (0, 0))) ∧ Aside0 (wc.heap[g2_]? = some (.cells #[.int .i64 0, .int .i64 0] 78 (0, 0))) ∧ Aside0 (Below w.heap.size w wc))
 case first =>
  have H := HC5.out
  clear HC5
  replace H := Option.bind_eq_some_iff.mp H
  obtain ⟨t288, A90, H⟩ := H
  replace H : (if t288 = true then (hlc_Clock_Hear.j0 k a1 (decide (a2_0 > a3)) a0_0 a0_1 a2_0 a2_1) else (hlc_Clock_Hear.j0 k a1 true a0_0 a0_1 a2_0 a2_1)) = some (r1, r2, r3) := H
  have A9 := mk A90
  clear A90
  by_cases c10 : t288 = true
  ·subst c10
   have H1 : (hlc_Clock_Hear.j0 k a1 (decide (a2_0 > a3)) a0_0 a0_1 a2_0 a2_1) = some (r1, r2, r3) := by rw [if_pos rfl] at H; exact H
   clear H
   have H := H1
   clear H1
   have H' := mk H
   clear H
   have hnb11 := N10_.1
   have hnc11 := N01_.1
   have hnb12 := N12_.1
   have hnc12 := N21_.1
   have hcz13_0 : w8.cell? ⟨g1_, 0, none⟩ = some (.int .i64 a2_0) := bQ B1_.1 0
   have hcz13_1 : w8.cell? ⟨g1_, 1, none⟩ = some (.int .i64 a2_1) := bQ B1_.1 1
   have hfz13_0 := blk_frozen B1_.1 0
   have hfz13_1 := blk_frozen B1_.1 1
   go_wp2_with (first | ((with_reducible refine gate_callee (f := 36) rfl ?_); refine goesL_ (some 11) rfl rfl Try.func36 (by kernel_rfl) rfl #[.agg #[.int .i64 a2_0, .int .i64 a2_1]] rfl (by (try simp only [List.map_toArray, List.map_cons, List.map_nil]); first | done | rfl | (simp only [List.length_drop, List.length_take]; rfl)) ?_; (with_reducible refine (hlc_Right.calls a2_0 a2_1 true _ A9.1).mono ?_); rintro e w14 ⟨rfl, hb⟩; refine ⟨_, rfl, ?_⟩; have n0_ := bb hb B0_.1; have n1_ := bb hb B1_.1; have n2_ := bb hb B2_.1; have n3_ := mk (below_step (by repeat first | exact HB.1 | apply pD | apply b1 | refine bT (by assumption) ?_ | apply bA) hb); clear B0_; clear B1_; clear B2_; clear HB; have B0_ := n0_; have B1_ := n1_; have B2_ := n2_; have HB := n3_; clear n0_ n1_ n2_ n3_; (try clear hb); (try clear hb2); (try clear hk); (try clear hi); have hcz15_0 : w14.cell? ⟨g1_, 0, none⟩ = some (.int .i64 a2_0) := bQ B1_.1 0; have hfz15_0 := blk_frozen B1_.1 0))
   go_meet
   case rel => exact ⟨_, (decide (a2_0 > a3)), (by first | rfl | (simp; done) | (simp [*]; done) | (simp [Int.tdiv_eq_ediv_of_nonneg]; done) | (simp [Go.RowKit.wrap64]; done) | (simp [*, Go.RowKit.wrap64]; done)), H', ⟨by first | omega | exact Nat.le_refl _⟩, ⟨by exact B0_.1⟩, ⟨by exact B1_.1⟩, ⟨by exact B2_.1⟩, ⟨by repeat (first | (with_reducible first | exact HB.1 | apply bA | apply pD | apply b1 | apply bS E0_.1 | apply bS E1_.1 | apply bS E2_.1) | exact HB.1)⟩⟩
  replace c10 := Bool.eq_false_iff.mpr c10
  subst c10
  have H1 : (hlc_Clock_Hear.j0 k a1 true a0_0 a0_1 a2_0 a2_1) = some (r1, r2, r3) := by rw [if_neg (show ¬ (false = true) by decide)] at H; exact H
  clear H
  have H := H1
  clear H1
  have H' := mk H
  clear H
  have hnb16 := N10_.1
  have hnc16 := N01_.1
  have hnb17 := N12_.1
  have hnc17 := N21_.1
  have hcz18_0 : w8.cell? ⟨g1_, 0, none⟩ = some (.int .i64 a2_0) := bQ B1_.1 0
  have hcz18_1 : w8.cell? ⟨g1_, 1, none⟩ = some (.int .i64 a2_1) := bQ B1_.1 1
  have hfz18_0 := blk_frozen B1_.1 0
  have hfz18_1 := blk_frozen B1_.1 1
  go_wp2_with (first | ((with_reducible refine gate_callee (f := 36) rfl ?_); refine goesL_ (some 11) rfl rfl Try.func36 (by kernel_rfl) rfl #[.agg #[.int .i64 a2_0, .int .i64 a2_1]] rfl (by (try simp only [List.map_toArray, List.map_cons, List.map_nil]); first | done | rfl | (simp only [List.length_drop, List.length_take]; rfl)) ?_; (with_reducible refine (hlc_Right.calls a2_0 a2_1 false _ A9.1).mono ?_); rintro e w19 ⟨rfl, hb⟩; refine ⟨_, rfl, ?_⟩; have n0_ := bb hb B0_.1; have n1_ := bb hb B1_.1; have n2_ := bb hb B2_.1; have n3_ := mk (below_step (by repeat first | exact HB.1 | apply pD | apply b1 | refine bT (by assumption) ?_ | apply bA) hb); clear B0_; clear B1_; clear B2_; clear HB; have B0_ := n0_; have B1_ := n1_; have B2_ := n2_; have HB := n3_; clear n0_ n1_ n2_ n3_; (try clear hb); (try clear hb2); (try clear hk); (try clear hi)))
  go_meet
  case rel => exact ⟨_, (true), (by first | rfl | (simp; done) | (simp [*]; done) | (simp [Int.tdiv_eq_ediv_of_nonneg]; done) | (simp [Go.RowKit.wrap64]; done) | (simp [*, Go.RowKit.wrap64]; done)), H', ⟨by first | omega | exact Nat.le_refl _⟩, ⟨by exact B0_.1⟩, ⟨by exact B1_.1⟩, ⟨by exact B2_.1⟩, ⟨by repeat (first | (with_reducible first | exact HB.1 | apply bA | apply pD | apply b1 | apply bS E0_.1 | apply bS E1_.1 | apply bS E2_.1) | exact HB.1)⟩⟩
 case rest =>
  clear HC5
  try clear c1
  try clear p2
  try clear c3
  try clear c5
  try clear c10
  try clear c11
  try clear c12
  try clear c16
  try clear c17
  try clear hcz13_0
  try clear hcz13_1
  try clear hcz15_0
  try clear hcz18_0
  try clear hcz18_1
  try clear hfz13_0
  try clear hfz13_1
  try clear hfz15_0
  try clear hfz18_0
  try clear hfz18_1
  obtain ⟨kq, x18_4, rfl, HA, HJ4, B0_, B1_, B2_, HB⟩ := hcut
  cases kq with
  | zero => exact absurd HA.out (by simp [hlc_Clock_Hear.j0])
  | succ kj4 =>
   have H := HA.out
   clear HA
   simp only [hlc_Clock_Hear.j0] at H
   by_cases c20 : x18_4 = true
   ·subst c20
    have H1 : ((hlc_Clock_Tick.f kj4 a0_0 a0_1 a1).bind fun bt289 => (some (bt289.1, bt289.2, false))) = some (r1, r2, r3) := by rw [if_pos rfl] at H; exact H
    clear H
    have H := H1
    clear H1
    replace H := Option.bind_eq_some_iff.mp H
    obtain ⟨⟨t289, t290⟩, A210, H⟩ := H
    replace H : (some (t289, t290, false)) = some (r1, r2, r3) := H
    have A21 := mk A210
    clear A210
    simp only [Option.some.injEq, Prod.mk.injEq] at H
    obtain ⟨rfl, rfl, rfl⟩ := H
    have hnb22 := N01_.1
    have hnc22 := N10_.1
    have hnb23 := N02_.1
    have hnc23 := N20_.1
    have hcz24_0 : wc.cell? ⟨g0_, 0, none⟩ = some (.int .i64 a0_0) := bQ B0_.1 0
    have hcz24_1 : wc.cell? ⟨g0_, 1, none⟩ = some (.int .i64 a0_1) := bQ B0_.1 1
    have hfz24_0 := blk_frozen B0_.1 0
    have hfz24_1 := blk_frozen B0_.1 1
    go_wp2_with (first | ((with_reducible refine gate_callee (f := 54) rfl ?_); refine goesL_ (some 21) rfl rfl Try.func54 (by kernel_rfl) rfl #[.agg #[.int .i64 a0_0, .int .i64 a0_1], .int .i64 a1] rfl (by (try simp only [List.map_toArray, List.map_cons, List.map_nil]); first | done | rfl | (simp only [List.length_drop, List.length_take]; rfl)) ?_; (with_reducible refine (hlc_Clock_Tick.calls kj4 a0_0 a0_1 a1 t289 t290 _ A21.1).mono ?_); rintro e w25 ⟨rfl, hb⟩; refine ⟨_, rfl, ?_⟩; have n0_ := bb hb B0_.1; have n1_ := bb hb B1_.1; have n2_ := bb hb B2_.1; have n3_ := mk (below_step (by repeat first | exact HB.1 | apply pD | apply b1 | refine bT (by assumption) ?_ | apply bA) hb); clear B0_; clear B1_; clear B2_; clear HB; have B0_ := n0_; have B1_ := n1_; have B2_ := n2_; have HB := n3_; clear n0_ n1_ n2_ n3_; (try clear hb); (try clear hb2); (try clear hk); (try clear hi); have hnb26 := N21_.1; have hnc26 := N12_.1; have hcz27_0 : w25.cell? ⟨g2_, 0, none⟩ = some (.int .i64 0) := bQ B2_.1 0; have hcz27_1 : w25.cell? ⟨g2_, 1, none⟩ = some (.int .i64 0) := bQ B2_.1 1; have hfz27_0 := blk_frozen B2_.1 0; have hfz27_1 := blk_frozen B2_.1 1))
    refine bodyPost_ret (results_ct rfl _ _ g2_ 78 #[.int .i64 t289, .int .i64 t290] (0, 0) _ rfl (by (with_reducible repeat (first | refine blk_drewN ?_ _ | refine blk_drew ?_ | refine blk_alloc ?_ _)); refine blk_put (cs := #[.int .i64 t289, .int .i64 0]) ?_ 1 _ rfl; (with_reducible repeat (first | refine blk_drewN ?_ _ | refine blk_drew ?_ | refine blk_alloc ?_ _)); refine blk_put (cs := #[.int .i64 0, .int .i64 0]) ?_ 0 _ rfl; (with_reducible repeat (first | refine blk_drewN ?_ _ | refine blk_drew ?_ | refine blk_alloc ?_ _)); exact B2_.1) Try.underlying78 rfl (by kernel_rfl)) rfl ?_
    exact ⟨by first | rfl | (simp [errW_none, errW_some] <;> rfl) | (simp [*, errW_none, errW_some] <;> rfl), by repeat (first | (with_reducible first | exact HB.1 | apply bA | apply pD | apply b1 | apply bS E0_.1 | apply bS E1_.1 | apply bS E2_.1) | exact HB.1)⟩
   replace c20 := Bool.eq_false_iff.mpr c20
   subst c20
   have H1 : ((sat_Clip.f kj4 a1).bind fun t291 => ((hlc_later.f kj4 (([(⟨a0_0, a0_1⟩ : S28), (⟨a2_0, a2_1⟩ : S28), (⟨t291, (-1)⟩ : S28)] : List (S28)))).bind fun bt295 => ((hlc_Next.f kj4 bt295.1 bt295.2).bind fun bt297 => (some (bt297.1, bt297.2, true))))) = some (r1, r2, r3) := by rw [if_neg (show ¬ (false = true) by decide)] at H; exact H
   clear H
   have H := H1
   clear H1
   replace H := Option.bind_eq_some_iff.mp H
   obtain ⟨t291, A280, H⟩ := H
   replace H : ((hlc_later.f kj4 (([(⟨a0_0, a0_1⟩ : S28), (⟨a2_0, a2_1⟩ : S28), (⟨t291, (-1)⟩ : S28)] : List (S28)))).bind fun bt295 => ((hlc_Next.f kj4 bt295.1 bt295.2).bind fun bt297 => (some (bt297.1, bt297.2, true)))) = some (r1, r2, r3) := H
   have A28 := mk A280
   clear A280
   obtain ⟨y292, hy292⟩ : ∃ y_ : List (S28), y_ = (([(⟨a0_0, a0_1⟩ : S28), (⟨a2_0, a2_1⟩ : S28), (⟨t291, (-1)⟩ : S28)] : List (S28))) := ⟨_, rfl⟩
   replace H : ((hlc_later.f kj4 y292).bind fun bt295 => ((hlc_Next.f kj4 bt295.1 bt295.2).bind fun bt297 => (some (bt297.1, bt297.2, true)))) = some (r1, r2, r3) := by first | (rw [hy292]; with_reducible exact H) | (have H2_ := (Option.bind_some _ _).symm.trans H; rw [hy292]; with_reducible exact H2_) | (have H2_ := (Option.bind_some _ _).symm.trans H; with_reducible exact H2_) | with_reducible exact H | (rw [hy292]; exact H) | exact H
   have Ny292 := mk hy292
   clear hy292
   replace H := Option.bind_eq_some_iff.mp H
   obtain ⟨⟨t295, t296⟩, A290, H⟩ := H
   replace H : ((hlc_Next.f kj4 t295 t296).bind fun bt297 => (some (bt297.1, bt297.2, true))) = some (r1, r2, r3) := H
   have A29 := mk A290
   clear A290
   replace H := Option.bind_eq_some_iff.mp H
   obtain ⟨⟨t297, t298⟩, A300, H⟩ := H
   replace H : (some (t297, t298, true)) = some (r1, r2, r3) := H
   have A30 := mk A300
   clear A300
   simp only [Option.some.injEq, Prod.mk.injEq] at H
   obtain ⟨rfl, rfl, rfl⟩ := H
   try go_wp2
   have n0_ := mk (blk_drew B0_.1)
   have n1_ := mk (blk_drew B1_.1)
   have n2_ := mk (blk_drew B2_.1)
   have n3_ := mk (below_drew1 HB.1)
   clear B0_ B1_ B2_ HB
   have B0_ := n0_
   have B1_ := n1_
   have B2_ := n2_
   have HB := n3_
   clear n0_ n1_ n2_ n3_
   refine start_ (n := 12) (S := fun w' => w'.cell? ⟨g0_, 0, none⟩ = some (.int .i64 a0_0) ∧ w'.cell? ⟨g0_, 1, none⟩ = some (.int .i64 a0_1) ∧ w'.cell? ⟨g1_, 0, none⟩ = some (.int .i64 a2_0) ∧ w'.cell? ⟨g1_, 1, none⟩ = some (.int .i64 a2_1)) (ds := []) (bs 12 0) (by kernel_rfl) rfl rfl ⟨bQ B0_.1 0, bQ B0_.1 1, bQ B1_.1 0, bQ B1_.1 1⟩ (fun hHeld => ?_); refine with_tabW hlc_Clock_Hear.tab3 hlc_Clock_Hear.bits3 (fun HT_ HW_ => ?_)
   generalize wc.drew = w31 at B0_ B1_ B2_ HB hHeld ⊢
   refine pure_ (i := 0) (N := some 22) (v := ?_) (a' := ?_) (bs 12 1) rfl rfl (any_of HT_.out (by kernel_rfl)) (fun _ _ _ h => h) (Or.inl ⟨by rfl, ?_⟩) ?_ ?_
   rotate_left
   ·intro w'
    go_simp
    with_reducible rfl
   rotate_left
   ·simp only [Act.put, List.setIfInBounds_toArray, List.set_cons_zero, List.set_cons_succ, i64_w, i32_w]
    rfl
   refine pure_ (i := 3) (N := some 25) (v := ?_) (a' := ?_) (bs 12 9) rfl rfl (any_of HT_.out (by kernel_rfl)) (fun _ _ _ h => h) (Or.inl ⟨by rfl, ?_⟩) ?_ ?_
   rotate_left
   ·intro w'
    go_simp
    with_reducible rfl
   rotate_left
   ·simp only [Act.put, List.setIfInBounds_toArray, List.set_cons_zero, List.set_cons_succ, i64_w, i32_w]
    rfl
   refine take_ (i := 1) (N := some 23) (v := ?_) (a' := ?_) (bs 12 11) rfl rfl (take_ofW HT_.out HW_.out (by kernel_rfl)) (fun _ _ _ h => h) (Or.inl ⟨by rfl, ?_⟩) hHeld ?_ ?_
   rotate_left
   ·rintro w' ⟨s0, s1, s2, s3⟩
    go_simp
    with_reducible rfl
   rotate_left
   ·simp only [Act.put, List.setIfInBounds_toArray, List.set_cons_zero, List.set_cons_succ, i64_w, i32_w]
    rfl
   refine take_ (i := 2) (N := some 24) (v := ?_) (a' := ?_) (bs 12 15) rfl rfl (take_ofW HT_.out HW_.out (by kernel_rfl)) (fun _ _ _ h => h) (Or.inl ⟨by rfl, ?_⟩) hHeld ?_ ?_
   rotate_left
   ·rintro w' ⟨s0, s1, s2, s3⟩
    go_simp
    with_reducible rfl
   rotate_left
   ·simp only [Act.put, List.setIfInBounds_toArray, List.set_cons_zero, List.set_cons_succ, i64_w, i32_w]
    rfl
   refine one_ (i := 4) (N := some 26) (bs 12 31) rfl rfl (one_of HT_.out (by kernel_rfl)) (by decide) (fun K hK => ?_)
   refine goes_ Try.func31 (by kernel_rfl) rfl #[.int .i64 a1] (by rfl) rfl rfl (by (try simp only [List.map_toArray, List.map_cons, List.map_nil]); first | done | rfl | (simp only [List.length_drop, List.length_take]; rfl)) ?_
   with_reducible refine (sat_Clip.calls kj4 a1 t291 _ A28.1).mono ?_
   rintro e w' ⟨rfl, ⟨nd, rfl⟩⟩
   refine ⟨_, rfl, ?_⟩
   refine hK.out _ _ ⟨bQ B0_.1 0, bQ B0_.1 1, bQ B1_.1 0, bQ B1_.1 1⟩ (fun hHeld => ?_)
   clear hK K
   refine norm_ (a' := ?_) ?_ ?_
   rotate_left
   ·show Act.put _ (some 26) _ = _
    simp only [Act.put, List.setIfInBounds_toArray, List.set_cons_zero, List.set_cons_succ, i64_w, i32_w]
    rfl
   refine pure_ (i := 5) (N := some 27) (v := ?_) (a' := ?_) (bs 12 63) rfl rfl (any_of HT_.out (by kernel_rfl)) (fun _ _ _ h => h) (Or.inl ⟨by rfl, ?_⟩) ?_ ?_
   rotate_left
   ·intro w'
    go_simp
    with_reducible rfl
   rotate_left
   ·simp only [Act.put, List.setIfInBounds_toArray, List.set_cons_zero, List.set_cons_succ, i64_w, i32_w]
    rfl
   refine one_ (i := 6) (N := some 28) (bs 12 127) rfl rfl (one_of HT_.out (by kernel_rfl)) (by decide) (fun K hK => ?_)
   refine Kd.R_lit_step k28 _ 28 ?hg (N := 28) ?hd (xs := ([(⟨a0_0, a0_1⟩ : S28), (⟨a2_0, a2_1⟩ : S28), (⟨t291, (-1)⟩ : S28)] : List (S28))) (inner := [.int .i64 a0_0, .int .i64 a0_1, .int .i64 a2_0, .int .i64 a2_1, .int .i64 t291, .int .i64 (-1)]) (ok := fun _ => True) (okp := fun _ => True) ?hr ?hp (fun _ hk => hk) trivial (Below.refl _ _) (Nat.le_refl _) (by simp) ?_; (case hd => rfl); (case hg => rfl); (case hr => first | (go_simp; done) | (go_simp; rfl)); (case hp => exact (Reps.c2 (show Kd.M k28 _ _ _ (⟨a0_0, a0_1⟩ : S28) [.int .i64 a0_0, .int .i64 a0_1] from (k28_mkM _ _ _ (⟨a0_0, a0_1⟩ : S28) )) (Reps.c2 (show Kd.M k28 _ _ _ (⟨a2_0, a2_1⟩ : S28) [.int .i64 a2_0, .int .i64 a2_1] from (k28_mkM _ _ _ (⟨a2_0, a2_1⟩ : S28) )) (Reps.c2 (show Kd.M k28 _ _ _ (⟨t291, (-1)⟩ : S28) [.int .i64 t291, .int .i64 (-1)] from (k28_mkM _ _ _ (⟨t291, (-1)⟩ : S28) )) (Reps.none _ _)))))
   intro v293 w32 ho33 hb hg_ hnew_
   clear hg_ hnew_
   (first | rw [← Ny292.out] at ho33 | (simp only [Int.reduceToNat] at ho33; rw [← Ny292.out] at ho33))
   have HO294 := mk (Kd.R_lower (Kd.R_newB ho33 (by exact B1_.1)) (below_size (by repeat first | exact HB.1 | apply pD | apply b1 | refine bT (by assumption) ?_ | apply bA)))
   have n1_ := bb hb B0_.1
   have n2_ := bb hb B1_.1
   have n3_ := bb hb B2_.1
   have n4_ := mk (below_step (by repeat first | exact HB.1 | apply pD | apply b1 | refine bT (by assumption) ?_ | apply bA) hb)
   clear B0_ B1_ B2_ HB
   have B0_ := n1_
   have B1_ := n2_
   have B2_ := n3_
   have HB := n4_
   clear n1_ n2_ n3_ n4_ hb ho33
   obtain ⟨Ao34, co34, eo34⟩ := Kd.R_slice HO294.1
   (first | subst eo34 | (injection eo34 with f1_ f2_ f3_; have f4_ := f1_.symm; have f5_ := f3_.symm; clear f1_ f2_ f3_; subst f4_; subst f5_))
   refine hK.out _ _ ⟨bQ B0_.1 0, bQ B0_.1 1, bQ B1_.1 0, bQ B1_.1 1⟩ (fun hHeld => ?_)
   clear hK K
   refine norm_ (a' := ?_) ?_ ?_
   rotate_left
   ·show Act.put _ (some 28) _ = _
    simp only [Act.put, List.setIfInBounds_toArray, List.set_cons_zero, List.set_cons_succ, i64_w, i32_w]
    rfl
   refine one_ (i := 7) (N := some 29) (bs 12 255) rfl rfl (one_of HT_.out (by kernel_rfl)) (by decide) (fun K hK => ?_)
   refine goes_ Try.func69 (by kernel_rfl) rfl #[.slice Ao34 y292.length co34] (by rfl) rfl rfl (by (try simp only [List.map_toArray, List.map_cons, List.map_nil]); first | done | rfl | (simp only [List.length_drop, List.length_take]; rfl)) ?_
   with_reducible refine (hlc_later.calls kj4 _ _ y292 t295 t296 _ ?side1 ?side2 A29.1).mono ?_
   (case side1 => repeat (first | exact (Kd.R_reads' HO294.1).2.2 | (with_reducible refine Kd.C_alloc ?_ _) | (with_reducible refine Kd.C_drewN ?_ _) | (with_reducible refine Kd.C_drew ?_)))
   (case side2 => exact (Kd.R_reads' HO294.1).2.1)
   rintro e w35 ⟨rfl, hb⟩
   refine ⟨_, rfl, ?_⟩
   have n0_ := mk (Kd.R_below (by (with_reducible repeat (first | apply Kd.R_alloc | apply Kd.R_drewN | apply Kd.R_drew)); exact HO294.1) hb)
   have n1_ := bb hb B0_.1
   have n2_ := bb hb B1_.1
   have n3_ := bb hb B2_.1
   have n4_ := mk (below_step (by repeat first | exact HB.1 | apply pD | apply b1 | refine bT (by assumption) ?_ | apply bA) hb)
   clear HO294 B0_ B1_ B2_ HB
   have HO294 := n0_
   have B0_ := n1_
   have B1_ := n2_
   have B2_ := n3_
   have HB := n4_
   clear n0_ n1_ n2_ n3_ n4_
   (try clear hb)
   (try clear hb2)
   (try clear hk)
   (try clear hi)
   refine hK.out _ _ ⟨bQ B0_.1 0, bQ B0_.1 1, bQ B1_.1 0, bQ B1_.1 1⟩ (fun hHeld => ?_)
   clear hK K
   refine norm_ (a' := ?_) ?_ ?_
   rotate_left
   ·show Act.put _ (some 29) _ = _
    simp only [Act.put, List.setIfInBounds_toArray, List.set_cons_zero, List.set_cons_succ, i64_w, i32_w]
    rfl
   refine one_ (i := 8) (N := some 30) (bs 12 511) rfl rfl (one_of HT_.out (by kernel_rfl)) (by decide) (fun K hK => ?_)
   refine goes_ Try.func68 (by kernel_rfl) rfl #[.agg #[.int .i64 t295, .int .i64 t296]] (by rfl) rfl rfl (by (try simp only [List.map_toArray, List.map_cons, List.map_nil]); first | done | rfl | (simp only [List.length_drop, List.length_take]; rfl)) ?_
   with_reducible refine (hlc_Next.calls kj4 t295 t296 t297 t298 _ A30.1).mono ?_
   rintro e w36 ⟨rfl, hb⟩
   refine ⟨_, rfl, ?_⟩
   have n0_ := mk (Kd.R_below (by (with_reducible repeat (first | apply Kd.R_alloc | apply Kd.R_drewN | apply Kd.R_drew)); exact HO294.1) hb)
   have n1_ := bb hb B0_.1
   have n2_ := bb hb B1_.1
   have n3_ := bb hb B2_.1
   have n4_ := mk (below_step (by repeat first | exact HB.1 | apply pD | apply b1 | refine bT (by assumption) ?_ | apply bA) hb)
   clear HO294 B0_ B1_ B2_ HB
   have HO294 := n0_
   have B0_ := n1_
   have B1_ := n2_
   have B2_ := n3_
   have HB := n4_
   clear n0_ n1_ n2_ n3_ n4_
   (try clear hb)
   (try clear hb2)
   (try clear hk)
   (try clear hi)
   refine hK.out _ _ ⟨bQ B0_.1 0, bQ B0_.1 1, bQ B1_.1 0, bQ B1_.1 1⟩ (fun hHeld => ?_)
   clear hK K
   refine norm_ (a' := ?_) ?_ ?_
   rotate_left
   ·show Act.put _ (some 30) _ = _
    simp only [Act.put, List.setIfInBounds_toArray, List.set_cons_zero, List.set_cons_succ, i64_w, i32_w]
    rfl
   refine pure_ (i := 9) (N := some 31) (v := ?_) (a' := ?_) (bs 12 1023) rfl rfl (any_of HT_.out (by kernel_rfl)) (fun _ _ _ h => h) (Or.inl ⟨by rfl, ?_⟩) ?_ ?_
   rotate_left
   ·intro w'
    go_simp
    with_reducible rfl
   rotate_left
   ·simp only [Act.put, List.setIfInBounds_toArray, List.set_cons_zero, List.set_cons_succ, i64_w, i32_w]
    rfl
   refine one_ (i := 10) (N := none) (bs 12 2047) rfl rfl (one_of HT_.out (by kernel_rfl)) (by decide) (fun K hK => ?_)
   have hs37 : w36.cell? ⟨g2_, 0, none⟩ = some (.int .i64 0) := bQ B2_.1 0
   have hfs37 := blk_frozen B2_.1 0
   have hns37_0 := N02_.1
   have hns37_1 := N12_.1
   have hms37_0 := N20_.1
   have hms37_1 := N21_.1
   have hs38 : w36.cell? ⟨g2_, 1, none⟩ = some (.int .i64 0) := bQ B2_.1 1
   have hfs38 := blk_frozen B2_.1 1
   have hns38_0 := N02_.1
   have hns38_1 := N12_.1
   have hms38_0 := N20_.1
   have hms38_1 := N21_.1
   refine skip_ (w1 := ?_) (by rfl) rfl ?_ ?_
   rotate_left
   ·go_simp
    rfl
   refine hK.out _ _ ⟨((cell_far (p := ⟨g2_, _, none⟩) N02_.1 _).trans (((cell_far (p := ⟨g2_, _, none⟩) N02_.1 _).trans (hHeld.1)))), ((cell_far (p := ⟨g2_, _, none⟩) N02_.1 _).trans (((cell_far (p := ⟨g2_, _, none⟩) N02_.1 _).trans (hHeld.2.1)))), ((cell_far (p := ⟨g2_, _, none⟩) N12_.1 _).trans (((cell_far (p := ⟨g2_, _, none⟩) N12_.1 _).trans (hHeld.2.2.1)))), ((cell_far (p := ⟨g2_, _, none⟩) N12_.1 _).trans (((cell_far (p := ⟨g2_, _, none⟩) N12_.1 _).trans (hHeld.2.2.2))))⟩ (fun hHeld => ?_)
   clear hK K
   refine pure_ (i := 11) (N := some 9) (v := ?_) (a' := ?_) (bs 12 4095) rfl rfl (any_of HT_.out (by kernel_rfl)) (fun _ _ _ h => h) (Or.inl ⟨by rfl, ?_⟩) ?_ ?_
   rotate_left
   ·intro w'
    go_simp
    with_reducible rfl
   rotate_left
   ·simp only [Act.put, List.setIfInBounds_toArray, List.set_cons_zero, List.set_cons_succ, i64_w, i32_w]
    rfl
   refine done_ (done_of HT_.out (by kernel_rfl)) ?_
   try go_wp2
   refine bodyPost_ret (results_ct rfl _ _ g2_ 78 #[.int .i64 t297, .int .i64 t298] (0, 0) _ rfl (by (with_reducible repeat (first | refine blk_drewN ?_ _ | refine blk_drew ?_ | refine blk_alloc ?_ _)); refine blk_put (cs := #[.int .i64 t297, .int .i64 0]) ?_ 1 _ rfl; (with_reducible repeat (first | refine blk_drewN ?_ _ | refine blk_drew ?_ | refine blk_alloc ?_ _)); refine blk_put (cs := #[.int .i64 0, .int .i64 0]) ?_ 0 _ rfl; (with_reducible repeat (first | refine blk_drewN ?_ _ | refine blk_drew ?_ | refine blk_alloc ?_ _)); exact B2_.1) Try.underlying78 rfl (by kernel_rfl)) rfl ?_
   exact ⟨by first | rfl | (simp [errW_none, errW_some] <;> rfl) | (simp [*, errW_none, errW_some] <;> rfl), by repeat (first | (with_reducible first | exact HB.1 | apply bA | apply pD | apply b1 | apply bS E0_.1 | apply bS E1_.1 | apply bS E2_.1) | exact HB.1)⟩

end Go.Proofs.Ytigkjbaclpklpaa.Q
