/- The calls of these Go functions answer what the Lean functions beside them answer; written by a program (wip/pr2.py, out of the print of the loaded program); under no condition but those that stand in the theorems. -/
import Derived.Test.YtigkjbaclpklpaaQx0
import Derived.Test.YtigkjbaclpklpaaQx16
namespace Go.Proofs.Ytigkjbaclpklpaa.Q
open Go.RowKit Go.Proofs.YtigkjbaclpklpaaW.PrintWords Go.Proofs.YtigkjbaclpklpaaW.PrintLast Go.Proofs.YtigkjbaclpklpaaW.PrintMore
attribute [local go_sem] max2_int min2_int max_two min_two max_three min_three max_four min_four   -- for this text's walks alone
set_option linter.unusedVariables false
set_option linter.unusedSimpArgs false

/-! ### limit_Check: function 19 -/
mutual
def limit_Check.j0 : Nat → Bool → Int → Int → Int → Int → Int → Int → Int → Int → Int → Int → Int → Int → Option (Int)
 | 0, _, _, _, _, _, _, _, _, _, _, _, _, _ => none
 | k + 1, x3, x242000, x242001, x242002, x242003, x242004, x242005, x242006, x242007, x242008, x242009, x242010, x242011 => (limit_in.f x242003 1 1099511627776).bind fun t245 => (if t245 = true then ((limit_in.f x242004 0 (wrap64 (Int.tdiv x242003 8))).bind fun t246 => (if t246 = true then ((limit_in.f x242005 0 (wrap64 (Int.tdiv x242003 2))).bind fun t247 => (if t247 = true then ((limit_in.f x242006 0 x242005).bind fun t248 => (limit_Check.j1 k x3 t248 x242000 x242001 x242002 x242003 x242004 x242005 x242006 x242007 x242008 x242009 x242010 x242011)) else (limit_Check.j1 k x3 false x242000 x242001 x242002 x242003 x242004 x242005 x242006 x242007 x242008 x242009 x242010 x242011))) else (limit_Check.j1 k x3 false x242000 x242001 x242002 x242003 x242004 x242005 x242006 x242007 x242008 x242009 x242010 x242011))) else (limit_Check.j1 k x3 false x242000 x242001 x242002 x242003 x242004 x242005 x242006 x242007 x242008 x242009 x242010 x242011))
def limit_Check.j1 : Nat → Bool → Bool → Int → Int → Int → Int → Int → Int → Int → Int → Int → Int → Int → Int → Option (Int)
 | 0, _, _, _, _, _, _, _, _, _, _, _, _, _, _ => none
 | k + 1, x3, x4, x242000, x242001, x242002, x242003, x242004, x242005, x242006, x242007, x242008, x242009, x242010, x242011 => if x3 = true then (if x4 = true then ((limit_in.f x242007 0 1099511627776).bind fun t249 => (if t249 = true then ((limit_in.f x242008 (wrap64 (x242004 + 1)) (wrap64 (Int.tdiv x242003 4))).bind fun t250 => (if t250 = true then ((limit_in.f x242009 (wrap64 (x242002 + 2)) 1048576).bind fun t251 => (if t251 = true then ((limit_in.f x242010 1 1099511627776).bind fun t252 => (if t252 = true then ((limit_in.f x242011 1 1099511627776).bind fun t253 => (if t253 = true then (some 0) else (some 1))) else (some 1))) else (some 1))) else (some 1))) else (some 1))) else (some 1)) else (some 1)
end
def limit_Check.f (k : Nat) (a0_0 : Int) (a0_1 : Int) (a0_2 : Int) (a0_3 : Int) (a0_4 : Int) (a0_5 : Int) (a0_6 : Int) (a0_7 : Int) (a0_8 : Int) (a0_9 : Int) (a0_10 : Int) (a0_11 : Int) : Option (Int) := (limit_in.f a0_0 1 16).bind fun t242 => (if t242 = true then ((limit_in.f a0_1 0 (wrap64 (Int.tdiv (wrap64 (a0_0 - 1)) 3))).bind fun t243 => (if t243 = true then ((limit_in.f a0_2 0 16).bind fun t244 => (limit_Check.j0 k t244 a0_0 a0_1 a0_2 a0_3 a0_4 a0_5 a0_6 a0_7 a0_8 a0_9 a0_10 a0_11)) else (limit_Check.j0 k false a0_0 a0_1 a0_2 a0_3 a0_4 a0_5 a0_6 a0_7 a0_8 a0_9 a0_10 a0_11))) else (limit_Check.j0 k false a0_0 a0_1 a0_2 a0_3 a0_4 a0_5 a0_6 a0_7 a0_8 a0_9 a0_10 a0_11))
theorem limit_Check.mono_l : ∀ k, (∀ y0 y1 y2 y3 y4 y5 y6 y7 y8 y9 y10 y11 y12, LeO (limit_Check.j0 k y0 y1 y2 y3 y4 y5 y6 y7 y8 y9 y10 y11 y12) (limit_Check.j0 (k + 1) y0 y1 y2 y3 y4 y5 y6 y7 y8 y9 y10 y11 y12)) ∧ (∀ y0 y1 y2 y3 y4 y5 y6 y7 y8 y9 y10 y11 y12 y13, LeO (limit_Check.j1 k y0 y1 y2 y3 y4 y5 y6 y7 y8 y9 y10 y11 y12 y13) (limit_Check.j1 (k + 1) y0 y1 y2 y3 y4 y5 y6 y7 y8 y9 y10 y11 y12 y13))
 | 0 => ⟨fun _ _ _ _ _ _ _ _ _ _ _ _ _ r h => by simp [limit_Check.j0] at h, fun _ _ _ _ _ _ _ _ _ _ _ _ _ _ r h => by simp [limit_Check.j1] at h⟩
 | k + 1 => by
  obtain ⟨ih0, ih1⟩ := limit_Check.mono_l k
  refine ⟨?_, ?_⟩
  ·intro y0 y1 y2 y3 y4 y5 y6 y7 y8 y9 y10 y11 y12
   unfold limit_Check.j0
   repeat' first
   | (with_reducible exact ih0 _ _ _ _ _ _ _ _ _ _ _ _ _)
   | (with_reducible exact ih1 _ _ _ _ _ _ _ _ _ _ _ _ _ _)
   | (with_reducible exact LeO.refl _)
   | (with_reducible exact LeO.none _)
   | (with_reducible refine LeO.ite ?_ ?_)
   | (with_reducible refine LeO.bind ?_ (fun _ => ?_))
   | exact ih0 _ _ _ _ _ _ _ _ _ _ _ _ _
   | exact ih1 _ _ _ _ _ _ _ _ _ _ _ _ _ _
   | exact LeO.none _
   | refine LeO.ite ?_ ?_
   | refine LeO.bind ?_ (fun _ => ?_)
  intro y0 y1 y2 y3 y4 y5 y6 y7 y8 y9 y10 y11 y12 y13
  unfold limit_Check.j1
  repeat' first
  | (with_reducible exact ih0 _ _ _ _ _ _ _ _ _ _ _ _ _)
  | (with_reducible exact ih1 _ _ _ _ _ _ _ _ _ _ _ _ _ _)
  | (with_reducible exact LeO.refl _)
  | (with_reducible exact LeO.none _)
  | (with_reducible refine LeO.ite ?_ ?_)
  | (with_reducible refine LeO.bind ?_ (fun _ => ?_))
  | exact ih0 _ _ _ _ _ _ _ _ _ _ _ _ _
  | exact ih1 _ _ _ _ _ _ _ _ _ _ _ _ _ _
  | exact LeO.none _
  | refine LeO.ite ?_ ?_
  | refine LeO.bind ?_ (fun _ => ?_)
theorem limit_Check.mono : ∀ a0 a1 a2 a3 a4 a5 a6 a7 a8 a9 a10 a11 k, LeO (limit_Check.f k a0 a1 a2 a3 a4 a5 a6 a7 a8 a9 a10 a11) (limit_Check.f (k + 1) a0 a1 a2 a3 a4 a5 a6 a7 a8 a9 a10 a11) := by
 intro a0 a1 a2 a3 a4 a5 a6 a7 a8 a9 a10 a11 k
 obtain ⟨ih0, ih1⟩ := limit_Check.mono_l k
 unfold limit_Check.f
 repeat' first
   | (with_reducible exact ih0 _ _ _ _ _ _ _ _ _ _ _ _ _)
   | (with_reducible exact ih1 _ _ _ _ _ _ _ _ _ _ _ _ _ _)
   | (with_reducible exact LeO.refl _)
   | (with_reducible exact LeO.none _)
   | (with_reducible refine LeO.ite ?_ ?_)
   | (with_reducible refine LeO.bind ?_ (fun _ => ?_))
   | exact ih0 _ _ _ _ _ _ _ _ _ _ _ _ _
   | exact ih1 _ _ _ _ _ _ _ _ _ _ _ _ _ _
   | exact LeO.none _
   | refine LeO.ite ?_ ?_
   | refine LeO.bind ?_ (fun _ => ?_)
set_option maxHeartbeats 8000000 in
set_option maxRecDepth 100000 in
theorem limit_Check.calls (k : Nat) (a0_0 : Int) (a0_1 : Int) (a0_2 : Int) (a0_3 : Int) (a0_4 : Int) (a0_5 : Int) (a0_6 : Int) (a0_7 : Int) (a0_8 : Int) (a0_9 : Int) (a0_10 : Int) (a0_11 : Int) (r : Int) (w : World) (h : limit_Check.f k a0_0 a0_1 a0_2 a0_3 a0_4 a0_5 a0_6 a0_7 a0_8 a0_9 a0_10 a0_11 = some r) :
  Calls Try.prog 19 #[.agg #[.int .i64 a0_0, .int .i64 a0_1, .int .i64 a0_2, .int .i64 a0_3, .int .i64 a0_4, .int .i64 a0_5, .int .i64 a0_6, .int .i64 a0_7, .int .i64 a0_8, .int .i64 a0_9, .int .i64 a0_10, .int .i64 a0_11]] w fun e w' => e = .returned (.int .i64 r) ∧ Below w.heap.size w w' := by
 have hu23 := Try.underlying23
 have HB := mk (Below.refl w.heap.size w)
 have H : ((limit_in.f a0_0 1 16).bind fun t242 => (if t242 = true then ((limit_in.f a0_1 0 (wrap64 (Int.tdiv (wrap64 (a0_0 - 1)) 3))).bind fun t243 => (if t243 = true then ((limit_in.f a0_2 0 16).bind fun t244 => (limit_Check.j0 k t244 a0_0 a0_1 a0_2 a0_3 a0_4 a0_5 a0_6 a0_7 a0_8 a0_9 a0_10 a0_11)) else (limit_Check.j0 k false a0_0 a0_1 a0_2 a0_3 a0_4 a0_5 a0_6 a0_7 a0_8 a0_9 a0_10 a0_11))) else (limit_Check.j0 k false a0_0 a0_1 a0_2 a0_3 a0_4 a0_5 a0_6 a0_7 a0_8 a0_9 a0_10 a0_11))) = some r := h
 clear h
 have HC2 := mk H
 clear H
 go_enter Try.func19, Try.ntmps19
 go_upto_region 1 with (first | ((with_reducible refine gate_dst (N := 1) rfl ?_); refine box_event ?hg (N := 1) ?hd (cs := #[.int .i64 a0_0, .int .i64 a0_1, .int .i64 a0_2, .int .i64 a0_3, .int .i64 a0_4, .int .i64 a0_5, .int .i64 a0_6, .int .i64 a0_7, .int .i64 a0_8, .int .i64 a0_9, .int .i64 a0_10, .int .i64 a0_11]) (t := 23) ?hr ?_; (case hd => rfl); (case hg => rfl); (case hr => first | (go_simp; done) | (go_simp; rfl)); intro g0_ hg w3 hbox hb; have n0_ := mk (below_step (by repeat first | exact HB.1 | apply pD | apply b1 | refine bT (by assumption) ?_ | apply bA) hb); have n1_ := mk (hbox); have n2_ := gl hg (by repeat first | exact HB.1 | apply pD | apply b1 | refine bT (by assumption) ?_ | apply bA); have n3_ := gl hg (by repeat first | exact HB.1 | apply pD | apply b1 | refine bT (by assumption) ?_ | apply bA); clear HB; have HB := n0_; have B0_ := n1_; have W0_ := n2_; have E0_ := n3_; clear n0_ n1_ n2_ n3_; clear hb hbox hg))
 (try simp only [Act.put, List.setIfInBounds_toArray, List.set_cons_zero, List.set_cons_succ])
 go_cut [3] (fun v3 wc => ∃ (kq : Nat) (x3_1 : Bool), v3 = .bool x3_1 ∧ Aside0 (limit_Check.j0 kq x3_1 a0_0 a0_1 a0_2 a0_3 a0_4 a0_5 a0_6 a0_7 a0_8 a0_9 a0_10 a0_11 = some r) ∧ Aside0 (kq ≤ k) ∧ Aside0 (wc.heap[g0_]? = some (.cells #[.int .i64 a0_0, .int .i64 a0_1, .int .i64 a0_2, .int .i64 a0_3, .int .i64 a0_4, .int .i64 a0_5, .int .i64 a0_6, .int .i64 a0_7, .int .i64 a0_8, .int .i64 a0_9, .int .i64 a0_10, .int .i64 a0_11] 23 (0, 0))) ∧ Aside0 (Below w.heap.size w wc))
 case first =>
  have H := HC2.out
  clear HC2
  replace H := Option.bind_eq_some_iff.mp H
  obtain ⟨t242, A40, H⟩ := H
  replace H : (if t242 = true then ((limit_in.f a0_1 0 (wrap64 (Int.tdiv (wrap64 (a0_0 - 1)) 3))).bind fun t243 => (if t243 = true then ((limit_in.f a0_2 0 16).bind fun t244 => (limit_Check.j0 k t244 a0_0 a0_1 a0_2 a0_3 a0_4 a0_5 a0_6 a0_7 a0_8 a0_9 a0_10 a0_11)) else (limit_Check.j0 k false a0_0 a0_1 a0_2 a0_3 a0_4 a0_5 a0_6 a0_7 a0_8 a0_9 a0_10 a0_11))) else (limit_Check.j0 k false a0_0 a0_1 a0_2 a0_3 a0_4 a0_5 a0_6 a0_7 a0_8 a0_9 a0_10 a0_11)) = some r := H
  have A4 := mk A40
  clear A40
  by_cases c5 : t242 = true
  ·subst c5
   have H1 : ((limit_in.f a0_1 0 (wrap64 (Int.tdiv (wrap64 (a0_0 - 1)) 3))).bind fun t243 => (if t243 = true then ((limit_in.f a0_2 0 16).bind fun t244 => (limit_Check.j0 k t244 a0_0 a0_1 a0_2 a0_3 a0_4 a0_5 a0_6 a0_7 a0_8 a0_9 a0_10 a0_11)) else (limit_Check.j0 k false a0_0 a0_1 a0_2 a0_3 a0_4 a0_5 a0_6 a0_7 a0_8 a0_9 a0_10 a0_11))) = some r := by rw [if_pos rfl] at H; exact H
   clear H
   have H := H1
   clear H1
   replace H := Option.bind_eq_some_iff.mp H
   obtain ⟨t243, A60, H⟩ := H
   replace H : (if t243 = true then ((limit_in.f a0_2 0 16).bind fun t244 => (limit_Check.j0 k t244 a0_0 a0_1 a0_2 a0_3 a0_4 a0_5 a0_6 a0_7 a0_8 a0_9 a0_10 a0_11)) else (limit_Check.j0 k false a0_0 a0_1 a0_2 a0_3 a0_4 a0_5 a0_6 a0_7 a0_8 a0_9 a0_10 a0_11)) = some r := H
   have A6 := mk A60
   clear A60
   by_cases c7 : t243 = true
   ·subst c7
    have H1 : ((limit_in.f a0_2 0 16).bind fun t244 => (limit_Check.j0 k t244 a0_0 a0_1 a0_2 a0_3 a0_4 a0_5 a0_6 a0_7 a0_8 a0_9 a0_10 a0_11)) = some r := by rw [if_pos rfl] at H; exact H
    clear H
    have H := H1
    clear H1
    replace H := Option.bind_eq_some_iff.mp H
    obtain ⟨t244, A80, H⟩ := H
    replace H : (limit_Check.j0 k t244 a0_0 a0_1 a0_2 a0_3 a0_4 a0_5 a0_6 a0_7 a0_8 a0_9 a0_10 a0_11) = some r := H
    have A8 := mk A80
    clear A80
    have H' := mk H
    clear H
    have hcz9_0 : w3.cell? ⟨g0_, 0, none⟩ = some (.int .i64 a0_0) := bQ B0_.1 0
    have hcz9_1 : w3.cell? ⟨g0_, 1, none⟩ = some (.int .i64 a0_1) := bQ B0_.1 1
    have hcz9_2 : w3.cell? ⟨g0_, 2, none⟩ = some (.int .i64 a0_2) := bQ B0_.1 2
    have hfz9_0 := blk_frozen B0_.1 0
    have hfz9_1 := blk_frozen B0_.1 1
    have hfz9_2 := blk_frozen B0_.1 2
    go_wp2_with (first | ((with_reducible refine gate_callee (f := 55) rfl ?_); refine goesL_ (some 7) rfl rfl Try.func55 (by kernel_rfl) rfl #[.int .i64 a0_0, .int .i64 1, .int .i64 16] rfl (by (try simp only [List.map_toArray, List.map_cons, List.map_nil]); first | done | rfl | (simp only [List.length_drop, List.length_take]; rfl)) ?_; (with_reducible refine (limit_in.calls a0_0 1 16 true _ A4.1).mono ?_); rintro e w' ⟨rfl, ⟨nd, rfl⟩⟩; refine ⟨_, rfl, ?_⟩) | (go_at_call 55; (try simp only [i64_w, i32_w]); (with_reducible refine (limit_in.calls a0_1 0 (wrap64 (Int.tdiv (wrap64 (a0_0 - 1)) 3)) true _ A6.1).mono ?_); rintro e w' ⟨rfl, ⟨nd, rfl⟩⟩) | (go_at_call 55; (with_reducible refine (limit_in.calls a0_2 0 16 t244 _ A8.1).mono ?_); rintro e w' ⟨rfl, ⟨nd, rfl⟩⟩))
    go_meet
    case rel => exact ⟨_, (t244), (by first | rfl | (simp; done) | (simp [*]; done) | (simp [Int.tdiv_eq_ediv_of_nonneg]; done) | (simp [Go.RowKit.wrap64]; done) | (simp [*, Go.RowKit.wrap64]; done)), H', ⟨by first | omega | exact Nat.le_refl _⟩, ⟨by exact B0_.1⟩, ⟨by repeat (first | (with_reducible first | exact HB.1 | apply bA | apply pD | apply b1 | apply bS E0_.1) | exact HB.1)⟩⟩
   replace c7 := Bool.eq_false_iff.mpr c7
   subst c7
   have H1 : (limit_Check.j0 k false a0_0 a0_1 a0_2 a0_3 a0_4 a0_5 a0_6 a0_7 a0_8 a0_9 a0_10 a0_11) = some r := by rw [if_neg (show ¬ (false = true) by decide)] at H; exact H
   clear H
   have H := H1
   clear H1
   have H' := mk H
   clear H
   have hcz10_0 : w3.cell? ⟨g0_, 0, none⟩ = some (.int .i64 a0_0) := bQ B0_.1 0
   have hcz10_1 : w3.cell? ⟨g0_, 1, none⟩ = some (.int .i64 a0_1) := bQ B0_.1 1
   have hfz10_0 := blk_frozen B0_.1 0
   have hfz10_1 := blk_frozen B0_.1 1
   go_wp2_with (first | ((with_reducible refine gate_callee (f := 55) rfl ?_); refine goesL_ (some 7) rfl rfl Try.func55 (by kernel_rfl) rfl #[.int .i64 a0_0, .int .i64 1, .int .i64 16] rfl (by (try simp only [List.map_toArray, List.map_cons, List.map_nil]); first | done | rfl | (simp only [List.length_drop, List.length_take]; rfl)) ?_; (with_reducible refine (limit_in.calls a0_0 1 16 true _ A4.1).mono ?_); rintro e w' ⟨rfl, ⟨nd, rfl⟩⟩; refine ⟨_, rfl, ?_⟩) | (go_at_call 55; (try simp only [i64_w, i32_w]); (with_reducible refine (limit_in.calls a0_1 0 (wrap64 (Int.tdiv (wrap64 (a0_0 - 1)) 3)) false _ A6.1).mono ?_); rintro e w' ⟨rfl, ⟨nd, rfl⟩⟩))
   go_meet
   case rel => exact ⟨_, (false), (by first | rfl | (simp; done) | (simp [*]; done) | (simp [Int.tdiv_eq_ediv_of_nonneg]; done) | (simp [Go.RowKit.wrap64]; done) | (simp [*, Go.RowKit.wrap64]; done)), H', ⟨by first | omega | exact Nat.le_refl _⟩, ⟨by exact B0_.1⟩, ⟨by repeat (first | (with_reducible first | exact HB.1 | apply bA | apply pD | apply b1 | apply bS E0_.1) | exact HB.1)⟩⟩
  replace c5 := Bool.eq_false_iff.mpr c5
  subst c5
  have H1 : (limit_Check.j0 k false a0_0 a0_1 a0_2 a0_3 a0_4 a0_5 a0_6 a0_7 a0_8 a0_9 a0_10 a0_11) = some r := by rw [if_neg (show ¬ (false = true) by decide)] at H; exact H
  clear H
  have H := H1
  clear H1
  have H' := mk H
  clear H
  have hcz11_0 : w3.cell? ⟨g0_, 0, none⟩ = some (.int .i64 a0_0) := bQ B0_.1 0
  have hfz11_0 := blk_frozen B0_.1 0
  go_wp2_with (first | ((with_reducible refine gate_callee (f := 55) rfl ?_); refine goesL_ (some 7) rfl rfl Try.func55 (by kernel_rfl) rfl #[.int .i64 a0_0, .int .i64 1, .int .i64 16] rfl (by (try simp only [List.map_toArray, List.map_cons, List.map_nil]); first | done | rfl | (simp only [List.length_drop, List.length_take]; rfl)) ?_; (with_reducible refine (limit_in.calls a0_0 1 16 false _ A4.1).mono ?_); rintro e w' ⟨rfl, ⟨nd, rfl⟩⟩; refine ⟨_, rfl, ?_⟩))
  go_meet
  case rel => exact ⟨_, (false), (by first | rfl | (simp; done) | (simp [*]; done) | (simp [Int.tdiv_eq_ediv_of_nonneg]; done) | (simp [Go.RowKit.wrap64]; done) | (simp [*, Go.RowKit.wrap64]; done)), H', ⟨by first | omega | exact Nat.le_refl _⟩, ⟨by exact B0_.1⟩, ⟨by repeat (first | (with_reducible first | exact HB.1 | apply bA | apply pD | apply b1 | apply bS E0_.1) | exact HB.1)⟩⟩
 case rest =>
  clear HC2
  try clear c1
  try clear p2
  try clear c5
  try clear p6
  try clear c7
  try clear hcz10_0
  try clear hcz10_1
  try clear hcz11_0
  try clear hcz9_0
  try clear hcz9_1
  try clear hcz9_2
  try clear hfz10_0
  try clear hfz10_1
  try clear hfz11_0
  try clear hfz9_0
  try clear hfz9_1
  try clear hfz9_2
  obtain ⟨kq, x3_1, rfl, HA, HJ1, B0_, HB⟩ := hcut
  cases kq with
  | zero => exact absurd HA.out (by simp [limit_Check.j0])
  | succ kj1 =>
   have H := HA.out
   clear HA
   simp only [limit_Check.j0] at H
   have HC12 := mk H
   clear H
   go_upto_region 2 with (fail)
   go_cut [4] (fun v4 wc => ∃ (kq : Nat) (x4_11 : Bool), v4 = .bool x4_11 ∧ Aside0 (limit_Check.j1 kq x3_1 x4_11 a0_0 a0_1 a0_2 a0_3 a0_4 a0_5 a0_6 a0_7 a0_8 a0_9 a0_10 a0_11 = some r) ∧ Aside0 (kq ≤ kj1) ∧ Aside0 (wc.heap[g0_]? = some (.cells #[.int .i64 a0_0, .int .i64 a0_1, .int .i64 a0_2, .int .i64 a0_3, .int .i64 a0_4, .int .i64 a0_5, .int .i64 a0_6, .int .i64 a0_7, .int .i64 a0_8, .int .i64 a0_9, .int .i64 a0_10, .int .i64 a0_11] 23 (0, 0))) ∧ Aside0 (Below w.heap.size w wc))
   case first =>
    have H := HC12.out
    clear HC12
    replace H := Option.bind_eq_some_iff.mp H
    obtain ⟨t245, A130, H⟩ := H
    replace H : (if t245 = true then ((limit_in.f a0_4 0 (wrap64 (Int.tdiv a0_3 8))).bind fun t246 => (if t246 = true then ((limit_in.f a0_5 0 (wrap64 (Int.tdiv a0_3 2))).bind fun t247 => (if t247 = true then ((limit_in.f a0_6 0 a0_5).bind fun t248 => (limit_Check.j1 kj1 x3_1 t248 a0_0 a0_1 a0_2 a0_3 a0_4 a0_5 a0_6 a0_7 a0_8 a0_9 a0_10 a0_11)) else (limit_Check.j1 kj1 x3_1 false a0_0 a0_1 a0_2 a0_3 a0_4 a0_5 a0_6 a0_7 a0_8 a0_9 a0_10 a0_11))) else (limit_Check.j1 kj1 x3_1 false a0_0 a0_1 a0_2 a0_3 a0_4 a0_5 a0_6 a0_7 a0_8 a0_9 a0_10 a0_11))) else (limit_Check.j1 kj1 x3_1 false a0_0 a0_1 a0_2 a0_3 a0_4 a0_5 a0_6 a0_7 a0_8 a0_9 a0_10 a0_11)) = some r := H
    have A13 := mk A130
    clear A130
    by_cases c14 : t245 = true
    ·subst c14
     have H1 : ((limit_in.f a0_4 0 (wrap64 (Int.tdiv a0_3 8))).bind fun t246 => (if t246 = true then ((limit_in.f a0_5 0 (wrap64 (Int.tdiv a0_3 2))).bind fun t247 => (if t247 = true then ((limit_in.f a0_6 0 a0_5).bind fun t248 => (limit_Check.j1 kj1 x3_1 t248 a0_0 a0_1 a0_2 a0_3 a0_4 a0_5 a0_6 a0_7 a0_8 a0_9 a0_10 a0_11)) else (limit_Check.j1 kj1 x3_1 false a0_0 a0_1 a0_2 a0_3 a0_4 a0_5 a0_6 a0_7 a0_8 a0_9 a0_10 a0_11))) else (limit_Check.j1 kj1 x3_1 false a0_0 a0_1 a0_2 a0_3 a0_4 a0_5 a0_6 a0_7 a0_8 a0_9 a0_10 a0_11))) = some r := by rw [if_pos rfl] at H; exact H
     clear H
     have H := H1
     clear H1
     replace H := Option.bind_eq_some_iff.mp H
     obtain ⟨t246, A150, H⟩ := H
     replace H : (if t246 = true then ((limit_in.f a0_5 0 (wrap64 (Int.tdiv a0_3 2))).bind fun t247 => (if t247 = true then ((limit_in.f a0_6 0 a0_5).bind fun t248 => (limit_Check.j1 kj1 x3_1 t248 a0_0 a0_1 a0_2 a0_3 a0_4 a0_5 a0_6 a0_7 a0_8 a0_9 a0_10 a0_11)) else (limit_Check.j1 kj1 x3_1 false a0_0 a0_1 a0_2 a0_3 a0_4 a0_5 a0_6 a0_7 a0_8 a0_9 a0_10 a0_11))) else (limit_Check.j1 kj1 x3_1 false a0_0 a0_1 a0_2 a0_3 a0_4 a0_5 a0_6 a0_7 a0_8 a0_9 a0_10 a0_11)) = some r := H
     have A15 := mk A150
     clear A150
     by_cases c16 : t246 = true
     ·subst c16
      have H1 : ((limit_in.f a0_5 0 (wrap64 (Int.tdiv a0_3 2))).bind fun t247 => (if t247 = true then ((limit_in.f a0_6 0 a0_5).bind fun t248 => (limit_Check.j1 kj1 x3_1 t248 a0_0 a0_1 a0_2 a0_3 a0_4 a0_5 a0_6 a0_7 a0_8 a0_9 a0_10 a0_11)) else (limit_Check.j1 kj1 x3_1 false a0_0 a0_1 a0_2 a0_3 a0_4 a0_5 a0_6 a0_7 a0_8 a0_9 a0_10 a0_11))) = some r := by rw [if_pos rfl] at H; exact H
      clear H
      have H := H1
      clear H1
      replace H := Option.bind_eq_some_iff.mp H
      obtain ⟨t247, A170, H⟩ := H
      replace H : (if t247 = true then ((limit_in.f a0_6 0 a0_5).bind fun t248 => (limit_Check.j1 kj1 x3_1 t248 a0_0 a0_1 a0_2 a0_3 a0_4 a0_5 a0_6 a0_7 a0_8 a0_9 a0_10 a0_11)) else (limit_Check.j1 kj1 x3_1 false a0_0 a0_1 a0_2 a0_3 a0_4 a0_5 a0_6 a0_7 a0_8 a0_9 a0_10 a0_11)) = some r := H
      have A17 := mk A170
      clear A170
      by_cases c18 : t247 = true
      ·subst c18
       have H1 : ((limit_in.f a0_6 0 a0_5).bind fun t248 => (limit_Check.j1 kj1 x3_1 t248 a0_0 a0_1 a0_2 a0_3 a0_4 a0_5 a0_6 a0_7 a0_8 a0_9 a0_10 a0_11)) = some r := by rw [if_pos rfl] at H; exact H
       clear H
       have H := H1
       clear H1
       replace H := Option.bind_eq_some_iff.mp H
       obtain ⟨t248, A190, H⟩ := H
       replace H : (limit_Check.j1 kj1 x3_1 t248 a0_0 a0_1 a0_2 a0_3 a0_4 a0_5 a0_6 a0_7 a0_8 a0_9 a0_10 a0_11) = some r := H
       have A19 := mk A190
       clear A190
       have H' := mk H
       clear H
       have hcz20_3 : wc.cell? ⟨g0_, 3, none⟩ = some (.int .i64 a0_3) := bQ B0_.1 3
       have hcz20_4 : wc.cell? ⟨g0_, 4, none⟩ = some (.int .i64 a0_4) := bQ B0_.1 4
       have hcz20_5 : wc.cell? ⟨g0_, 5, none⟩ = some (.int .i64 a0_5) := bQ B0_.1 5
       have hcz20_6 : wc.cell? ⟨g0_, 6, none⟩ = some (.int .i64 a0_6) := bQ B0_.1 6
       have hfz20_3 := blk_frozen B0_.1 3
       have hfz20_4 := blk_frozen B0_.1 4
       have hfz20_5 := blk_frozen B0_.1 5
       have hfz20_6 := blk_frozen B0_.1 6
       go_wp2_with (first | ((with_reducible refine gate_callee (f := 55) rfl ?_); refine goesL_ (some 24) rfl rfl Try.func55 (by kernel_rfl) rfl #[.int .i64 a0_3, .int .i64 1, .int .i64 1099511627776] rfl (by (try simp only [List.map_toArray, List.map_cons, List.map_nil]); first | done | rfl | (simp only [List.length_drop, List.length_take]; rfl)) ?_; (with_reducible refine (limit_in.calls a0_3 1 1099511627776 true _ A13.1).mono ?_); rintro e w' ⟨rfl, ⟨nd, rfl⟩⟩; refine ⟨_, rfl, ?_⟩) | (go_at_call 55; (try simp only [i64_w, i32_w]); (with_reducible refine (limit_in.calls a0_4 0 (wrap64 (Int.tdiv a0_3 8)) true _ A15.1).mono ?_); rintro e w' ⟨rfl, ⟨nd, rfl⟩⟩) | (go_at_call 55; (try simp only [i64_w, i32_w]); (with_reducible refine (limit_in.calls a0_5 0 (wrap64 (Int.tdiv a0_3 2)) true _ A17.1).mono ?_); rintro e w' ⟨rfl, ⟨nd, rfl⟩⟩) | (go_at_call 55; (with_reducible refine (limit_in.calls a0_6 0 a0_5 t248 _ A19.1).mono ?_); rintro e w' ⟨rfl, ⟨nd, rfl⟩⟩))
       go_meet
       case rel => exact ⟨_, (t248), (by first | rfl | (simp; done) | (simp [*]; done) | (simp [Int.tdiv_eq_ediv_of_nonneg]; done) | (simp [Go.RowKit.wrap64]; done) | (simp [*, Go.RowKit.wrap64]; done)), H', ⟨by have := HJ1.out; first | omega | exact Nat.le_refl _⟩, ⟨by exact B0_.1⟩, ⟨by repeat (first | (with_reducible first | exact HB.1 | apply bA | apply pD | apply b1 | apply bS E0_.1) | exact HB.1)⟩⟩
      replace c18 := Bool.eq_false_iff.mpr c18
      subst c18
      have H1 : (limit_Check.j1 kj1 x3_1 false a0_0 a0_1 a0_2 a0_3 a0_4 a0_5 a0_6 a0_7 a0_8 a0_9 a0_10 a0_11) = some r := by rw [if_neg (show ¬ (false = true) by decide)] at H; exact H
      clear H
      have H := H1
      clear H1
      have H' := mk H
      clear H
      have hcz21_3 : wc.cell? ⟨g0_, 3, none⟩ = some (.int .i64 a0_3) := bQ B0_.1 3
      have hcz21_4 : wc.cell? ⟨g0_, 4, none⟩ = some (.int .i64 a0_4) := bQ B0_.1 4
      have hcz21_5 : wc.cell? ⟨g0_, 5, none⟩ = some (.int .i64 a0_5) := bQ B0_.1 5
      have hfz21_3 := blk_frozen B0_.1 3
      have hfz21_4 := blk_frozen B0_.1 4
      have hfz21_5 := blk_frozen B0_.1 5
      go_wp2_with (first | ((with_reducible refine gate_callee (f := 55) rfl ?_); refine goesL_ (some 24) rfl rfl Try.func55 (by kernel_rfl) rfl #[.int .i64 a0_3, .int .i64 1, .int .i64 1099511627776] rfl (by (try simp only [List.map_toArray, List.map_cons, List.map_nil]); first | done | rfl | (simp only [List.length_drop, List.length_take]; rfl)) ?_; (with_reducible refine (limit_in.calls a0_3 1 1099511627776 true _ A13.1).mono ?_); rintro e w' ⟨rfl, ⟨nd, rfl⟩⟩; refine ⟨_, rfl, ?_⟩) | (go_at_call 55; (try simp only [i64_w, i32_w]); (with_reducible refine (limit_in.calls a0_4 0 (wrap64 (Int.tdiv a0_3 8)) true _ A15.1).mono ?_); rintro e w' ⟨rfl, ⟨nd, rfl⟩⟩) | (go_at_call 55; (try simp only [i64_w, i32_w]); (with_reducible refine (limit_in.calls a0_5 0 (wrap64 (Int.tdiv a0_3 2)) false _ A17.1).mono ?_); rintro e w' ⟨rfl, ⟨nd, rfl⟩⟩))
      go_meet
      case rel => exact ⟨_, (false), (by first | rfl | (simp; done) | (simp [*]; done) | (simp [Int.tdiv_eq_ediv_of_nonneg]; done) | (simp [Go.RowKit.wrap64]; done) | (simp [*, Go.RowKit.wrap64]; done)), H', ⟨by have := HJ1.out; first | omega | exact Nat.le_refl _⟩, ⟨by exact B0_.1⟩, ⟨by repeat (first | (with_reducible first | exact HB.1 | apply bA | apply pD | apply b1 | apply bS E0_.1) | exact HB.1)⟩⟩
     replace c16 := Bool.eq_false_iff.mpr c16
     subst c16
     have H1 : (limit_Check.j1 kj1 x3_1 false a0_0 a0_1 a0_2 a0_3 a0_4 a0_5 a0_6 a0_7 a0_8 a0_9 a0_10 a0_11) = some r := by rw [if_neg (show ¬ (false = true) by decide)] at H; exact H
     clear H
     have H := H1
     clear H1
     have H' := mk H
     clear H
     have hcz22_3 : wc.cell? ⟨g0_, 3, none⟩ = some (.int .i64 a0_3) := bQ B0_.1 3
     have hcz22_4 : wc.cell? ⟨g0_, 4, none⟩ = some (.int .i64 a0_4) := bQ B0_.1 4
     have hfz22_3 := blk_frozen B0_.1 3
     have hfz22_4 := blk_frozen B0_.1 4
     go_wp2_with (first | ((with_reducible refine gate_callee (f := 55) rfl ?_); refine goesL_ (some 24) rfl rfl Try.func55 (by kernel_rfl) rfl #[.int .i64 a0_3, .int .i64 1, .int .i64 1099511627776] rfl (by (try simp only [List.map_toArray, List.map_cons, List.map_nil]); first | done | rfl | (simp only [List.length_drop, List.length_take]; rfl)) ?_; (with_reducible refine (limit_in.calls a0_3 1 1099511627776 true _ A13.1).mono ?_); rintro e w' ⟨rfl, ⟨nd, rfl⟩⟩; refine ⟨_, rfl, ?_⟩) | (go_at_call 55; (try simp only [i64_w, i32_w]); (with_reducible refine (limit_in.calls a0_4 0 (wrap64 (Int.tdiv a0_3 8)) false _ A15.1).mono ?_); rintro e w' ⟨rfl, ⟨nd, rfl⟩⟩))
     go_meet
     case rel => exact ⟨_, (false), (by first | rfl | (simp; done) | (simp [*]; done) | (simp [Int.tdiv_eq_ediv_of_nonneg]; done) | (simp [Go.RowKit.wrap64]; done) | (simp [*, Go.RowKit.wrap64]; done)), H', ⟨by have := HJ1.out; first | omega | exact Nat.le_refl _⟩, ⟨by exact B0_.1⟩, ⟨by repeat (first | (with_reducible first | exact HB.1 | apply bA | apply pD | apply b1 | apply bS E0_.1) | exact HB.1)⟩⟩
    replace c14 := Bool.eq_false_iff.mpr c14
    subst c14
    have H1 : (limit_Check.j1 kj1 x3_1 false a0_0 a0_1 a0_2 a0_3 a0_4 a0_5 a0_6 a0_7 a0_8 a0_9 a0_10 a0_11) = some r := by rw [if_neg (show ¬ (false = true) by decide)] at H; exact H
    clear H
    have H := H1
    clear H1
    have H' := mk H
    clear H
    have hcz23_3 : wc.cell? ⟨g0_, 3, none⟩ = some (.int .i64 a0_3) := bQ B0_.1 3
    have hfz23_3 := blk_frozen B0_.1 3
    go_wp2_with (first | ((with_reducible refine gate_callee (f := 55) rfl ?_); refine goesL_ (some 24) rfl rfl Try.func55 (by kernel_rfl) rfl #[.int .i64 a0_3, .int .i64 1, .int .i64 1099511627776] rfl (by (try simp only [List.map_toArray, List.map_cons, List.map_nil]); first | done | rfl | (simp only [List.length_drop, List.length_take]; rfl)) ?_; (with_reducible refine (limit_in.calls a0_3 1 1099511627776 false _ A13.1).mono ?_); rintro e w' ⟨rfl, ⟨nd, rfl⟩⟩; refine ⟨_, rfl, ?_⟩))
    go_meet
    case rel => exact ⟨_, (false), (by first | rfl | (simp; done) | (simp [*]; done) | (simp [Int.tdiv_eq_ediv_of_nonneg]; done) | (simp [Go.RowKit.wrap64]; done) | (simp [*, Go.RowKit.wrap64]; done)), H', ⟨by have := HJ1.out; first | omega | exact Nat.le_refl _⟩, ⟨by exact B0_.1⟩, ⟨by repeat (first | (with_reducible first | exact HB.1 | apply bA | apply pD | apply b1 | apply bS E0_.1) | exact HB.1)⟩⟩
   case rest =>
    clear HC12
    try clear c1
    try clear p2
    try clear c5
    try clear p6
    try clear c7
    try clear c14
    try clear c16
    try clear c18
    try clear c19
    try clear hcz10_0
    try clear hcz10_1
    try clear hcz11_0
    try clear hcz20_3
    try clear hcz20_4
    try clear hcz20_5
    try clear hcz20_6
    try clear hcz21_3
    try clear hcz21_4
    try clear hcz21_5
    try clear hcz22_3
    try clear hcz22_4
    try clear hcz23_3
    try clear hcz9_0
    try clear hcz9_1
    try clear hcz9_2
    try clear hfz10_0
    try clear hfz10_1
    try clear hfz11_0
    try clear hfz20_3
    try clear hfz20_4
    try clear hfz20_5
    try clear hfz20_6
    try clear hfz21_3
    try clear hfz21_4
    try clear hfz21_5
    try clear hfz22_3
    try clear hfz22_4
    try clear hfz23_3
    try clear hfz9_0
    try clear hfz9_1
    try clear hfz9_2
    try clear p2
    try clear p6
    obtain ⟨kq, x4_11, rfl, HA, HJ11, B0_, HB⟩ := hcut
    cases kq with
    | zero => exact absurd HA.out (by simp [limit_Check.j1])
    | succ kj11 =>
     have H := HA.out
     clear HA
     simp only [limit_Check.j1] at H
     by_cases c24 : x3_1 = true
     ·subst c24
      have H1 : (if x4_11 = true then ((limit_in.f a0_7 0 1099511627776).bind fun t249 => (if t249 = true then ((limit_in.f a0_8 (wrap64 (a0_4 + 1)) (wrap64 (Int.tdiv a0_3 4))).bind fun t250 => (if t250 = true then ((limit_in.f a0_9 (wrap64 (a0_2 + 2)) 1048576).bind fun t251 => (if t251 = true then ((limit_in.f a0_10 1 1099511627776).bind fun t252 => (if t252 = true then ((limit_in.f a0_11 1 1099511627776).bind fun t253 => (if t253 = true then (some 0) else (some 1))) else (some 1))) else (some 1))) else (some 1))) else (some 1))) else (some 1)) = some r := by rw [if_pos rfl] at H; exact H
      clear H
      have H := H1
      clear H1
      by_cases c25 : x4_11 = true
      ·subst c25
       have H1 : ((limit_in.f a0_7 0 1099511627776).bind fun t249 => (if t249 = true then ((limit_in.f a0_8 (wrap64 (a0_4 + 1)) (wrap64 (Int.tdiv a0_3 4))).bind fun t250 => (if t250 = true then ((limit_in.f a0_9 (wrap64 (a0_2 + 2)) 1048576).bind fun t251 => (if t251 = true then ((limit_in.f a0_10 1 1099511627776).bind fun t252 => (if t252 = true then ((limit_in.f a0_11 1 1099511627776).bind fun t253 => (if t253 = true then (some 0) else (some 1))) else (some 1))) else (some 1))) else (some 1))) else (some 1))) = some r := by rw [if_pos rfl] at H; exact H
       clear H
       have H := H1
       clear H1
       replace H := Option.bind_eq_some_iff.mp H
       obtain ⟨t249, A260, H⟩ := H
       replace H : (if t249 = true then ((limit_in.f a0_8 (wrap64 (a0_4 + 1)) (wrap64 (Int.tdiv a0_3 4))).bind fun t250 => (if t250 = true then ((limit_in.f a0_9 (wrap64 (a0_2 + 2)) 1048576).bind fun t251 => (if t251 = true then ((limit_in.f a0_10 1 1099511627776).bind fun t252 => (if t252 = true then ((limit_in.f a0_11 1 1099511627776).bind fun t253 => (if t253 = true then (some 0) else (some 1))) else (some 1))) else (some 1))) else (some 1))) else (some 1)) = some r := H
       have A26 := mk A260
       clear A260
       by_cases c27 : t249 = true
       ·subst c27
        have H1 : ((limit_in.f a0_8 (wrap64 (a0_4 + 1)) (wrap64 (Int.tdiv a0_3 4))).bind fun t250 => (if t250 = true then ((limit_in.f a0_9 (wrap64 (a0_2 + 2)) 1048576).bind fun t251 => (if t251 = true then ((limit_in.f a0_10 1 1099511627776).bind fun t252 => (if t252 = true then ((limit_in.f a0_11 1 1099511627776).bind fun t253 => (if t253 = true then (some 0) else (some 1))) else (some 1))) else (some 1))) else (some 1))) = some r := by rw [if_pos rfl] at H; exact H
        clear H
        have H := H1
        clear H1
        replace H := Option.bind_eq_some_iff.mp H
        obtain ⟨t250, A280, H⟩ := H
        replace H : (if t250 = true then ((limit_in.f a0_9 (wrap64 (a0_2 + 2)) 1048576).bind fun t251 => (if t251 = true then ((limit_in.f a0_10 1 1099511627776).bind fun t252 => (if t252 = true then ((limit_in.f a0_11 1 1099511627776).bind fun t253 => (if t253 = true then (some 0) else (some 1))) else (some 1))) else (some 1))) else (some 1)) = some r := H
        have A28 := mk A280
        clear A280
        by_cases c29 : t250 = true
        ·subst c29
         have H1 : ((limit_in.f a0_9 (wrap64 (a0_2 + 2)) 1048576).bind fun t251 => (if t251 = true then ((limit_in.f a0_10 1 1099511627776).bind fun t252 => (if t252 = true then ((limit_in.f a0_11 1 1099511627776).bind fun t253 => (if t253 = true then (some 0) else (some 1))) else (some 1))) else (some 1))) = some r := by rw [if_pos rfl] at H; exact H
         clear H
         have H := H1
         clear H1
         replace H := Option.bind_eq_some_iff.mp H
         obtain ⟨t251, A300, H⟩ := H
         replace H : (if t251 = true then ((limit_in.f a0_10 1 1099511627776).bind fun t252 => (if t252 = true then ((limit_in.f a0_11 1 1099511627776).bind fun t253 => (if t253 = true then (some 0) else (some 1))) else (some 1))) else (some 1)) = some r := H
         have A30 := mk A300
         clear A300
         by_cases c31 : t251 = true
         ·subst c31
          have H1 : ((limit_in.f a0_10 1 1099511627776).bind fun t252 => (if t252 = true then ((limit_in.f a0_11 1 1099511627776).bind fun t253 => (if t253 = true then (some 0) else (some 1))) else (some 1))) = some r := by rw [if_pos rfl] at H; exact H
          clear H
          have H := H1
          clear H1
          replace H := Option.bind_eq_some_iff.mp H
          obtain ⟨t252, A320, H⟩ := H
          replace H : (if t252 = true then ((limit_in.f a0_11 1 1099511627776).bind fun t253 => (if t253 = true then (some 0) else (some 1))) else (some 1)) = some r := H
          have A32 := mk A320
          clear A320
          by_cases c33 : t252 = true
          ·subst c33
           have H1 : ((limit_in.f a0_11 1 1099511627776).bind fun t253 => (if t253 = true then (some 0) else (some 1))) = some r := by rw [if_pos rfl] at H; exact H
           clear H
           have H := H1
           clear H1
           replace H := Option.bind_eq_some_iff.mp H
           obtain ⟨t253, A340, H⟩ := H
           replace H : (if t253 = true then (some 0) else (some 1)) = some r := H
           have A34 := mk A340
           clear A340
           by_cases c35 : t253 = true
           ·subst c35
            have H1 : (some 0) = some r := by rw [if_pos rfl] at H; exact H
            clear H
            have H := H1
            clear H1
            obtain rfl := Option.some.inj H
            have hcz36_2 : wc.cell? ⟨g0_, 2, none⟩ = some (.int .i64 a0_2) := bQ B0_.1 2
            have hcz36_3 : wc.cell? ⟨g0_, 3, none⟩ = some (.int .i64 a0_3) := bQ B0_.1 3
            have hcz36_4 : wc.cell? ⟨g0_, 4, none⟩ = some (.int .i64 a0_4) := bQ B0_.1 4
            have hcz36_7 : wc.cell? ⟨g0_, 7, none⟩ = some (.int .i64 a0_7) := bQ B0_.1 7
            have hcz36_8 : wc.cell? ⟨g0_, 8, none⟩ = some (.int .i64 a0_8) := bQ B0_.1 8
            have hcz36_9 : wc.cell? ⟨g0_, 9, none⟩ = some (.int .i64 a0_9) := bQ B0_.1 9
            have hcz36_10 : wc.cell? ⟨g0_, 10, none⟩ = some (.int .i64 a0_10) := bQ B0_.1 10
            have hcz36_11 : wc.cell? ⟨g0_, 11, none⟩ = some (.int .i64 a0_11) := bQ B0_.1 11
            have hfz36_2 := blk_frozen B0_.1 2
            have hfz36_3 := blk_frozen B0_.1 3
            have hfz36_4 := blk_frozen B0_.1 4
            have hfz36_7 := blk_frozen B0_.1 7
            have hfz36_8 := blk_frozen B0_.1 8
            have hfz36_9 := blk_frozen B0_.1 9
            have hfz36_10 := blk_frozen B0_.1 10
            have hfz36_11 := blk_frozen B0_.1 11
            go_wp2_with (first | (go_at_call 55; (with_reducible refine (limit_in.calls a0_7 0 1099511627776 true _ A26.1).mono ?_); rintro e w' ⟨rfl, ⟨nd, rfl⟩⟩) | (go_at_call 55; (try simp only [i64_w, i32_w]); (with_reducible refine (limit_in.calls a0_8 (wrap64 (a0_4 + 1)) (wrap64 (Int.tdiv a0_3 4)) true _ A28.1).mono ?_); rintro e w' ⟨rfl, ⟨nd, rfl⟩⟩) | (go_at_call 55; (try simp only [i64_w, i32_w]); (with_reducible refine (limit_in.calls a0_9 (wrap64 (a0_2 + 2)) 1048576 true _ A30.1).mono ?_); rintro e w' ⟨rfl, ⟨nd, rfl⟩⟩) | (go_at_call 55; (with_reducible refine (limit_in.calls a0_10 1 1099511627776 true _ A32.1).mono ?_); rintro e w' ⟨rfl, ⟨nd, rfl⟩⟩) | (go_at_call 55; (with_reducible refine (limit_in.calls a0_11 1 1099511627776 true _ A34.1).mono ?_); rintro e w' ⟨rfl, ⟨nd, rfl⟩⟩))
            go_ret
            exact ⟨by first | rfl | (simp [errW_none, errW_some] <;> rfl) | (simp [*, errW_none, errW_some] <;> rfl), by repeat (first | (with_reducible first | exact HB.1 | apply bA | apply pD | apply b1 | apply bS E0_.1) | exact HB.1)⟩
           replace c35 := Bool.eq_false_iff.mpr c35
           subst c35
           have H1 : (some 1) = some r := by rw [if_neg (show ¬ (false = true) by decide)] at H; exact H
           clear H
           have H := H1
           clear H1
           obtain rfl := Option.some.inj H
           have hcz37_2 : wc.cell? ⟨g0_, 2, none⟩ = some (.int .i64 a0_2) := bQ B0_.1 2
           have hcz37_3 : wc.cell? ⟨g0_, 3, none⟩ = some (.int .i64 a0_3) := bQ B0_.1 3
           have hcz37_4 : wc.cell? ⟨g0_, 4, none⟩ = some (.int .i64 a0_4) := bQ B0_.1 4
           have hcz37_7 : wc.cell? ⟨g0_, 7, none⟩ = some (.int .i64 a0_7) := bQ B0_.1 7
           have hcz37_8 : wc.cell? ⟨g0_, 8, none⟩ = some (.int .i64 a0_8) := bQ B0_.1 8
           have hcz37_9 : wc.cell? ⟨g0_, 9, none⟩ = some (.int .i64 a0_9) := bQ B0_.1 9
           have hcz37_10 : wc.cell? ⟨g0_, 10, none⟩ = some (.int .i64 a0_10) := bQ B0_.1 10
           have hcz37_11 : wc.cell? ⟨g0_, 11, none⟩ = some (.int .i64 a0_11) := bQ B0_.1 11
           have hfz37_2 := blk_frozen B0_.1 2
           have hfz37_3 := blk_frozen B0_.1 3
           have hfz37_4 := blk_frozen B0_.1 4
           have hfz37_7 := blk_frozen B0_.1 7
           have hfz37_8 := blk_frozen B0_.1 8
           have hfz37_9 := blk_frozen B0_.1 9
           have hfz37_10 := blk_frozen B0_.1 10
           have hfz37_11 := blk_frozen B0_.1 11
           go_wp2_with (first | (go_at_call 55; (with_reducible refine (limit_in.calls a0_7 0 1099511627776 true _ A26.1).mono ?_); rintro e w' ⟨rfl, ⟨nd, rfl⟩⟩) | (go_at_call 55; (try simp only [i64_w, i32_w]); (with_reducible refine (limit_in.calls a0_8 (wrap64 (a0_4 + 1)) (wrap64 (Int.tdiv a0_3 4)) true _ A28.1).mono ?_); rintro e w' ⟨rfl, ⟨nd, rfl⟩⟩) | (go_at_call 55; (try simp only [i64_w, i32_w]); (with_reducible refine (limit_in.calls a0_9 (wrap64 (a0_2 + 2)) 1048576 true _ A30.1).mono ?_); rintro e w' ⟨rfl, ⟨nd, rfl⟩⟩) | (go_at_call 55; (with_reducible refine (limit_in.calls a0_10 1 1099511627776 true _ A32.1).mono ?_); rintro e w' ⟨rfl, ⟨nd, rfl⟩⟩) | (go_at_call 55; (with_reducible refine (limit_in.calls a0_11 1 1099511627776 false _ A34.1).mono ?_); rintro e w' ⟨rfl, ⟨nd, rfl⟩⟩))
           go_ret
           exact ⟨by first | rfl | (simp [errW_none, errW_some] <;> rfl) | (simp [*, errW_none, errW_some] <;> rfl), by repeat (first | (with_reducible first | exact HB.1 | apply bA | apply pD | apply b1 | apply bS E0_.1) | exact HB.1)⟩
          replace c33 := Bool.eq_false_iff.mpr c33
          subst c33
          have H1 : (some 1) = some r := by rw [if_neg (show ¬ (false = true) by decide)] at H; exact H
          clear H
          have H := H1
          clear H1
          obtain rfl := Option.some.inj H
          have hcz38_2 : wc.cell? ⟨g0_, 2, none⟩ = some (.int .i64 a0_2) := bQ B0_.1 2
          have hcz38_3 : wc.cell? ⟨g0_, 3, none⟩ = some (.int .i64 a0_3) := bQ B0_.1 3
          have hcz38_4 : wc.cell? ⟨g0_, 4, none⟩ = some (.int .i64 a0_4) := bQ B0_.1 4
          have hcz38_7 : wc.cell? ⟨g0_, 7, none⟩ = some (.int .i64 a0_7) := bQ B0_.1 7
          have hcz38_8 : wc.cell? ⟨g0_, 8, none⟩ = some (.int .i64 a0_8) := bQ B0_.1 8
          have hcz38_9 : wc.cell? ⟨g0_, 9, none⟩ = some (.int .i64 a0_9) := bQ B0_.1 9
          have hcz38_10 : wc.cell? ⟨g0_, 10, none⟩ = some (.int .i64 a0_10) := bQ B0_.1 10
          have hfz38_2 := blk_frozen B0_.1 2
          have hfz38_3 := blk_frozen B0_.1 3
          have hfz38_4 := blk_frozen B0_.1 4
          have hfz38_7 := blk_frozen B0_.1 7
          have hfz38_8 := blk_frozen B0_.1 8
          have hfz38_9 := blk_frozen B0_.1 9
          have hfz38_10 := blk_frozen B0_.1 10
          go_wp2_with (first | (go_at_call 55; (with_reducible refine (limit_in.calls a0_7 0 1099511627776 true _ A26.1).mono ?_); rintro e w' ⟨rfl, ⟨nd, rfl⟩⟩) | (go_at_call 55; (try simp only [i64_w, i32_w]); (with_reducible refine (limit_in.calls a0_8 (wrap64 (a0_4 + 1)) (wrap64 (Int.tdiv a0_3 4)) true _ A28.1).mono ?_); rintro e w' ⟨rfl, ⟨nd, rfl⟩⟩) | (go_at_call 55; (try simp only [i64_w, i32_w]); (with_reducible refine (limit_in.calls a0_9 (wrap64 (a0_2 + 2)) 1048576 true _ A30.1).mono ?_); rintro e w' ⟨rfl, ⟨nd, rfl⟩⟩) | (go_at_call 55; (with_reducible refine (limit_in.calls a0_10 1 1099511627776 false _ A32.1).mono ?_); rintro e w' ⟨rfl, ⟨nd, rfl⟩⟩))
          go_ret
          exact ⟨by first | rfl | (simp [errW_none, errW_some] <;> rfl) | (simp [*, errW_none, errW_some] <;> rfl), by repeat (first | (with_reducible first | exact HB.1 | apply bA | apply pD | apply b1 | apply bS E0_.1) | exact HB.1)⟩
         replace c31 := Bool.eq_false_iff.mpr c31
         subst c31
         have H1 : (some 1) = some r := by rw [if_neg (show ¬ (false = true) by decide)] at H; exact H
         clear H
         have H := H1
         clear H1
         obtain rfl := Option.some.inj H
         have hcz39_2 : wc.cell? ⟨g0_, 2, none⟩ = some (.int .i64 a0_2) := bQ B0_.1 2
         have hcz39_3 : wc.cell? ⟨g0_, 3, none⟩ = some (.int .i64 a0_3) := bQ B0_.1 3
         have hcz39_4 : wc.cell? ⟨g0_, 4, none⟩ = some (.int .i64 a0_4) := bQ B0_.1 4
         have hcz39_7 : wc.cell? ⟨g0_, 7, none⟩ = some (.int .i64 a0_7) := bQ B0_.1 7
         have hcz39_8 : wc.cell? ⟨g0_, 8, none⟩ = some (.int .i64 a0_8) := bQ B0_.1 8
         have hcz39_9 : wc.cell? ⟨g0_, 9, none⟩ = some (.int .i64 a0_9) := bQ B0_.1 9
         have hfz39_2 := blk_frozen B0_.1 2
         have hfz39_3 := blk_frozen B0_.1 3
         have hfz39_4 := blk_frozen B0_.1 4
         have hfz39_7 := blk_frozen B0_.1 7
         have hfz39_8 := blk_frozen B0_.1 8
         have hfz39_9 := blk_frozen B0_.1 9
         go_wp2_with (first | (go_at_call 55; (with_reducible refine (limit_in.calls a0_7 0 1099511627776 true _ A26.1).mono ?_); rintro e w' ⟨rfl, ⟨nd, rfl⟩⟩) | (go_at_call 55; (try simp only [i64_w, i32_w]); (with_reducible refine (limit_in.calls a0_8 (wrap64 (a0_4 + 1)) (wrap64 (Int.tdiv a0_3 4)) true _ A28.1).mono ?_); rintro e w' ⟨rfl, ⟨nd, rfl⟩⟩) | (go_at_call 55; (try simp only [i64_w, i32_w]); (with_reducible refine (limit_in.calls a0_9 (wrap64 (a0_2 + 2)) 1048576 false _ A30.1).mono ?_); rintro e w' ⟨rfl, ⟨nd, rfl⟩⟩))
         go_ret
         exact ⟨by first | rfl | (simp [errW_none, errW_some] <;> rfl) | (simp [*, errW_none, errW_some] <;> rfl), by repeat (first | (with_reducible first | exact HB.1 | apply bA | apply pD | apply b1 | apply bS E0_.1) | exact HB.1)⟩
        replace c29 := Bool.eq_false_iff.mpr c29
        subst c29
        have H1 : (some 1) = some r := by rw [if_neg (show ¬ (false = true) by decide)] at H; exact H
        clear H
        have H := H1
        clear H1
        obtain rfl := Option.some.inj H
        have hcz40_3 : wc.cell? ⟨g0_, 3, none⟩ = some (.int .i64 a0_3) := bQ B0_.1 3
        have hcz40_4 : wc.cell? ⟨g0_, 4, none⟩ = some (.int .i64 a0_4) := bQ B0_.1 4
        have hcz40_7 : wc.cell? ⟨g0_, 7, none⟩ = some (.int .i64 a0_7) := bQ B0_.1 7
        have hcz40_8 : wc.cell? ⟨g0_, 8, none⟩ = some (.int .i64 a0_8) := bQ B0_.1 8
        have hfz40_3 := blk_frozen B0_.1 3
        have hfz40_4 := blk_frozen B0_.1 4
        have hfz40_7 := blk_frozen B0_.1 7
        have hfz40_8 := blk_frozen B0_.1 8
        go_wp2_with (first | (go_at_call 55; (with_reducible refine (limit_in.calls a0_7 0 1099511627776 true _ A26.1).mono ?_); rintro e w' ⟨rfl, ⟨nd, rfl⟩⟩) | (go_at_call 55; (try simp only [i64_w, i32_w]); (with_reducible refine (limit_in.calls a0_8 (wrap64 (a0_4 + 1)) (wrap64 (Int.tdiv a0_3 4)) false _ A28.1).mono ?_); rintro e w' ⟨rfl, ⟨nd, rfl⟩⟩))
        go_ret
        exact ⟨by first | rfl | (simp [errW_none, errW_some] <;> rfl) | (simp [*, errW_none, errW_some] <;> rfl), by repeat (first | (with_reducible first | exact HB.1 | apply bA | apply pD | apply b1 | apply bS E0_.1) | exact HB.1)⟩
       replace c27 := Bool.eq_false_iff.mpr c27
       subst c27
       have H1 : (some 1) = some r := by rw [if_neg (show ¬ (false = true) by decide)] at H; exact H
       clear H
       have H := H1
       clear H1
       obtain rfl := Option.some.inj H
       have hcz41_7 : wc.cell? ⟨g0_, 7, none⟩ = some (.int .i64 a0_7) := bQ B0_.1 7
       have hfz41_7 := blk_frozen B0_.1 7
       go_wp2_with (first | (go_at_call 55; (with_reducible refine (limit_in.calls a0_7 0 1099511627776 false _ A26.1).mono ?_); rintro e w' ⟨rfl, ⟨nd, rfl⟩⟩))
       go_ret
       exact ⟨by first | rfl | (simp [errW_none, errW_some] <;> rfl) | (simp [*, errW_none, errW_some] <;> rfl), by repeat (first | (with_reducible first | exact HB.1 | apply bA | apply pD | apply b1 | apply bS E0_.1) | exact HB.1)⟩
      replace c25 := Bool.eq_false_iff.mpr c25
      subst c25
      have H1 : (some 1) = some r := by rw [if_neg (show ¬ (false = true) by decide)] at H; exact H
      clear H
      have H := H1
      clear H1
      obtain rfl := Option.some.inj H
      go_wp2
      go_ret
      exact ⟨by first | rfl | (simp [errW_none, errW_some] <;> rfl) | (simp [*, errW_none, errW_some] <;> rfl), by repeat (first | (with_reducible first | exact HB.1 | apply bA | apply pD | apply b1 | apply bS E0_.1) | exact HB.1)⟩
     replace c24 := Bool.eq_false_iff.mpr c24
     subst c24
     have H1 : (some 1) = some r := by rw [if_neg (show ¬ (false = true) by decide)] at H; exact H
     clear H
     have H := H1
     clear H1
     obtain rfl := Option.some.inj H
     go_wp2
     go_ret
     exact ⟨by first | rfl | (simp [errW_none, errW_some] <;> rfl) | (simp [*, errW_none, errW_some] <;> rfl), by repeat (first | (with_reducible first | exact HB.1 | apply bA | apply pD | apply b1 | apply bS E0_.1) | exact HB.1)⟩

end Go.Proofs.Ytigkjbaclpklpaa.Q
