/- The calls of these Go functions answer what the Lean functions beside them answer; written by a program (wip/pr2.py, out of the print of the loaded program); under no condition but those that stand in the theorems. -/
import Derived.Test.YtigkjbaclpklpaaDoorQx0
import Derived.Test.YtigkjbaclpklpaaDoorQx17
namespace Go.Proofs.YtigkjbaclpklpaaDoor.Q
open Go.RowKit Go.Proofs.YtigkjbaclpklpaaDoorW.PrintWords Go.Proofs.YtigkjbaclpklpaaDoorW.PrintLast Go.Proofs.YtigkjbaclpklpaaDoorW.PrintMore
attribute [local go_sem] max2_int min2_int max_two min_two max_three min_three max_four min_four   -- for this text's walks alone
set_option linter.unusedVariables false
set_option linter.unusedSimpArgs false

/-! ### leap_at: function 42 -/
def leap_at.l0 : Nat → Int → Int → List (S82) → Int → Int → Option (Int × Bool)
 | 0, _, _, _, _, _ => none
 | k + 1, x1, x6, x9, x10, x11 => if x11 < x10 then (if 0 ≤ x11 then (if x11 < (x9.length : Int) then (if x1 ≥ ((rd_T82 x9 x11).f0) then (leap_at.l0 k x1 ((rd_T82 x9 x11).f1) x9 x10 (wrap64 (x11 + 1))) else (if x1 = (wrap64 (((rd_T82 x9 x11).f0) - 1)) then (some (x6, decide (((rd_T82 x9 x11).f1) > x6))) else (some (x6, false)))) else (none)) else (none)) else (some (x6, false))
def leap_at.f (k : Nat) (l0 : List (S82)) (a1 : Int) : Option (Int × Bool) := leap_at.l0 k a1 0 l0 (l0.length : Int) 0
theorem leap_at.mono_l : ∀ k, (∀ y0 y1 y2 y3 y4, LeO (leap_at.l0 k y0 y1 y2 y3 y4) (leap_at.l0 (k + 1) y0 y1 y2 y3 y4))
 | 0 => fun _ _ _ _ _ r h => by simp [leap_at.l0] at h
 | k + 1 => by
  have ih0 := leap_at.mono_l k
  intro y0 y1 y2 y3 y4
  unfold leap_at.l0
  repeat' first
  | (with_reducible exact ih0 _ _ _ _ _)
  | (with_reducible exact LeO.refl _)
  | (with_reducible exact LeO.none _)
  | (with_reducible refine LeO.ite ?_ ?_)
  | (with_reducible refine LeO.bind ?_ (fun _ => ?_))
  | exact ih0 _ _ _ _ _
  | exact LeO.none _
  | refine LeO.ite ?_ ?_
  | refine LeO.bind ?_ (fun _ => ?_)
theorem leap_at.mono : ∀ a0 a1 k, LeO (leap_at.f k a0 a1) (leap_at.f (k + 1) a0 a1) := by
 intro a0 a1 k
 have ih0 := leap_at.mono_l k
 unfold leap_at.f
 repeat' first
   | (with_reducible exact ih0 _ _ _ _ _)
   | (with_reducible exact LeO.refl _)
   | (with_reducible exact LeO.none _)
   | (with_reducible refine LeO.ite ?_ ?_)
   | (with_reducible refine LeO.bind ?_ (fun _ => ?_))
   | exact ih0 _ _ _ _ _
   | exact LeO.none _
   | refine LeO.ite ?_ ?_
   | refine LeO.bind ?_ (fun _ => ?_)
set_option maxHeartbeats 8000000 in
set_option maxRecDepth 100000 in
theorem leap_at.calls (k : Nat) (A0 : Option Addr) (c0 : Nat) (l0 : List (S82)) (a1 : Int) (r1 : Int) (r2 : Bool) (w : World) (hr0 : Kd.C k82 w A0 l0.length l0) (hc0 : l0.length ≤ c0) (h : leap_at.f k l0 a1 = some (r1, r2)) :
  Calls Tryd.prog 42 #[.slice A0 l0.length c0, .int .i64 a1] w fun e w' => e = .returned (.tuple #[.int .i64 r1, .bool r2]) ∧ Below w.heap.size w w' := by
 have hu82 := Tryd.underlying82
 have HR0 := mk hr0
 have HC0 := mk hc0
 clear hr0 hc0
 have HB := mk (Below.refl w.heap.size w)
 have H : (leap_at.l0 k a1 0 l0 (l0.length : Int) 0) = some (r1, r2) := h
 clear h
 have H' := mk H
 clear H
 go_enter Tryd.func42, Tryd.ntmps42
 go_wp2
 repeat (go_quiet (fail); try go_wp2)
 go_loopg [6, 11] k (fun kq v6 v11 w' => ∃ (x6_1 : Int) (x11_1 : Int), v6 = .int .i64 x6_1 ∧ v11 = .int .i64 x11_1 ∧ Aside0 (leap_at.l0 kq a1 x6_1 l0 (l0.length : Int) x11_1 = some (r1, r2)) ∧ Aside0 (kq ≤ k) ∧ Aside0 (Below w.heap.size w w'))
 case atStart => exact ⟨(0), (0), zs, zs, H', ⟨Nat.le_refl _⟩, ⟨by repeat (first | (with_reducible first | exact HB.1 | apply bA | apply pD | apply b1) | exact HB.1)⟩⟩
 case round =>
  clear H'
  try clear p2
  obtain ⟨x6_1, x11_1, rfl, rfl, HA, HK1, HB⟩ := hrel
  cases gk with
  | zero => exact absurd HA.1 (by simp [leap_at.l0])
  | succ k1 =>
   have H := HA.1
   clear HA
   simp only [leap_at.l0] at H
   by_cases c3 : x11_1 < (l0.length : Int)
   ·rw [if_pos c3] at H
    have c3b0 : decide (x11_1 < (l0.length : Int)) = true := decide_eq_true c3
    clear c3
    by_cases c4 : 0 ≤ x11_1
    ·rw [if_pos c4] at H
     have c4b0 : decide (0 ≤ x11_1) = true := decide_eq_true c4
     clear c4
     by_cases c5 : x11_1 < (l0.length : Int)
     ·rw [if_pos c5] at H
      have c5b0 : decide (x11_1 < (l0.length : Int)) = true := decide_eq_true c5
      clear c5
      by_cases c6 : a1 ≥ ((rd_T82 l0 x11_1).f0)
      ·rw [if_pos c6] at H
       have c6b0 : decide (((rd_T82 l0 x11_1).f0) ≤ a1) = true := decide_eq_true c6
       clear c6
       have H' := mk H
       clear H
       have p246 : 0 ≤ (x11_1 : Int) := of_decide_eq_true (by first | (with_reducible assumption) | assumption)
       have q246 : x11_1 < (l0.length : Int) := of_decide_eq_true (by first | (with_reducible assumption) | assumption)
       obtain ⟨ad246, e246, hx246_0, hx246_1⟩ := at_T82 HR0.1 x11_1 p246 q246
       cases e246
       replace hx246_0 := (HB.1.cell (World.block_lt_of_cell? w _ hx246_0)).trans hx246_0
       replace hx246_1 := (HB.1.cell (World.block_lt_of_cell? w _ hx246_1)).trans hx246_1
       replace p246 := eq_true p246
       replace q246 := eq_true q246
       go_wp2_with (first | ((with_reducible refine gate_dst (N := 8) rfl ?_); refine bx 8 #[.int .i64 0, .int .i64 0] 82 ?_; intro g0_ hg w7 hbox hb; have B0_ := mk (hbox); have W0_ := gl hg zq; have E0_ := gl hg zq; replace HB := mk (below_step zq hb); clear hb hbox hg; obtain ⟨hcz8_0, hcz8_1⟩ := cc2 B0_.1; obtain ⟨hfz8_0, hfz8_1⟩ := cf2 B0_.1))
       repeat (go_quiet (first | ((with_reducible refine gate_dst (N := 8) rfl ?_); refine bx 8 #[.int .i64 0, .int .i64 0] 82 ?_; intro g0_ hg w7 hbox hb; have B0_ := mk (hbox); have W0_ := gl hg zq; have E0_ := gl hg zq; replace HB := mk (below_step zq hb); clear hb hbox hg; obtain ⟨hcz8_0, hcz8_1⟩ := cc2 B0_.1; obtain ⟨hfz8_0, hfz8_1⟩ := cf2 B0_.1)); try go_wp2_with (first | ((with_reducible refine gate_dst (N := 8) rfl ?_); refine bx 8 #[.int .i64 0, .int .i64 0] 82 ?_; intro g0_ hg w7 hbox hb; have B0_ := mk (hbox); have W0_ := gl hg zq; have E0_ := gl hg zq; replace HB := mk (below_step zq hb); clear hb hbox hg; obtain ⟨hcz8_0, hcz8_1⟩ := cc2 B0_.1; obtain ⟨hfz8_0, hfz8_1⟩ := cf2 B0_.1)))
       go_roundg k1
       case measure => have := HK1.1; omega
       case rel => exact ⟨((rd_T82 l0 x11_1).f1), (wrap64 (x11_1 + 1)), zs, zs, H', ⟨by have := HK1.1; omega⟩, ⟨by repeat (first | (with_reducible first | exact HB.1 | apply bA | apply pD | apply b1 | apply bS E0_.1) | exact HB.1)⟩⟩
      rw [if_neg c6] at H
      have c6b0 : decide (((rd_T82 l0 x11_1).f0) ≤ a1) = false := decide_eq_false c6
      clear c6
      by_cases c9 : a1 = (wrap64 (((rd_T82 l0 x11_1).f0) - 1))
      ·rw [if_pos c9] at H
       have c9b0 : (a1 == (wrap64 (((rd_T82 l0 x11_1).f0) - 1))) = true := beq_iff_eq.mpr c9
       have c9b1 : (a1 != (wrap64 (((rd_T82 l0 x11_1).f0) - 1))) = false := bne_eq_false_iff_eq.mpr c9
       clear c9
       simp only [Option.some.injEq, Prod.mk.injEq] at H
       obtain ⟨rfl, rfl⟩ := H
       have p246 : 0 ≤ (x11_1 : Int) := of_decide_eq_true (by first | (with_reducible assumption) | assumption)
       have q246 : x11_1 < (l0.length : Int) := of_decide_eq_true (by first | (with_reducible assumption) | assumption)
       obtain ⟨ad246, e246, hx246_0, hx246_1⟩ := at_T82 HR0.1 x11_1 p246 q246
       cases e246
       replace hx246_0 := (HB.1.cell (World.block_lt_of_cell? w _ hx246_0)).trans hx246_0
       replace hx246_1 := (HB.1.cell (World.block_lt_of_cell? w _ hx246_1)).trans hx246_1
       replace p246 := eq_true p246
       replace q246 := eq_true q246
       go_wp2_with (first | ((with_reducible refine gate_dst (N := 8) rfl ?_); refine bx 8 #[.int .i64 0, .int .i64 0] 82 ?_; intro g0_ hg w10 hbox hb; have B0_ := mk (hbox); have W0_ := gl hg zq; have E0_ := gl hg zq; replace HB := mk (below_step zq hb); clear hb hbox hg; obtain ⟨hcz11_0, hcz11_1⟩ := cc2 B0_.1; obtain ⟨hfz11_0, hfz11_1⟩ := cf2 B0_.1))
       repeat (go_quiet (first | ((with_reducible refine gate_dst (N := 8) rfl ?_); refine bx 8 #[.int .i64 0, .int .i64 0] 82 ?_; intro g0_ hg w10 hbox hb; have B0_ := mk (hbox); have W0_ := gl hg zq; have E0_ := gl hg zq; replace HB := mk (below_step zq hb); clear hb hbox hg; obtain ⟨hcz11_0, hcz11_1⟩ := cc2 B0_.1; obtain ⟨hfz11_0, hfz11_1⟩ := cf2 B0_.1)); try go_wp2_with (first | ((with_reducible refine gate_dst (N := 8) rfl ?_); refine bx 8 #[.int .i64 0, .int .i64 0] 82 ?_; intro g0_ hg w10 hbox hb; have B0_ := mk (hbox); have W0_ := gl hg zq; have E0_ := gl hg zq; replace HB := mk (below_step zq hb); clear hb hbox hg; obtain ⟨hcz11_0, hcz11_1⟩ := cc2 B0_.1; obtain ⟨hfz11_0, hfz11_1⟩ := cf2 B0_.1)))
       go_ret2
       exact ⟨by first | rfl | (simp [errW_none, errW_some] <;> rfl) | (simp [*, errW_none, errW_some] <;> rfl), by repeat (first | (with_reducible first | exact HB.1 | apply bA | apply pD | apply b1 | apply bS E0_.1) | exact HB.1)⟩
      rw [if_neg c9] at H
      have c9b0 : (a1 == (wrap64 (((rd_T82 l0 x11_1).f0) - 1))) = false := beq_eq_false_iff_ne.mpr c9
      have c9b1 : (a1 != (wrap64 (((rd_T82 l0 x11_1).f0) - 1))) = true := bne_iff_ne.mpr c9
      simp only [Option.some.injEq, Prod.mk.injEq] at H
      obtain ⟨rfl, rfl⟩ := H
      have p246 : 0 ≤ (x11_1 : Int) := of_decide_eq_true (by first | (with_reducible assumption) | assumption)
      have q246 : x11_1 < (l0.length : Int) := of_decide_eq_true (by first | (with_reducible assumption) | assumption)
      obtain ⟨ad246, e246, hx246_0, hx246_1⟩ := at_T82 HR0.1 x11_1 p246 q246
      cases e246
      replace hx246_0 := (HB.1.cell (World.block_lt_of_cell? w _ hx246_0)).trans hx246_0
      replace hx246_1 := (HB.1.cell (World.block_lt_of_cell? w _ hx246_1)).trans hx246_1
      replace p246 := eq_true p246
      replace q246 := eq_true q246
      go_wp2_with (first | ((with_reducible refine gate_dst (N := 8) rfl ?_); refine bx 8 #[.int .i64 0, .int .i64 0] 82 ?_; intro g0_ hg w12 hbox hb; have B0_ := mk (hbox); have W0_ := gl hg zq; have E0_ := gl hg zq; replace HB := mk (below_step zq hb); clear hb hbox hg; obtain ⟨hcz13_0, hcz13_1⟩ := cc2 B0_.1; obtain ⟨hfz13_0, hfz13_1⟩ := cf2 B0_.1))
      repeat (go_quiet (first | ((with_reducible refine gate_dst (N := 8) rfl ?_); refine bx 8 #[.int .i64 0, .int .i64 0] 82 ?_; intro g0_ hg w12 hbox hb; have B0_ := mk (hbox); have W0_ := gl hg zq; have E0_ := gl hg zq; replace HB := mk (below_step zq hb); clear hb hbox hg; obtain ⟨hcz13_0, hcz13_1⟩ := cc2 B0_.1; obtain ⟨hfz13_0, hfz13_1⟩ := cf2 B0_.1)); try go_wp2_with (first | ((with_reducible refine gate_dst (N := 8) rfl ?_); refine bx 8 #[.int .i64 0, .int .i64 0] 82 ?_; intro g0_ hg w12 hbox hb; have B0_ := mk (hbox); have W0_ := gl hg zq; have E0_ := gl hg zq; replace HB := mk (below_step zq hb); clear hb hbox hg; obtain ⟨hcz13_0, hcz13_1⟩ := cc2 B0_.1; obtain ⟨hfz13_0, hfz13_1⟩ := cf2 B0_.1)))
      go_ret2
      exact ⟨by first | rfl | (simp [errW_none, errW_some] <;> rfl) | (simp [*, errW_none, errW_some] <;> rfl), by repeat (first | (with_reducible first | exact HB.1 | apply bA | apply pD | apply b1 | apply bS E0_.1) | exact HB.1)⟩
     rw [if_neg c5] at H
     exact absurd H (by simp)
    rw [if_neg c4] at H
    exact absurd H (by simp)
   rw [if_neg c3] at H
   have c3b0 : decide (x11_1 < (l0.length : Int)) = false := decide_eq_false c3
   clear c3
   simp only [Option.some.injEq, Prod.mk.injEq] at H
   obtain ⟨rfl, rfl⟩ := H
   go_wp2
   repeat (go_quiet (fail); try go_wp2)
   go_ret2
   exact ⟨by first | rfl | (simp [errW_none, errW_some] <;> rfl) | (simp [*, errW_none, errW_some] <;> rfl), by repeat (first | (with_reducible first | exact HB.1 | apply bA | apply pD | apply b1) | exact HB.1)⟩

/-! ### civil_first: function 64 -/
def civil_first.f (k : Nat) (a0 : Int) : Option (Int) := (wide_Div.f k (wrap64 (a0 - 1)) 4).bind fun bt248 => ((wide_Div.f k (wrap64 (a0 - 1)) 100).bind fun bt250 => ((wide_Div.f k (wrap64 (a0 - 1)) 400).bind fun bt252 => (some (wrap64 ((wrap64 ((wrap64 ((wrap64 ((wrap64 (365 * (wrap64 (a0 - 1)))) + bt248.1)) - bt250.1)) + bt252.1)) - 719162)))))
theorem civil_first.mono : ∀ a0 k, LeO (civil_first.f k a0) (civil_first.f (k + 1) a0) := by
 intro a0 k
 unfold civil_first.f
 repeat' first
   | (with_reducible exact wide_Div.mono _ _ _)
   | (with_reducible exact LeO.refl _)
   | (with_reducible exact LeO.none _)
   | (with_reducible refine LeO.ite ?_ ?_)
   | (with_reducible refine LeO.bind ?_ (fun _ => ?_))
   | exact wide_Div.mono _ _ _
   | exact LeO.none _
   | refine LeO.ite ?_ ?_
   | refine LeO.bind ?_ (fun _ => ?_)
set_option maxHeartbeats 8000000 in
set_option maxRecDepth 100000 in
theorem civil_first.calls (k : Nat) (a0 : Int) (r : Int) (w : World) (h : civil_first.f k a0 = some r) :
  Calls Tryd.prog 64 #[.int .i64 a0] w fun e w' => e = .returned (.int .i64 r) ∧ Below w.heap.size w w' := by
 have HB := Aside0.mk (Below.refl w.heap.size w)
 have H : ((wide_Div.f k (wrap64 (a0 - 1)) 4).bind fun bt248 => ((wide_Div.f k (wrap64 (a0 - 1)) 100).bind fun bt250 => ((wide_Div.f k (wrap64 (a0 - 1)) 400).bind fun bt252 => (some (wrap64 ((wrap64 ((wrap64 ((wrap64 ((wrap64 (365 * (wrap64 (a0 - 1)))) + bt248.1)) - bt250.1)) + bt252.1)) - 719162)))))) = some r := h
 clear h
 replace H := Option.bind_eq_some_iff.mp H
 obtain ⟨⟨t248, t249⟩, A20, H⟩ := H
 replace H : ((wide_Div.f k (wrap64 (a0 - 1)) 100).bind fun bt250 => ((wide_Div.f k (wrap64 (a0 - 1)) 400).bind fun bt252 => (some (wrap64 ((wrap64 ((wrap64 ((wrap64 ((wrap64 (365 * (wrap64 (a0 - 1)))) + t248)) - bt250.1)) + bt252.1)) - 719162))))) = some r := H
 have A2 := Aside0.mk A20
 clear A20
 replace H := Option.bind_eq_some_iff.mp H
 obtain ⟨⟨t250, t251⟩, A30, H⟩ := H
 replace H : ((wide_Div.f k (wrap64 (a0 - 1)) 400).bind fun bt252 => (some (wrap64 ((wrap64 ((wrap64 ((wrap64 ((wrap64 (365 * (wrap64 (a0 - 1)))) + t248)) - t250)) + bt252.1)) - 719162)))) = some r := H
 have A3 := Aside0.mk A30
 clear A30
 replace H := Option.bind_eq_some_iff.mp H
 obtain ⟨⟨t252, t253⟩, A40, H⟩ := H
 replace H : (some (wrap64 ((wrap64 ((wrap64 ((wrap64 ((wrap64 (365 * (wrap64 (a0 - 1)))) + t248)) - t250)) + t252)) - 719162))) = some r := H
 have A4 := Aside0.mk A40
 clear A40
 obtain rfl := Option.some.inj H
 go_enter Tryd.func64, Tryd.ntmps64
 go_wp2_with (first | ((with_reducible refine gate_callee (f := 20) rfl ?_); refine goesL_ (some 14) rfl rfl Tryd.func20 (by kernel_rfl) rfl #[.int .i64 (wrap64 (a0 - 1)), .int .i64 4] rfl (by (try simp only [List.map_toArray, List.map_cons, List.map_nil]); first | done | rfl | (simp only [List.length_drop, List.length_take]; rfl)) ?_; (with_reducible refine (wide_Div.calls k (wrap64 (a0 - 1)) 4 t248 t249 _ A2.out).mono ?_); rintro e w5 ⟨rfl, hb⟩; refine ⟨_, rfl, ?_⟩; replace HB := Aside0.mk (below_step (by with_reducible repeat first | exact HB.1 | apply pw_below_drewN) hb); (try clear hb); (try clear hb2); (try clear hk); (try clear hi)) | ((with_reducible refine gate_callee (f := 20) rfl ?_); refine goesL_ (some 19) rfl rfl Tryd.func20 (by kernel_rfl) rfl #[.int .i64 (wrap64 (a0 - 1)), .int .i64 100] rfl (by (try simp only [List.map_toArray, List.map_cons, List.map_nil]); first | done | rfl | (simp only [List.length_drop, List.length_take]; rfl)) ?_; (with_reducible refine (wide_Div.calls k (wrap64 (a0 - 1)) 100 t250 t251 _ A3.out).mono ?_); rintro e w6 ⟨rfl, hb⟩; refine ⟨_, rfl, ?_⟩; replace HB := Aside0.mk (below_step (by with_reducible repeat first | exact HB.1 | apply pw_below_drewN) hb); (try clear hb); (try clear hb2); (try clear hk); (try clear hi)) | ((with_reducible refine gate_callee (f := 20) rfl ?_); refine goesL_ (some 24) rfl rfl Tryd.func20 (by kernel_rfl) rfl #[.int .i64 (wrap64 (a0 - 1)), .int .i64 400] rfl (by (try simp only [List.map_toArray, List.map_cons, List.map_nil]); first | done | rfl | (simp only [List.length_drop, List.length_take]; rfl)) ?_; (with_reducible refine (wide_Div.calls k (wrap64 (a0 - 1)) 400 t252 t253 _ A4.out).mono ?_); rintro e w7 ⟨rfl, hb⟩; refine ⟨_, rfl, ?_⟩; replace HB := Aside0.mk (below_step (by with_reducible repeat first | exact HB.1 | apply pw_below_drewN) hb); (try clear hb); (try clear hb2); (try clear hk); (try clear hi)))
 go_ret
 exact ⟨by first | rfl | (simp [errW_none, errW_some] <;> rfl) | (simp [*, errW_none, errW_some] <;> rfl), by repeat (first | (with_reducible first | exact HB.1 | apply below_alloc | apply pw_below_drewN | apply below_drew1) | exact HB.1)⟩

/-! ### civil_Leap: function 73 -/
def civil_Leap.f (a0 : Int) : Option (Bool) := if (Int.tmod a0 4) = 0 then (if (Int.tmod a0 100) = 0 then (some ((Int.tmod a0 400) == 0)) else (some true)) else (some false)
set_option maxHeartbeats 8000000 in
set_option maxRecDepth 100000 in
theorem civil_Leap.calls (a0 : Int) (r : Bool) (w : World) (h : civil_Leap.f a0 = some r) :
  Calls Tryd.prog 73 #[.int .i64 a0] w fun e w' => e = .returned (.bool r) ∧ Drawn0 w w' := by
 have H : (if (Int.tmod a0 4) = 0 then (if (Int.tmod a0 100) = 0 then (some ((Int.tmod a0 400) == 0)) else (some true)) else (some false)) = some r := h
 clear h
 by_cases c2 : (Int.tmod a0 4) = 0
 ·rw [if_pos c2] at H
  have c2b0 : ((Int.tmod a0 4) == 0) = true := beq_iff_eq.mpr c2
  have c2b1 : ((Int.tmod a0 4) != 0) = false := bne_eq_false_iff_eq.mpr c2
  clear c2
  by_cases c3 : (Int.tmod a0 100) = 0
  ·rw [if_pos c3] at H
   have c3b0 : ((Int.tmod a0 100) == 0) = true := beq_iff_eq.mpr c3
   have c3b1 : ((Int.tmod a0 100) != 0) = false := bne_eq_false_iff_eq.mpr c3
   clear c3
   obtain rfl := Option.some.inj H
   go_enter Tryd.func73, Tryd.ntmps73
   go_wp2
   go_ret
   exact ⟨by first | rfl | (simp; done) | (simp [*]; done) | (simp [Int.tdiv_eq_ediv_of_nonneg]; done) | (simp [Go.RowKit.wrap64]; done) | (simp [*, Go.RowKit.wrap64]; done), by repeat (first | exact Drawn0.refl _ | apply Drawn0.step)⟩
  ·rw [if_neg c3] at H
   have c3b0 : ((Int.tmod a0 100) == 0) = false := beq_eq_false_iff_ne.mpr c3
   have c3b1 : ((Int.tmod a0 100) != 0) = true := bne_iff_ne.mpr c3
   obtain rfl := Option.some.inj H
   go_enter Tryd.func73, Tryd.ntmps73
   go_wp2
   go_ret
   exact ⟨by first | rfl | (simp; done) | (simp [*]; done) | (simp [Int.tdiv_eq_ediv_of_nonneg]; done) | (simp [Go.RowKit.wrap64]; done) | (simp [*, Go.RowKit.wrap64]; done), by repeat (first | exact Drawn0.refl _ | apply Drawn0.step)⟩
 ·rw [if_neg c2] at H
  have c2b0 : ((Int.tmod a0 4) == 0) = false := beq_eq_false_iff_ne.mpr c2
  have c2b1 : ((Int.tmod a0 4) != 0) = true := bne_iff_ne.mpr c2
  obtain rfl := Option.some.inj H
  go_enter Tryd.func73, Tryd.ntmps73
  go_wp2
  go_ret
  exact ⟨by first | rfl | (simp; done) | (simp [*]; done) | (simp [Int.tdiv_eq_ediv_of_nonneg]; done) | (simp [Go.RowKit.wrap64]; done) | (simp [*, Go.RowKit.wrap64]; done), by repeat (first | exact Drawn0.refl _ | apply Drawn0.step)⟩

/-! ### civil_ahead: function 65 -/
def civil_ahead.f (a0 : Int) (a1 : Int) : Option (Int) := if 1 ≤ a1 ∧ a1 ≤ 13 then (if a1 > 2 then ((civil_Leap.f a0).bind fun t => some (if t then wrap64 (monthsL.getD (a1.toNat - 1) 0 + 1) else monthsL.getD (a1.toNat - 1) 0)) else some (monthsL.getD (a1.toNat - 1) 0)) else none
set_option maxHeartbeats 8000000 in
set_option maxRecDepth 100000 in
theorem civil_ahead.calls (a0 : Int) (a1 : Int) (r : Int) (w : World) (hM : GM w) (h : civil_ahead.f a0 a1 = some r) :
    Calls Tryd.prog 65 #[.int .i64 a0, .int .i64 a1] w fun e w' => e = .returned (.int .i64 r) ∧ Drawn0 w w' := by
  unfold civil_ahead.f at h
  by_cases c1 : 1 ≤ a1 ∧ a1 ≤ 13
  · rw [if_pos c1] at h
    have hc := hM (a1.toNat - 1) (by omega)
    have e1 : wrap64 (a1 - 1) = a1 - 1 := by unfold wrap64; omega
    have hx0 : 0 ≤ a1 - 1 := by omega
    have hx1 : a1 - 1 < 13 := by omega
    generalize monthsL.getD (a1.toNat - 1) 0 = m at *
    by_cases c2 : a1 > 2
    · rw [if_pos c2] at h
      have c2b : decide (2 < a1) = true := decide_eq_true c2
      obtain ⟨t, A, h⟩ := Option.bind_eq_some_iff.mp h
      cases t
      · obtain rfl : m = r := by simpa using h
        go_enter Tryd.func65, Tryd.ntmps65
        go_wp2_with (first | (go_at_call 73; (with_reducible refine (civil_Leap.calls a0 false _ A).mono ?_); rintro e w' ⟨rfl, ⟨nd, rfl⟩⟩))
        go_ret
        exact ⟨by first | rfl | (simp; done) | (simp [*]; done) | (simp [Int.tdiv_eq_ediv_of_nonneg]; done) | (simp [Go.RowKit.wrap64]; done) | (simp [*, Go.RowKit.wrap64]; done), by repeat (first | exact Drawn0.refl _ | apply Drawn0.step)⟩
      · obtain rfl : wrap64 (m + 1) = r := by simpa using h
        go_enter Tryd.func65, Tryd.ntmps65
        go_wp2_with (first | (go_at_call 73; (with_reducible refine (civil_Leap.calls a0 true _ A).mono ?_); rintro e w' ⟨rfl, ⟨nd, rfl⟩⟩))
        go_ret
        exact ⟨by first | rfl | (simp; done) | (simp [*]; done) | (simp [Int.tdiv_eq_ediv_of_nonneg]; done) | (simp [Go.RowKit.wrap64]; done) | (simp [*, Go.RowKit.wrap64]; done), by repeat (first | exact Drawn0.refl _ | apply Drawn0.step)⟩
    · rw [if_neg c2] at h
      have c2b : decide (2 < a1) = false := decide_eq_false c2
      obtain rfl : m = r := by simpa using h
      go_enter Tryd.func65, Tryd.ntmps65
      go_wp2
      go_ret
      exact ⟨by first | rfl | (simp; done) | (simp [*]; done) | (simp [Int.tdiv_eq_ediv_of_nonneg]; done) | (simp [Go.RowKit.wrap64]; done) | (simp [*, Go.RowKit.wrap64]; done), by repeat (first | exact Drawn0.refl _ | apply Drawn0.step)⟩
  · rw [if_neg c1] at h; cases h

end Go.Proofs.YtigkjbaclpklpaaDoor.Q
