/- The calls of these Go functions answer what the Lean functions beside them answer; written by a program (wip/pr2.py, out of the print of the loaded program); under no condition but those that stand in the theorems. -/
import Derived.Test.YtidoeplhgckmaaaQx0
import Derived.Test.YtidoeplhgckmaaaQx1
namespace Go.Proofs.Ytidoeplhgckmaaa.Q
open Go.RowKit Go.Proofs.YtidoeplhgckmaaaW.PrintWords Go.Proofs.YtidoeplhgckmaaaW.PrintLast Go.Proofs.YtidoeplhgckmaaaW.PrintMore
attribute [local go_sem] max2_int min2_int max_two min_two max_three min_three max_four min_four   -- for this text's walks alone
set_option linter.unusedVariables false
set_option linter.unusedSimpArgs false

-- NOT PRINTED: function 30 (bits_Sub64)

/-! ### wide_product: function 23 -/
def sub64.f (y b : Int) : Int × Int := ((((18446744073709551616 - y.toNat - b.toNat) % 18446744073709551616 : Nat) : Int), if 0 < y.toNat + b.toNat then 1 else 0)
def wide_product.f (k : Nat) (a0 a1 : Int) : Option (Int × Int) :=
  (sat_Abs.f k a0).bind fun x => (sat_Abs.f k a1).bind fun y => (bits_Mul64.f (IntKind.u64.wrap x) (IntKind.u64.wrap y)).bind fun p =>
    if (decide (a0 < 0) == decide (a1 < 0)) = true then some (wrap64 p.1, p.2) else some (wrap64 (sub64.f p.1 (sub64.f p.2 0).2).1, (sub64.f p.2 0).1)
theorem wide_product.mono : ∀ a0 a1 k, LeO (wide_product.f k a0 a1) (wide_product.f (k + 1) a0 a1) := by
  intro a0 a1 k
  unfold wide_product.f
  exact LeO.bind (sat_Abs.mono _ _) fun _ => LeO.bind (sat_Abs.mono _ _) fun _ => LeO.refl _
/-- The model's entry for math/bits.Sub64. -/
def sub64.entry : Array Value → Sem Value := fun args => do
  let (x, y, b) ← Extern.MathBitsCarry.three "Sub64" args
  pure (Extern.MathBitsCarry.pair ((x + Extern.MathBitsCarry.m64 - y - b) % Extern.MathBitsCarry.m64) (if x < y + b then 1 else 0))
theorem sub64.entry_run {P : Program} (y b : Nat) (hb : b ≤ 1) (w : World) : (sub64.entry #[.int .u64 0, .int .u64 (y : Int), .int .u64 (b : Int)]).run P w = .ok (.tuple #[.int .u64 (sub64.f y b).1, .int .u64 (sub64.f y b).2]) w := by
  have : b = 0 ∨ b = 1 := by omega
  rcases this with rfl | rfl
  · show Result.ok _ w = _
    simp [Extern.MathBitsCarry.pair, sub64.f, Extern.MathBitsCarry.m64]
    split <;> simp_all
  · show Result.ok _ w = _
    simp [Extern.MathBitsCarry.pair, sub64.f, Extern.MathBitsCarry.m64]
theorem sub64.call (y b : Nat) (hb : b ≤ 1) (w : World) : (callFunc 30 #[.int .u64 0, .int .u64 (y : Int), .int .u64 (b : Int)]).run Try.prog w = .ok (.value (.tuple #[.int .u64 (sub64.f y b).1, .int .u64 (sub64.f y b).2])) w := by
  rw [run_callFunc_extern Try.func30 (by kernel_rfl) (by kernel_rfl) (by kernel_rfl) (e := sub64.entry) (by kernel_rfl), sub64.entry_run y b hb]
  rfl
theorem u64_nat (x : Int) : IntKind.u64.wrap x = ((IntKind.u64.wrap x).toNat : Int) := by
  have h : 0 ≤ IntKind.u64.wrap x := by rw [IntKind.wrap_u64]; omega
  omega
set_option maxHeartbeats 8000000 in
set_option maxRecDepth 100000 in
theorem wide_product.calls (k : Nat) (a0 : Int) (a1 : Int) (r1 : Int) (r2 : Int) (w : World) (h : wide_product.f k a0 a1 = some (r1, r2)) :
    Calls Try.prog 23 #[.int .i64 a0, .int .i64 a1] w fun e w' => e = .returned (.tuple #[.int .i64 r1, .int .u64 r2]) ∧ Drawn0 w w' := by
  unfold wide_product.f at h
  replace h := Option.bind_eq_some_iff.mp h
  obtain ⟨x, hx, h⟩ := h
  replace h := Option.bind_eq_some_iff.mp h
  obtain ⟨y, hy, h⟩ := h
  replace h := Option.bind_eq_some_iff.mp h
  obtain ⟨⟨hi, lo⟩, hp, h⟩ := h
  obtain ⟨hn, rfl⟩ : ∃ n : Nat, hi = n := by
    have e := congrArg Prod.fst (Option.some.inj hp)
    exact ⟨_, e.symm.trans (u64_nat _)⟩
  obtain ⟨ln, rfl⟩ : ∃ n : Nat, lo = n := by
    have e := congrArg Prod.snd (Option.some.inj hp)
    exact ⟨_, e.symm.trans (u64_nat _)⟩
  obtain ⟨bn, hbn, hb⟩ : ∃ n : Nat, (sub64.f (ln : Int) 0).2 = (n : Int) ∧ n ≤ 1 := by
    unfold sub64.f
    simp only []
    split
    · exact ⟨1, rfl, by omega⟩
    · exact ⟨0, rfl, by omega⟩
  have s1 : ∀ w, _ := sub64.call ln 0 (by omega)
  have s2 : ∀ w, _ := sub64.call hn bn hb
  simp only [Int.natCast_zero] at s1
  rw [hbn] at s1 h
  obtain ⟨p1, e1⟩ : ∃ p, p = (sub64.f (ln : Int) 0).1 := ⟨_, rfl⟩
  obtain ⟨q1, e2⟩ : ∃ p, p = (sub64.f (hn : Int) (bn : Int)).1 := ⟨_, rfl⟩
  obtain ⟨q2, e3⟩ : ∃ p, p = (sub64.f (hn : Int) (bn : Int)).2 := ⟨_, rfl⟩
  simp only [← e1, ← e2, ← e3] at s1 s2 h
  clear e1 e2 e3 hbn hb
  obtain ⟨lo, hlo⟩ : ∃ z : Int, z = (ln : Int) := ⟨_, rfl⟩
  obtain ⟨hi, hhi⟩ : ∃ z : Int, z = (hn : Int) := ⟨_, rfl⟩
  obtain ⟨bo, hbo⟩ : ∃ z : Int, z = (bn : Int) := ⟨_, rfl⟩
  simp only [← hlo, ← hhi, ← hbo] at s1 s2 h hp
  clear hlo hhi hbo
  have A1 := Aside0.mk hx
  have A2 := Aside0.mk hy
  have A3 := Aside0.mk hp
  clear hx hy hp
  by_cases c0 : a0 < 0
  · have d0 : decide (a0 < 0) = true := decide_eq_true c0
    clear c0
    by_cases c1 : a1 < 0
    · have d1 : decide (a1 < 0) = true := decide_eq_true c1
      clear c1
      rw [d0, d1] at h
      replace h := Option.some.inj (((if_pos (by decide)).symm.trans h) : some _ = _)
      obtain ⟨rfl, rfl⟩ := Prod.mk.inj h
      clear h
      go_enter Try.func23, Try.ntmps23
      go_wp2_with (first | (go_at_call 25; (first | (with_reducible refine (sat_Abs.calls k a0 x _ A1.out).mono ?_) | (with_reducible refine (sat_Abs.calls k a1 y _ A2.out).mono ?_)); rintro e w' ⟨rfl, ⟨nd, rfl⟩⟩) | (go_at_call 26; (with_reducible refine (bits_Mul64.calls _ _ hi lo _ A3.out).mono ?_); rintro e w' ⟨rfl, ⟨nd, rfl⟩⟩))
      go_ret2
      exact ⟨rfl, by repeat (first | exact Drawn0.refl _ | apply Drawn0.step)⟩
    · have d1 : decide (a1 < 0) = false := decide_eq_false c1
      clear c1
      rw [d0, d1] at h
      replace h := Option.some.inj (((if_neg (by decide)).symm.trans h) : some _ = _)
      obtain ⟨rfl, rfl⟩ := Prod.mk.inj h
      clear h
      go_enter Try.func23, Try.ntmps23
      go_wp2_with (first | (go_at_call 25; (first | (with_reducible refine (sat_Abs.calls k a0 x _ A1.out).mono ?_) | (with_reducible refine (sat_Abs.calls k a1 y _ A2.out).mono ?_)); rintro e w' ⟨rfl, ⟨nd, rfl⟩⟩) | (go_at_call 26; (with_reducible refine (bits_Mul64.calls _ _ hi lo _ A3.out).mono ?_); rintro e w' ⟨rfl, ⟨nd, rfl⟩⟩))
      go_ret2
      exact ⟨rfl, by repeat (first | exact Drawn0.refl _ | apply Drawn0.step)⟩
  · have d0 : decide (a0 < 0) = false := decide_eq_false c0
    clear c0
    by_cases c1 : a1 < 0
    · have d1 : decide (a1 < 0) = true := decide_eq_true c1
      clear c1
      rw [d0, d1] at h
      replace h := Option.some.inj (((if_neg (by decide)).symm.trans h) : some _ = _)
      obtain ⟨rfl, rfl⟩ := Prod.mk.inj h
      clear h
      go_enter Try.func23, Try.ntmps23
      go_wp2_with (first | (go_at_call 25; (first | (with_reducible refine (sat_Abs.calls k a0 x _ A1.out).mono ?_) | (with_reducible refine (sat_Abs.calls k a1 y _ A2.out).mono ?_)); rintro e w' ⟨rfl, ⟨nd, rfl⟩⟩) | (go_at_call 26; (with_reducible refine (bits_Mul64.calls _ _ hi lo _ A3.out).mono ?_); rintro e w' ⟨rfl, ⟨nd, rfl⟩⟩))
      go_ret2
      exact ⟨rfl, by repeat (first | exact Drawn0.refl _ | apply Drawn0.step)⟩
    · have d1 : decide (a1 < 0) = false := decide_eq_false c1
      clear c1
      rw [d0, d1] at h
      replace h := Option.some.inj (((if_pos (by decide)).symm.trans h) : some _ = _)
      obtain ⟨rfl, rfl⟩ := Prod.mk.inj h
      clear h
      go_enter Try.func23, Try.ntmps23
      go_wp2_with (first | (go_at_call 25; (first | (with_reducible refine (sat_Abs.calls k a0 x _ A1.out).mono ?_) | (with_reducible refine (sat_Abs.calls k a1 y _ A2.out).mono ?_)); rintro e w' ⟨rfl, ⟨nd, rfl⟩⟩) | (go_at_call 26; (with_reducible refine (bits_Mul64.calls _ _ hi lo _ A3.out).mono ?_); rintro e w' ⟨rfl, ⟨nd, rfl⟩⟩))
      go_ret2
      exact ⟨rfl, by repeat (first | exact Drawn0.refl _ | apply Drawn0.step)⟩

/-! ### wide_Compare: function 12 -/
def wide_Compare.j0 : Nat → Int → Int → Int → Int → Bool → Option (Int)
  | 0, _, _, _, _, _ => none
  | k + 1, x5, x6, x7, x8, x27 => if x27 = true then (some (-1)) else (if x5 > x7 then (some 1) else (if x6 > x8 then (some 1) else (some 0)))
def wide_Compare.f (k : Nat) (a0_0 : Int) (a0_1 : Int) (a1_0 : Int) (a1_1 : Int) : Option (Int) := (wide_product.f k a0_0 (mx a1_1 1)).bind fun bt146 => ((wide_product.f k a1_0 (mx a0_1 1)).bind fun bt148 => (if bt146.1 < bt148.1 then (wide_Compare.j0 k bt146.1 bt146.2 bt148.1 bt148.2 true) else (if bt146.1 = bt148.1 then (wide_Compare.j0 k bt146.1 bt146.2 bt148.1 bt148.2 (decide (bt146.2 < bt148.2))) else (wide_Compare.j0 k bt146.1 bt146.2 bt148.1 bt148.2 false))))
theorem wide_Compare.mono_l : ∀ k, (∀ y0 y1 y2 y3 y4, LeO (wide_Compare.j0 k y0 y1 y2 y3 y4) (wide_Compare.j0 (k + 1) y0 y1 y2 y3 y4))
  | 0 => fun _ _ _ _ _ r h => by simp [wide_Compare.j0] at h
  | k + 1 => by
    have ih0 := wide_Compare.mono_l k
    · intro y0 y1 y2 y3 y4
      unfold wide_Compare.j0
      repeat' first
      | (with_reducible exact ih0 _ _ _ _ _)
      | (with_reducible exact wide_product.mono _ _ _)
      | (with_reducible exact LeO.refl _)
      | (with_reducible exact LeO.none _)
      | (with_reducible refine LeO.ite ?_ ?_)
      | (with_reducible refine LeO.bind ?_ (fun _ => ?_))
      | exact ih0 _ _ _ _ _
      | exact wide_product.mono _ _ _
      | exact LeO.none _
      | refine LeO.ite ?_ ?_
      | refine LeO.bind ?_ (fun _ => ?_)
theorem wide_Compare.mono : ∀ a0 a1 a2 a3 k, LeO (wide_Compare.f k a0 a1 a2 a3) (wide_Compare.f (k + 1) a0 a1 a2 a3) := by
  intro a0 a1 a2 a3 k
  have ih0 := wide_Compare.mono_l k
  unfold wide_Compare.f
  repeat' first
      | (with_reducible exact ih0 _ _ _ _ _)
      | (with_reducible exact wide_product.mono _ _ _)
      | (with_reducible exact LeO.refl _)
      | (with_reducible exact LeO.none _)
      | (with_reducible refine LeO.ite ?_ ?_)
      | (with_reducible refine LeO.bind ?_ (fun _ => ?_))
      | exact ih0 _ _ _ _ _
      | exact wide_product.mono _ _ _
      | exact LeO.none _
      | refine LeO.ite ?_ ?_
      | refine LeO.bind ?_ (fun _ => ?_)
set_option maxHeartbeats 8000000 in
set_option maxRecDepth 100000 in
theorem wide_Compare.calls (k : Nat) (a0_0 : Int) (a0_1 : Int) (a1_0 : Int) (a1_1 : Int) (r : Int) (w : World) (h : wide_Compare.f k a0_0 a0_1 a1_0 a1_1 = some r) :
    Calls Try.prog 12 #[.agg #[.int .i64 a0_0, .int .i64 a0_1], .agg #[.int .i64 a1_0, .int .i64 a1_1]] w fun e w' => e = .returned (.int .i64 r) ∧ Below w.heap.size w w' := by
  have hu27 := Try.underlying27
  have HB := Aside0.mk (Below.refl w.heap.size w)
  have H : ((wide_product.f k a0_0 (mx a1_1 1)).bind fun bt146 => ((wide_product.f k a1_0 (mx a0_1 1)).bind fun bt148 => (if bt146.1 < bt148.1 then (wide_Compare.j0 k bt146.1 bt146.2 bt148.1 bt148.2 true) else (if bt146.1 = bt148.1 then (wide_Compare.j0 k bt146.1 bt146.2 bt148.1 bt148.2 (decide (bt146.2 < bt148.2))) else (wide_Compare.j0 k bt146.1 bt146.2 bt148.1 bt148.2 false))))) = some r := h
  clear h
  obtain ⟨ji3, hji3⟩ : ∃ j_ : Int, (mx a1_1 1) = j_ := ⟨_, rfl⟩
  replace H : ((wide_product.f k a0_0 (ji3)).bind fun bt146 => ((wide_product.f k a1_0 (mx a0_1 1)).bind fun bt148 => (if bt146.1 < bt148.1 then (wide_Compare.j0 k bt146.1 bt146.2 bt148.1 bt148.2 true) else (if bt146.1 = bt148.1 then (wide_Compare.j0 k bt146.1 bt146.2 bt148.1 bt148.2 (decide (bt146.2 < bt148.2))) else (wide_Compare.j0 k bt146.1 bt146.2 bt148.1 bt148.2 false))))) = some r := by first | (rw [hji3] at H; exact H) | (simp only [hji3] at H ⊢; exact H)
  (try (have hji3l : 1 ≤ ji3 := by (rw [← hji3]; unfold mx; (repeat' split) <;> omega)))
  (try (have hji3m : 0 ≤ ji3 := by omega))
  have hji3_ : (if a1_1 < 1 then 1 else a1_1) = ji3 := hji3
  replace H := Option.bind_eq_some_iff.mp H
  obtain ⟨⟨t146, t147⟩, A40, H⟩ := H
  replace H : ((wide_product.f k a1_0 (mx a0_1 1)).bind fun bt148 => (if t146 < bt148.1 then (wide_Compare.j0 k t146 t147 bt148.1 bt148.2 true) else (if t146 = bt148.1 then (wide_Compare.j0 k t146 t147 bt148.1 bt148.2 (decide (t147 < bt148.2))) else (wide_Compare.j0 k t146 t147 bt148.1 bt148.2 false)))) = some r := H
  have A4 := Aside0.mk A40
  clear A40
  obtain ⟨ji5, hji5⟩ : ∃ j_ : Int, (mx a0_1 1) = j_ := ⟨_, rfl⟩
  replace H : ((wide_product.f k a1_0 (ji5)).bind fun bt148 => (if t146 < bt148.1 then (wide_Compare.j0 k t146 t147 bt148.1 bt148.2 true) else (if t146 = bt148.1 then (wide_Compare.j0 k t146 t147 bt148.1 bt148.2 (decide (t147 < bt148.2))) else (wide_Compare.j0 k t146 t147 bt148.1 bt148.2 false)))) = some r := by first | (rw [hji5] at H; exact H) | (simp only [hji5] at H ⊢; exact H)
  (try rw [hji5] at A4)
  (try (have hji5l : 1 ≤ ji5 := by (rw [← hji5]; unfold mx; (repeat' split) <;> omega)))
  (try (have hji5m : 0 ≤ ji5 := by omega))
  have hji5_ : (if a0_1 < 1 then 1 else a0_1) = ji5 := hji5
  replace H := Option.bind_eq_some_iff.mp H
  obtain ⟨⟨t148, t149⟩, A60, H⟩ := H
  replace H : (if t146 < t148 then (wide_Compare.j0 k t146 t147 t148 t149 true) else (if t146 = t148 then (wide_Compare.j0 k t146 t147 t148 t149 (decide (t147 < t149))) else (wide_Compare.j0 k t146 t147 t148 t149 false))) = some r := H
  have A6 := Aside0.mk A60
  clear A60
  have HC7 := Aside0.mk H
  clear H
  go_enter Try.func12, Try.ntmps12
  go_upto_region 3 with (first | ((with_reducible refine gate_dst (N := 2) rfl ?_); refine box_event ?hg (N := 2) ?hd (cs := #[.int .i64 a0_0, .int .i64 a0_1]) (t := 27) ?hr ?_; (case hd => rfl); (case hg => rfl); (case hr => first | (go_simp; done) | (go_simp; rfl)); intro gb144 hg w8 hbox hb; have n0_ := Aside0.mk (below_step (by repeat (first | (with_reducible first | exact HB.out | apply below_alloc | apply pw_below_drewN | apply below_drew1) | exact HB.out)) hb); have n1_ := Aside0.mk (hbox); have n2_ := Aside0.mk ((by rw [hg]; exact (below_size (by repeat (first | (with_reducible first | exact HB.out | apply below_alloc | apply pw_below_drewN | apply below_drew1) | exact HB.out))) : w.heap.size ≤ gb144)); have n3_ := Aside0.mk ((by rw [hg]; exact (below_size (by repeat (first | (with_reducible first | exact HB.out | apply below_alloc | apply pw_below_drewN | apply below_drew1) | exact HB.out))) : w.heap.size ≤ gb144)); clear HB; have HB := n0_; have BK144 := n1_; have GW144 := n2_; have GE144 := n3_; clear n0_ n1_ n2_ n3_; clear hb hbox hg) | ((with_reducible refine gate_dst (N := 3) rfl ?_); refine box_event ?hg (N := 3) ?hd (cs := #[.int .i64 a1_0, .int .i64 a1_1]) (t := 27) ?hr ?_; (case hd => rfl); (case hg => rfl); (case hr => first | (go_simp; done) | (go_simp; rfl)); intro gb145 hg w9 hbox hb; have n0_ := Aside0.mk (blk_below (g := gb144) (o := .cells #[.int .i64 a0_0, .int .i64 a0_1] 27 (0, 0)) (by (with_reducible repeat (first | refine blk_drewN ?_ _ | refine blk_drew ?_ | refine blk_alloc ?_ _)); exact BK144.out) hb); have n1_ := Aside0.mk (below_step (by repeat (first | (with_reducible first | exact HB.out | apply below_alloc | apply pw_below_drewN | apply below_drew1 | refine below_set ?_ GE144.out) | exact HB.out)) hb); have n2_ := Aside0.mk (hbox); have n3_ := Aside0.mk ((by rw [hg]; exact (below_size (by repeat (first | (with_reducible first | exact HB.out | apply below_alloc | apply pw_below_drewN | apply below_drew1 | refine below_set ?_ GE144.out) | exact HB.out))) : w.heap.size ≤ gb145)); have n4_ := Aside0.mk ((by rw [hg]; exact (below_size (by repeat (first | (with_reducible first | exact HB.out | apply below_alloc | apply pw_below_drewN | apply below_drew1 | refine below_set ?_ GE144.out) | exact HB.out))) : w.heap.size ≤ gb145)); have n5_ := Aside0.mk ((by rw [hg]; exact Nat.ne_of_lt (blk_lt (g := gb144) (o := .cells #[.int .i64 a0_0, .int .i64 a0_1] 27 (0, 0)) (by (with_reducible repeat (first | refine blk_drewN ?_ _ | refine blk_drew ?_ | refine blk_alloc ?_ _)); exact BK144.out)) : gb144 ≠ gb145)); have n6_ := Aside0.mk ((by rw [hg]; exact Nat.ne_of_gt (blk_lt (g := gb144) (o := .cells #[.int .i64 a0_0, .int .i64 a0_1] 27 (0, 0)) (by (with_reducible repeat (first | refine blk_drewN ?_ _ | refine blk_drew ?_ | refine blk_alloc ?_ _)); exact BK144.out)) : gb145 ≠ gb144)); clear BK144; clear HB; have BK144 := n0_; have HB := n1_; have BK145 := n2_; have GW145 := n3_; have GE145 := n4_; have NB144_145 := n5_; have NB145_144 := n6_; clear n0_ n1_ n2_ n3_ n4_ n5_ n6_; clear hb hbox hg; have hnb10 := NB144_145.out; have hnc10 := NB145_144.out; have hcz11_0 : w9.cell? ⟨gb144, 0, none⟩ = some (.int .i64 a0_0) := (blk_cell BK144.out 0).trans rfl; have hcz11_1 : w9.cell? ⟨gb144, 1, none⟩ = some (.int .i64 a0_1) := (blk_cell BK144.out 1).trans rfl; have hfz11_0 := blk_frozen BK144.out 0; have hfz11_1 := blk_frozen BK144.out 1; have hcz12_0 : w9.cell? ⟨gb145, 0, none⟩ = some (.int .i64 a1_0) := (blk_cell BK145.out 0).trans rfl; have hcz12_1 : w9.cell? ⟨gb145, 1, none⟩ = some (.int .i64 a1_1) := (blk_cell BK145.out 1).trans rfl; have hfz12_0 := blk_frozen BK145.out 0; have hfz12_1 := blk_frozen BK145.out 1) | ((with_reducible refine gate_callee (f := 23) rfl ?_); refine goesL_ (some 15) rfl rfl Try.func23 (by kernel_rfl) rfl #[.int .i64 a0_0, .int .i64 ji3] rfl (by (try simp only [List.map_toArray, List.map_cons, List.map_nil]); first | done | (simp only [hji3]; rfl) | rfl | (simp only [List.length_drop, List.length_take]; rfl)) ?_; (with_reducible refine (wide_product.calls k a0_0 ji3 t146 t147 _ A4.out).mono ?_); rintro e w' ⟨rfl, ⟨nd, rfl⟩⟩; refine ⟨_, rfl, ?_⟩) | ((with_reducible refine gate_callee (f := 23) rfl ?_); refine goesL_ (some 24) rfl rfl Try.func23 (by kernel_rfl) rfl #[.int .i64 a1_0, .int .i64 ji5] rfl (by (try simp only [List.map_toArray, List.map_cons, List.map_nil]); first | done | (simp only [hji5]; rfl) | rfl | (simp only [List.length_drop, List.length_take]; rfl)) ?_; (with_reducible refine (wide_product.calls k a1_0 ji5 t148 t149 _ A6.out).mono ?_); rintro e w' ⟨rfl, ⟨nd, rfl⟩⟩; refine ⟨_, rfl, ?_⟩))
  (try simp only [Act.put, List.setIfInBounds_toArray, List.set_cons_zero, List.set_cons_succ])
  go_cut [27] (fun v27 wc => ∃ (kq : Nat) (x27_6 : Bool), v27 = .bool x27_6 ∧ Aside0 (wide_Compare.j0 kq t146 t147 t148 t149 x27_6 = some r) ∧ Aside0 (kq ≤ k) ∧ Aside0 (wc.heap[gb144]? = some (.cells #[.int .i64 a0_0, .int .i64 a0_1] 27 (0, 0))) ∧ Aside0 (wc.heap[gb145]? = some (.cells #[.int .i64 a1_0, .int .i64 a1_1] 27 (0, 0))) ∧ Aside0 (Below w.heap.size w wc))
  case first =>
    have H := HC7.out
    clear HC7
    by_cases c13 : t146 < t148
    · rw [if_pos c13] at H
      have c13b0 : decide (t146 < t148) = true := decide_eq_true c13
      clear c13
      (first | rw [c13b0] | (simp only [i64_w, i32_w]; rw [c13b0]) | skip)
      have H' := Aside0.mk H
      clear H
      go_wp2
      go_meet
      case rel => exact ⟨_, (true), (by first | rfl | (simp; done) | (simp [*]; done) | (simp [Int.tdiv_eq_ediv_of_nonneg]; done) | (simp [Go.RowKit.wrap64]; done) | (simp [*, Go.RowKit.wrap64]; done)), H', ⟨by first | omega | exact Nat.le_refl _⟩, ⟨by (with_reducible repeat (first | refine blk_drewN ?_ _ | refine blk_drew ?_ | refine blk_alloc ?_ _)); exact BK144.out⟩, ⟨by (with_reducible repeat (first | refine blk_drewN ?_ _ | refine blk_drew ?_ | refine blk_alloc ?_ _)); exact BK145.out⟩, ⟨by repeat (first | (with_reducible first | exact HB.out | apply below_alloc | apply pw_below_drewN | apply below_drew1 | refine below_set ?_ GE144.out | refine below_set ?_ GE145.out) | exact HB.out)⟩⟩
    · rw [if_neg c13] at H
      have c13b0 : decide (t146 < t148) = false := decide_eq_false c13
      clear c13
      (first | rw [c13b0] | (simp only [i64_w, i32_w]; rw [c13b0]) | skip)
      by_cases c14 : t146 = t148
      · rw [if_pos c14] at H
        have c14b0 : (t146 == t148) = true := beq_iff_eq.mpr c14
        have c14b1 : (t146 != t148) = false := bne_eq_false_iff_eq.mpr c14
        clear c14
        have H' := Aside0.mk H
        clear H
        go_wp2
        go_meet
        case rel => exact ⟨_, (decide (t147 < t149)), (by first | rfl | (simp; done) | (simp [*]; done) | (simp [Int.tdiv_eq_ediv_of_nonneg]; done) | (simp [Go.RowKit.wrap64]; done) | (simp [*, Go.RowKit.wrap64]; done)), H', ⟨by first | omega | exact Nat.le_refl _⟩, ⟨by (with_reducible repeat (first | refine blk_drewN ?_ _ | refine blk_drew ?_ | refine blk_alloc ?_ _)); exact BK144.out⟩, ⟨by (with_reducible repeat (first | refine blk_drewN ?_ _ | refine blk_drew ?_ | refine blk_alloc ?_ _)); exact BK145.out⟩, ⟨by repeat (first | (with_reducible first | exact HB.out | apply below_alloc | apply pw_below_drewN | apply below_drew1 | refine below_set ?_ GE144.out | refine below_set ?_ GE145.out) | exact HB.out)⟩⟩
      · rw [if_neg c14] at H
        have c14b0 : (t146 == t148) = false := beq_eq_false_iff_ne.mpr c14
        have c14b1 : (t146 != t148) = true := bne_iff_ne.mpr c14
        have H' := Aside0.mk H
        clear H
        go_wp2
        go_meet
        case rel => exact ⟨_, (false), (by first | rfl | (simp; done) | (simp [*]; done) | (simp [Int.tdiv_eq_ediv_of_nonneg]; done) | (simp [Go.RowKit.wrap64]; done) | (simp [*, Go.RowKit.wrap64]; done)), H', ⟨by first | omega | exact Nat.le_refl _⟩, ⟨by (with_reducible repeat (first | refine blk_drewN ?_ _ | refine blk_drew ?_ | refine blk_alloc ?_ _)); exact BK144.out⟩, ⟨by (with_reducible repeat (first | refine blk_drewN ?_ _ | refine blk_drew ?_ | refine blk_alloc ?_ _)); exact BK145.out⟩, ⟨by repeat (first | (with_reducible first | exact HB.out | apply below_alloc | apply pw_below_drewN | apply below_drew1 | refine below_set ?_ GE144.out | refine below_set ?_ GE145.out) | exact HB.out)⟩⟩
  case rest =>
    clear HC7
    try clear c1
    try clear c2
    try clear p2
    try clear c10
    try clear c12
    try clear c13
    try clear c13b0
    try clear c14
    try clear c14b0
    try clear c14b1
    try clear hcz11_0
    try clear hcz11_1
    try clear hcz12_0
    try clear hcz12_1
    try clear hfz11_0
    try clear hfz11_1
    try clear hfz12_0
    try clear hfz12_1
    obtain ⟨kq, x27_6, rfl, HA, HJ6, BK144, BK145, HB⟩ := hcut
    cases kq with
    | zero => exact absurd HA.out (by simp [wide_Compare.j0])
    | succ kj6 =>
      have H := HA.out
      clear HA
      simp only [wide_Compare.j0] at H
      by_cases c15 : x27_6 = true
      · subst c15
        have H1 : (some (-1)) = some r := by rw [if_pos rfl] at H; exact H
        clear H
        have H := H1
        clear H1
        obtain rfl := Option.some.inj H
        go_wp2
        go_ret
        exact ⟨by first | rfl | (simp [errW_none, errW_some] <;> rfl) | (simp only [← hji3, ← hji5]; first | rfl | (simp [errW_none, errW_some] <;> rfl)) | (simp [*, errW_none, errW_some] <;> rfl), by repeat (first | (with_reducible first | exact HB.out | apply below_alloc | apply pw_below_drewN | apply below_drew1 | refine below_set ?_ GE144.out | refine below_set ?_ GE145.out) | exact HB.out)⟩
      · replace c15 := Bool.eq_false_iff.mpr c15
        subst c15
        have H1 : (if t146 > t148 then (some 1) else (if t147 > t149 then (some 1) else (some 0))) = some r := by rw [if_neg (show ¬ (false = true) by decide)] at H; exact H
        clear H
        have H := H1
        clear H1
        by_cases c16 : t146 > t148
        · rw [if_pos c16] at H
          have c16b0 : decide (t148 < t146) = true := decide_eq_true c16
          clear c16
          obtain rfl := Option.some.inj H
          go_wp2
          go_ret
          exact ⟨by first | rfl | (simp [errW_none, errW_some] <;> rfl) | (simp only [← hji3, ← hji5]; first | rfl | (simp [errW_none, errW_some] <;> rfl)) | (simp [*, errW_none, errW_some] <;> rfl), by repeat (first | (with_reducible first | exact HB.out | apply below_alloc | apply pw_below_drewN | apply below_drew1 | refine below_set ?_ GE144.out | refine below_set ?_ GE145.out) | exact HB.out)⟩
        · rw [if_neg c16] at H
          have c16b0 : decide (t148 < t146) = false := decide_eq_false c16
          clear c16
          by_cases c17 : t147 > t149
          · rw [if_pos c17] at H
            have c17b0 : decide (t149 < t147) = true := decide_eq_true c17
            clear c17
            obtain rfl := Option.some.inj H
            go_wp2
            go_ret
            exact ⟨by first | rfl | (simp [errW_none, errW_some] <;> rfl) | (simp only [← hji3, ← hji5]; first | rfl | (simp [errW_none, errW_some] <;> rfl)) | (simp [*, errW_none, errW_some] <;> rfl), by repeat (first | (with_reducible first | exact HB.out | apply below_alloc | apply pw_below_drewN | apply below_drew1 | refine below_set ?_ GE144.out | refine below_set ?_ GE145.out) | exact HB.out)⟩
          · rw [if_neg c17] at H
            have c17b0 : decide (t149 < t147) = false := decide_eq_false c17
            clear c17
            obtain rfl := Option.some.inj H
            go_wp2
            go_ret
            exact ⟨by first | rfl | (simp [errW_none, errW_some] <;> rfl) | (simp only [← hji3, ← hji5]; first | rfl | (simp [errW_none, errW_some] <;> rfl)) | (simp [*, errW_none, errW_some] <;> rfl), by repeat (first | (with_reducible first | exact HB.out | apply below_alloc | apply pw_below_drewN | apply below_drew1 | refine below_set ?_ GE144.out | refine below_set ?_ GE145.out) | exact HB.out)⟩

end Go.Proofs.Ytidoeplhgckmaaa.Q
