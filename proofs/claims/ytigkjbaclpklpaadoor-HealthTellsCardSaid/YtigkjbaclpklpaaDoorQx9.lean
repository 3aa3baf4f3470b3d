/- The calls of these Go functions answer what the Lean functions beside them answer; written by a program (wip/pr2.py, out of the print of the loaded program); under no condition but those that stand in the theorems. -/
import Derived.Test.YtigkjbaclpklpaaDoorQx0
import Derived.Test.YtigkjbaclpklpaaDoorQx4
import Derived.Test.YtigkjbaclpklpaaDoorQx6
import Derived.Test.YtigkjbaclpklpaaDoorQx8
namespace Go.Proofs.YtigkjbaclpklpaaDoor.Q
open Go.RowKit Go.Proofs.YtigkjbaclpklpaaDoorW.PrintWords Go.Proofs.YtigkjbaclpklpaaDoorW.PrintLast Go.Proofs.YtigkjbaclpklpaaDoorW.PrintMore
attribute [local go_sem] max2_int min2_int max_two min_two max_three min_three max_four min_four   -- for this text's walks alone
set_option linter.unusedVariables false
set_option linter.unusedSimpArgs false

/-! ### sat_Max: function 56 -/
def sat_Max.l0 : Nat → Int → List Int → Int → Int → Option (Int)
 | 0, _, _, _, _ => none
 | k + 1, x3, x6, x7, x8 => if x8 < x7 then (if 0 ≤ x8 then (if x8 < (x6.length : Int) then ((sat_Clip.f k (rd x6 x8)).bind fun t154 => (sat_Max.l0 k (mx x3 t154) x6 x7 (wrap64 (x8 + 1)))) else (none)) else (none)) else (some x3)
def sat_Max.f (k : Nat) (l0 : List Int) : Option (Int) := sat_Max.l0 k (-2305843009213693952) l0 (l0.length : Int) 0
theorem sat_Max.mono_l : ∀ k, (∀ y0 y1 y2 y3, LeO (sat_Max.l0 k y0 y1 y2 y3) (sat_Max.l0 (k + 1) y0 y1 y2 y3))
 | 0 => fun _ _ _ _ r h => by simp [sat_Max.l0] at h
 | k + 1 => by
  have ih0 := sat_Max.mono_l k
  intro y0 y1 y2 y3
  unfold sat_Max.l0
  repeat' first
  | (with_reducible exact ih0 _ _ _ _)
  | (with_reducible exact sat_Clip.mono _ _)
  | (with_reducible exact LeO.refl _)
  | (with_reducible exact LeO.none _)
  | (with_reducible refine LeO.ite ?_ ?_)
  | (with_reducible refine LeO.bind ?_ (fun _ => ?_))
  | exact ih0 _ _ _ _
  | exact sat_Clip.mono _ _
  | exact LeO.none _
  | refine LeO.ite ?_ ?_
  | refine LeO.bind ?_ (fun _ => ?_)
theorem sat_Max.mono : ∀ a0 k, LeO (sat_Max.f k a0) (sat_Max.f (k + 1) a0) := by
 intro a0 k
 have ih0 := sat_Max.mono_l k
 unfold sat_Max.f
 repeat' first
   | (with_reducible exact ih0 _ _ _ _)
   | (with_reducible exact sat_Clip.mono _ _)
   | (with_reducible exact LeO.refl _)
   | (with_reducible exact LeO.none _)
   | (with_reducible refine LeO.ite ?_ ?_)
   | (with_reducible refine LeO.bind ?_ (fun _ => ?_))
   | exact ih0 _ _ _ _
   | exact sat_Clip.mono _ _
   | exact LeO.none _
   | refine LeO.ite ?_ ?_
   | refine LeO.bind ?_ (fun _ => ?_)
set_option maxHeartbeats 8000000 in
set_option maxRecDepth 100000 in
theorem sat_Max.calls (k : Nat) (A0 : Option Addr) (c0 : Nat) (l0 : List Int) (r : Int) (w : World) (hr0 : Kd.C (Kd.int .i64) w A0 l0.length l0) (hc0 : l0.length ≤ c0) (h : sat_Max.f k l0 = some r) :
  Calls Tryd.prog 56 #[.slice A0 l0.length c0] w fun e w' => e = .returned (.int .i64 r) ∧ Below w.heap.size w w' := by
 have HR0 := mk hr0
 have HC0 := mk hc0
 clear hr0 hc0
 have HB := mk (Below.refl w.heap.size w)
 have H : (sat_Max.l0 k (-2305843009213693952) l0 (l0.length : Int) 0) = some r := h
 clear h
 have H' := mk H
 clear H
 go_enter Tryd.func56, Tryd.ntmps56
 go_wp2
 go_loopg [3, 8] k (fun kq v3 v8 w' => ∃ (x3_1 : Int) (x8_1 : Int), v3 = .int .i64 x3_1 ∧ v8 = .int .i64 x8_1 ∧ Aside0 (sat_Max.l0 kq x3_1 l0 (l0.length : Int) x8_1 = some r) ∧ Aside0 (kq ≤ k) ∧ Aside0 (Below w.heap.size w w'))
 case atStart => exact ⟨((-2305843009213693952)), (0), zs, zs, H', ⟨Nat.le_refl _⟩, ⟨by repeat (first | (with_reducible first | exact HB.1 | apply bA | apply pD | apply b1) | exact HB.1)⟩⟩
 case round =>
  clear H'
  obtain ⟨x3_1, x8_1, rfl, rfl, HA, HK1, HB⟩ := hrel
  cases gk with
  | zero => exact absurd HA.1 (by simp [sat_Max.l0])
  | succ k1 =>
   have H := HA.1
   clear HA
   simp only [sat_Max.l0] at H
   by_cases c2 : x8_1 < (l0.length : Int)
   ·rw [if_pos c2] at H
    have c2b0 : decide (x8_1 < (l0.length : Int)) = true := decide_eq_true c2
    clear c2
    by_cases c3 : 0 ≤ x8_1
    ·rw [if_pos c3] at H
     have c3b0 : decide (0 ≤ x8_1) = true := decide_eq_true c3
     clear c3
     by_cases c4 : x8_1 < (l0.length : Int)
     ·rw [if_pos c4] at H
      have c4b0 : decide (x8_1 < (l0.length : Int)) = true := decide_eq_true c4
      clear c4
      replace H := Option.bind_eq_some_iff.mp H
      obtain ⟨t154, A50, H⟩ := H
      replace H : (sat_Max.l0 k1 (mx x3_1 t154) l0 (l0.length : Int) (wrap64 (x8_1 + 1))) = some r := H
      have A5 := mk A50
      clear A50
      obtain ⟨ji6, hji6⟩ : ∃ j_ : Int, (mx x3_1 t154) = j_ := ⟨_, rfl⟩
      replace H : (sat_Max.l0 k1 ji6 l0 (l0.length : Int) (wrap64 (x8_1 + 1))) = some r := by first | (rw [hji6] at H; exact H) | (simp only [hji6] at H ⊢; exact H)
      (try rw [hji6] at A5)
      have hji6_ : (if x3_1 < t154 then t154 else x3_1) = ji6 := hji6
      have H' := mk H
      clear H
      have p153 : 0 ≤ (x8_1 : Int) := of_decide_eq_true (by first | (with_reducible assumption) | assumption)
      have q153 : x8_1 < (l0.length : Int) := of_decide_eq_true (by first | (with_reducible assumption) | assumption)
      obtain ⟨ad153, e153, hx153_0⟩ := Kd.at_int HR0.1 x8_1 p153 q153
      cases e153
      replace hx153_0 := (HB.1.cell (World.block_lt_of_cell? w _ hx153_0)).trans hx153_0
      replace p153 := eq_true p153
      replace q153 := eq_true q153
      go_wp2_with (first | ((with_reducible refine gate_callee (f := 40) rfl ?_); refine goesL_ (some 14) rfl rfl Tryd.func40 (by kernel_rfl) rfl #[.int .i64 (rd l0 x8_1)] rfl (by (try simp only [List.map_toArray, List.map_cons, List.map_nil]); first | done | rfl | (simp only [List.length_drop, List.length_take]; rfl)) ?_; (with_reducible refine (sat_Clip.calls k1 (rd l0 x8_1) t154 _ A5.1).mono ?_); rintro e w' ⟨rfl, ⟨nd, rfl⟩⟩; refine ⟨_, rfl, ?_⟩))
      go_roundg k1
      case measure => have := HK1.1; omega
      case rel => exact ⟨(ji6), (wrap64 (x8_1 + 1)), (by first | rfl | (simp; done) | (simp only [← hji6] <;> (first | rfl | simp)) | (simp [*]; done)), zs, H', ⟨by have := HK1.1; omega⟩, ⟨by repeat (first | (with_reducible first | exact HB.1 | apply bA | apply pD | apply b1) | exact HB.1)⟩⟩
     rw [if_neg c4] at H
     exact absurd H (by simp)
    rw [if_neg c3] at H
    exact absurd H (by simp)
   rw [if_neg c2] at H
   have c2b0 : decide (x8_1 < (l0.length : Int)) = false := decide_eq_false c2
   clear c2
   obtain rfl := Option.some.inj H
   go_wp2
   go_ret
   exact ⟨by first | rfl | (simp [errW_none, errW_some] <;> rfl) | (simp [*, errW_none, errW_some] <;> rfl), by repeat (first | (with_reducible first | exact HB.1 | apply bA | apply pD | apply b1) | exact HB.1)⟩

/-! ### health_Far: function 35 -/
def health_Far.f (k : Nat) (a0_0 : Int) (a0_1 : Int) (a0_2 : Int) (a0_3 : Int) (a0_4 : Int) (a0_5 : Int) (a0_6 : Int) (a0_7 : Int) (a0_8 : Int) (a0_9 : Int) (a0_10 : Int) (a0_11 : Int) (a1 : Int) : Option (Int) := (sat_Max.f k (([a1, a0_9] : List Int))).bind fun t159 => ((limit_Width.f k a0_0 a0_1 a0_2 a0_3 a0_4 a0_5 a0_6 a0_7 a0_8 a0_9 a0_10 a0_11 t159 a0_2).bind fun t160 => ((sat_Mul.f k 2 t160).bind fun t161 => (some t161)))
theorem health_Far.mono : ∀ a0 a1 a2 a3 a4 a5 a6 a7 a8 a9 a10 a11 a12 k, LeO (health_Far.f k a0 a1 a2 a3 a4 a5 a6 a7 a8 a9 a10 a11 a12) (health_Far.f (k + 1) a0 a1 a2 a3 a4 a5 a6 a7 a8 a9 a10 a11 a12) := by
 intro a0 a1 a2 a3 a4 a5 a6 a7 a8 a9 a10 a11 a12 k
 unfold health_Far.f
 repeat' first
   | (with_reducible exact limit_Width.mono _ _ _ _ _ _ _ _ _ _ _ _ _ _ _)
   | (with_reducible exact sat_Max.mono _ _)
   | (with_reducible exact sat_Mul.mono _ _ _)
   | (with_reducible exact LeO.refl _)
   | (with_reducible exact LeO.none _)
   | (with_reducible refine LeO.ite ?_ ?_)
   | (with_reducible refine LeO.bind ?_ (fun _ => ?_))
   | exact limit_Width.mono _ _ _ _ _ _ _ _ _ _ _ _ _ _ _
   | exact sat_Max.mono _ _
   | exact sat_Mul.mono _ _ _
   | exact LeO.none _
   | refine LeO.ite ?_ ?_
   | refine LeO.bind ?_ (fun _ => ?_)
def health_Far.T1 : Bool × List (List Nat × List Nat) := (true, [([], []), ([], []), ([], []), ([2], [2]), ([1, 3], [1, 3]), ([4], [4]), ([], []), ([6], [6]), ([0, 5, 7, 5], [0, 5, 7]), ([8, 8], [8]), ([9, 9, 0, 1, 2, 3, 4, 5, 6, 7, 8, 9], [9])])
def health_Far.B1 : List Nat := [0, 0, 0, 4, 14, 30, 0, 64, 255, 511, 1023]
theorem health_Far.tab1 : rtab .any (opsOf Tryd.f35 1) = health_Far.T1 := by kernel_rfl
theorem health_Far.bits1 : waitsOk health_Far.T1.2 health_Far.B1 = true := by kernel_rfl
set_option maxHeartbeats 8000000 in
set_option maxRecDepth 100000 in
theorem health_Far.calls (k : Nat) (a0_0 : Int) (a0_1 : Int) (a0_2 : Int) (a0_3 : Int) (a0_4 : Int) (a0_5 : Int) (a0_6 : Int) (a0_7 : Int) (a0_8 : Int) (a0_9 : Int) (a0_10 : Int) (a0_11 : Int) (a1 : Int) (r : Int) (w : World) (h : health_Far.f k a0_0 a0_1 a0_2 a0_3 a0_4 a0_5 a0_6 a0_7 a0_8 a0_9 a0_10 a0_11 a1 = some r) :
  Calls Tryd.prog 35 #[.agg #[.int .i64 a0_0, .int .i64 a0_1, .int .i64 a0_2, .int .i64 a0_3, .int .i64 a0_4, .int .i64 a0_5, .int .i64 a0_6, .int .i64 a0_7, .int .i64 a0_8, .int .i64 a0_9, .int .i64 a0_10, .int .i64 a0_11], .int .i64 a1] w fun e w' => e = .returned (.int .i64 r) ∧ Below w.heap.size w w' := by
 have hu23 := Tryd.underlying23
 have HB := mk (Below.refl w.heap.size w)
 have H : ((sat_Max.f k (([a1, a0_9] : List Int))).bind fun t159 => ((limit_Width.f k a0_0 a0_1 a0_2 a0_3 a0_4 a0_5 a0_6 a0_7 a0_8 a0_9 a0_10 a0_11 t159 a0_2).bind fun t160 => ((sat_Mul.f k 2 t160).bind fun t161 => (some t161)))) = some r := h
 clear h
 obtain ⟨y156, hy156⟩ : ∃ y_ : List Int, y_ = (([a1, a0_9] : List Int)) := ⟨_, rfl⟩
 replace H : ((sat_Max.f k y156).bind fun t159 => ((limit_Width.f k a0_0 a0_1 a0_2 a0_3 a0_4 a0_5 a0_6 a0_7 a0_8 a0_9 a0_10 a0_11 t159 a0_2).bind fun t160 => ((sat_Mul.f k 2 t160).bind fun t161 => (some t161)))) = some r := by first | (rw [hy156]; with_reducible exact H) | (have H2_ := (Option.bind_some _ _).symm.trans H; rw [hy156]; with_reducible exact H2_) | (have H2_ := (Option.bind_some _ _).symm.trans H; with_reducible exact H2_) | with_reducible exact H | (rw [hy156]; exact H) | exact H
 have Ny156 := mk hy156
 clear hy156
 replace H := Option.bind_eq_some_iff.mp H
 obtain ⟨t159, A30, H⟩ := H
 replace H : ((limit_Width.f k a0_0 a0_1 a0_2 a0_3 a0_4 a0_5 a0_6 a0_7 a0_8 a0_9 a0_10 a0_11 t159 a0_2).bind fun t160 => ((sat_Mul.f k 2 t160).bind fun t161 => (some t161))) = some r := H
 have A3 := mk A30
 clear A30
 replace H := Option.bind_eq_some_iff.mp H
 obtain ⟨t160, A40, H⟩ := H
 replace H : ((sat_Mul.f k 2 t160).bind fun t161 => (some t161)) = some r := H
 have A4 := mk A40
 clear A40
 replace H := Option.bind_eq_some_iff.mp H
 obtain ⟨t161, A50, H⟩ := H
 replace H : (some t161) = some r := H
 have A5 := mk A50
 clear A50
 obtain rfl := Option.some.inj H
 go_enter Tryd.func35, Tryd.ntmps35
 try go_wp2_with (first | ((with_reducible refine gate_dst (N := 2) rfl ?_); refine bx 2 #[.int .i64 a0_0, .int .i64 a0_1, .int .i64 a0_2, .int .i64 a0_3, .int .i64 a0_4, .int .i64 a0_5, .int .i64 a0_6, .int .i64 a0_7, .int .i64 a0_8, .int .i64 a0_9, .int .i64 a0_10, .int .i64 a0_11] 23 ?_; intro g0_ hg w6 hbox hb; have B0_ := mk (hbox); have W0_ := gl hg zq; have E0_ := gl hg zq; replace HB := mk (below_step zq hb); clear hb hbox hg))
 replace B0_ := mk (blk_drew B0_.1)
 replace HB := mk (below_drew1 HB.1)
 refine start_ (n := 11) (S := fun w' => w'.cell? ⟨g0_, 0, none⟩ = some (.int .i64 a0_0) ∧ w'.cell? ⟨g0_, 1, none⟩ = some (.int .i64 a0_1) ∧ w'.cell? ⟨g0_, 2, none⟩ = some (.int .i64 a0_2) ∧ w'.cell? ⟨g0_, 3, none⟩ = some (.int .i64 a0_3) ∧ w'.cell? ⟨g0_, 4, none⟩ = some (.int .i64 a0_4) ∧ w'.cell? ⟨g0_, 5, none⟩ = some (.int .i64 a0_5) ∧ w'.cell? ⟨g0_, 6, none⟩ = some (.int .i64 a0_6) ∧ w'.cell? ⟨g0_, 7, none⟩ = some (.int .i64 a0_7) ∧ w'.cell? ⟨g0_, 8, none⟩ = some (.int .i64 a0_8) ∧ w'.cell? ⟨g0_, 9, none⟩ = some (.int .i64 a0_9) ∧ w'.cell? ⟨g0_, 10, none⟩ = some (.int .i64 a0_10) ∧ w'.cell? ⟨g0_, 11, none⟩ = some (.int .i64 a0_11)) (ds := []) (bs 11 0) (by kernel_rfl) rfl rfl (c12 B0_.1) (fun hHeld => ?_); refine with_tabW health_Far.tab1 health_Far.bits1 (fun HT_ HW_ => ?_)
 generalize w6.drew = w7 at B0_ HB hHeld ⊢
 refine pt HT_ 1 6 2 ?_
 refine pt HT_ 2 7 6 ?_
 refine pt HT_ 6 11 70 ?_
 refine tb HT_ HW_ 0 5 71 hHeld ?_
 refine tb HT_ HW_ 3 8 79 hHeld ?_
 refine tb HT_ HW_ 7 12 207 hHeld ?_
 refine one_ (i := 4) (N := some 9) (bs 11 223) rfl rfl (one_of HT_.1 (by kernel_rfl)) (by decide) (fun K hK => ?_)
 refine Kd.R_lit_step (Kd.int .i64) _ 3 ?hg (N := 9) ?hd (xs := ([a1, a0_9] : List Int)) (inner := [.int .i64 a1, .int .i64 a0_9]) (ok := fun _ => True) (okp := fun _ => True) ?hr ?hp (fun _ hk => hk) trivial (Below.refl _ _) (Nat.le_refl _) (by simp) ?_; (case hd => rfl); (case hg => rfl); (case hr => first | (go_simp; done) | (go_simp; rfl)); (case hp => exact (Reps.one (show Kd.M (Kd.int .i64) _ _ _ a1 [.int .i64 a1] from rfl) (Reps.one (show Kd.M (Kd.int .i64) _ _ _ a0_9 [.int .i64 a0_9] from rfl) (Reps.none _ _))))
 intro v157 w8 ho9 hb hg_ hnew_
 clear hg_ hnew_
 (first | rw [← Ny156.1] at ho9 | (simp only [Int.reduceToNat] at ho9; rw [← Ny156.1] at ho9))
 have HO158 := mk (Kd.R_lower ho9 (below_size zq))
 have n1_ := bb hb B0_.1
 have n2_ := mk (below_step zq hb)
 clear B0_ HB
 have B0_ := n1_
 have HB := n2_
 clear n1_ n2_ hb ho9
 obtain ⟨Ao10, co10, eo10⟩ := Kd.R_slice HO158.1
 (first | subst eo10 | (injection eo10 with f1_ f2_ f3_; have f4_ := f1_.symm; have f5_ := f3_.symm; clear f1_ f2_ f3_; subst f4_; subst f5_))
 refine hK.out _ _ (c12 B0_.1) (fun hHeld => ?_)
 clear hK K
 refine nm 9 ?_
 refine one_ (i := 5) (N := some 10) (bs 11 255) rfl rfl (one_of HT_.1 (by kernel_rfl)) (by decide) (fun K hK => ?_)
 refine goes_ Tryd.func56 (by kernel_rfl) rfl #[.slice Ao10 y156.length co10] (by rfl) rfl rfl (by (try simp only [List.map_toArray, List.map_cons, List.map_nil]); first | done | rfl | (simp only [List.length_drop, List.length_take]; rfl)) ?_
 with_reducible refine (sat_Max.calls k _ _ y156 t159 _ ?side1 ?side2 A3.1).mono ?_
 (case side1 => repeat (first | exact (Kd.R_reads' HO158.1).2.2 | (with_reducible refine Kd.C_alloc ?_ _) | (with_reducible refine Kd.C_drewN ?_ _) | (with_reducible refine Kd.C_drew ?_)))
 (case side2 => exact (Kd.R_reads' HO158.1).2.1)
 rintro e w11 ⟨rfl, hb⟩
 refine ⟨_, rfl, ?_⟩
 replace HO158 := mk (Kd.R_below (by (with_reducible repeat (first | apply Kd.R_alloc | apply Kd.R_drewN | apply Kd.R_drew)); exact HO158.1) hb)
 replace B0_ := bb hb B0_.1
 replace HB := mk (below_step zq hb)
 (try clear hb)
 (try clear hb2)
 (try clear hk)
 (try clear hi)
 refine hK.out _ _ (c12 B0_.1) (fun hHeld => ?_)
 clear hK K
 refine nm 10 ?_
 refine one_ (i := 8) (N := some 13) (bs 11 511) rfl rfl (one_of HT_.1 (by kernel_rfl)) (by decide) (fun K hK => ?_)
 refine goes_ Tryd.func55 (by kernel_rfl) rfl #[.agg #[.int .i64 a0_0, .int .i64 a0_1, .int .i64 a0_2, .int .i64 a0_3, .int .i64 a0_4, .int .i64 a0_5, .int .i64 a0_6, .int .i64 a0_7, .int .i64 a0_8, .int .i64 a0_9, .int .i64 a0_10, .int .i64 a0_11], .int .i64 t159, .int .i64 a0_2] (by rfl) rfl rfl (by (try simp only [List.map_toArray, List.map_cons, List.map_nil]); first | done | rfl | (simp only [List.length_drop, List.length_take]; rfl)) ?_
 with_reducible refine (limit_Width.calls k a0_0 a0_1 a0_2 a0_3 a0_4 a0_5 a0_6 a0_7 a0_8 a0_9 a0_10 a0_11 t159 a0_2 t160 _ A4.1).mono ?_
 rintro e w12 ⟨rfl, hb⟩
 refine ⟨_, rfl, ?_⟩
 replace HO158 := mk (Kd.R_below (by (with_reducible repeat (first | apply Kd.R_alloc | apply Kd.R_drewN | apply Kd.R_drew)); exact HO158.1) hb)
 replace B0_ := bb hb B0_.1
 replace HB := mk (below_step zq hb)
 (try clear hb)
 (try clear hb2)
 (try clear hk)
 (try clear hi)
 refine hK.out _ _ (c12 B0_.1) (fun hHeld => ?_)
 clear hK K
 refine nm 13 ?_
 refine one_ (i := 9) (N := some 14) (bs 11 1023) rfl rfl (one_of HT_.1 (by kernel_rfl)) (by decide) (fun K hK => ?_)
 refine goes_ Tryd.func54 (by kernel_rfl) rfl #[.int .i64 2, .int .i64 t160] (by rfl) rfl rfl (by (try simp only [List.map_toArray, List.map_cons, List.map_nil]); first | done | rfl | (simp only [List.length_drop, List.length_take]; rfl)) ?_
 with_reducible refine (sat_Mul.calls k 2 t160 t161 _ A5.1).mono ?_
 rintro e w' ⟨rfl, ⟨nd, rfl⟩⟩
 refine ⟨_, rfl, ?_⟩
 refine hK.out _ _ (c12 B0_.1) (fun hHeld => ?_)
 clear hK K
 refine nm 14 ?_
 refine pt HT_ 10 4 2047 ?_
 refine done_ (done_of HT_.1 (by kernel_rfl)) ?_
 try go_wp2
 go_ret
 exact ⟨by first | rfl | (simp [errW_none, errW_some] <;> rfl) | (simp [*, errW_none, errW_some] <;> rfl), by repeat (first | (with_reducible first | exact HB.1 | apply bA | apply pD | apply b1 | apply bS E0_.1) | exact HB.1)⟩

-- NOT PRINTED: function 30 (health_Front_most)

/-! ### span_Mid: function 31 -/
def span_Mid.f (k : Nat) (a0_0 : Int) (a0_1 : Int) : Option (Int) := (sat_Clip.f k a0_0).bind fun t168 => ((sat_Clip.f k a0_1).bind fun t169 => (some ((wrap64 (t168 + t169)) / 2)))
theorem span_Mid.mono : ∀ a0 a1 k, LeO (span_Mid.f k a0 a1) (span_Mid.f (k + 1) a0 a1) := by
 intro a0 a1 k
 unfold span_Mid.f
 repeat' first
   | (with_reducible exact sat_Clip.mono _ _)
   | (with_reducible exact LeO.refl _)
   | (with_reducible exact LeO.none _)
   | (with_reducible refine LeO.ite ?_ ?_)
   | (with_reducible refine LeO.bind ?_ (fun _ => ?_))
   | exact sat_Clip.mono _ _
   | exact LeO.none _
   | refine LeO.ite ?_ ?_
   | refine LeO.bind ?_ (fun _ => ?_)
set_option maxHeartbeats 8000000 in
set_option maxRecDepth 100000 in
theorem span_Mid.calls (k : Nat) (a0_0 : Int) (a0_1 : Int) (r : Int) (w : World) (h : span_Mid.f k a0_0 a0_1 = some r) :
  Calls Tryd.prog 31 #[.agg #[.int .i64 a0_0, .int .i64 a0_1]] w fun e w' => e = .returned (.int .i64 r) ∧ Below w.heap.size w w' := by
 have hu25 := Tryd.underlying25
 have HB := mk (Below.refl w.heap.size w)
 have H : ((sat_Clip.f k a0_0).bind fun t168 => ((sat_Clip.f k a0_1).bind fun t169 => (some ((wrap64 (t168 + t169)) / 2)))) = some r := h
 clear h
 replace H := Option.bind_eq_some_iff.mp H
 obtain ⟨t168, A20, H⟩ := H
 replace H : ((sat_Clip.f k a0_1).bind fun t169 => (some ((wrap64 (t168 + t169)) / 2))) = some r := H
 have A2 := mk A20
 clear A20
 replace H := Option.bind_eq_some_iff.mp H
 obtain ⟨t169, A30, H⟩ := H
 replace H : (some ((wrap64 (t168 + t169)) / 2)) = some r := H
 have A3 := mk A30
 clear A30
 obtain rfl := Option.some.inj H
 go_enter Tryd.func31, Tryd.ntmps31
 go_wp2_with (first | ((with_reducible refine gate_dst (N := 1) rfl ?_); refine bx 1 #[.int .i64 a0_0, .int .i64 a0_1] 25 ?_; intro g0_ hg w4 hbox hb; have B0_ := mk (hbox); have W0_ := gl hg zq; have E0_ := gl hg zq; replace HB := mk (below_step zq hb); clear hb hbox hg; obtain ⟨hcz5_0, hcz5_1⟩ := cc2 B0_.1; obtain ⟨hfz5_0, hfz5_1⟩ := cf2 B0_.1) | (go_at_call 40; (with_reducible refine (sat_Clip.calls k a0_0 t168 _ A2.1).mono ?_); rintro e w' ⟨rfl, ⟨nd, rfl⟩⟩; (try first | exact ⟨rfl, _, World.drewN_drewN _ _ _⟩ | exact ⟨rfl, _, Eq.trans (World.drewN_drewN _ _ _) (congrArg (World.drewN _) (Nat.add_assoc _ _ _))⟩)) | (go_at_call 40; (with_reducible refine (sat_Clip.calls k a0_1 t169 _ A3.1).mono ?_); rintro e w' ⟨rfl, ⟨nd, rfl⟩⟩; (try first | exact ⟨rfl, _, World.drewN_drewN _ _ _⟩ | exact ⟨rfl, _, Eq.trans (World.drewN_drewN _ _ _) (congrArg (World.drewN _) (Nat.add_assoc _ _ _))⟩)))
 repeat (go_quiet (first | ((with_reducible refine gate_dst (N := 1) rfl ?_); refine bx 1 #[.int .i64 a0_0, .int .i64 a0_1] 25 ?_; intro g0_ hg w4 hbox hb; have B0_ := mk (hbox); have W0_ := gl hg zq; have E0_ := gl hg zq; replace HB := mk (below_step zq hb); clear hb hbox hg; obtain ⟨hcz5_0, hcz5_1⟩ := cc2 B0_.1; obtain ⟨hfz5_0, hfz5_1⟩ := cf2 B0_.1) | (go_at_call 40; (with_reducible refine (sat_Clip.calls k a0_0 t168 _ A2.1).mono ?_); rintro e w' ⟨rfl, ⟨nd, rfl⟩⟩; (try first | exact ⟨rfl, _, World.drewN_drewN _ _ _⟩ | exact ⟨rfl, _, Eq.trans (World.drewN_drewN _ _ _) (congrArg (World.drewN _) (Nat.add_assoc _ _ _))⟩)) | (go_at_call 40; (with_reducible refine (sat_Clip.calls k a0_1 t169 _ A3.1).mono ?_); rintro e w' ⟨rfl, ⟨nd, rfl⟩⟩; (try first | exact ⟨rfl, _, World.drewN_drewN _ _ _⟩ | exact ⟨rfl, _, Eq.trans (World.drewN_drewN _ _ _) (congrArg (World.drewN _) (Nat.add_assoc _ _ _))⟩))); try go_wp2_with (first | ((with_reducible refine gate_dst (N := 1) rfl ?_); refine bx 1 #[.int .i64 a0_0, .int .i64 a0_1] 25 ?_; intro g0_ hg w4 hbox hb; have B0_ := mk (hbox); have W0_ := gl hg zq; have E0_ := gl hg zq; replace HB := mk (below_step zq hb); clear hb hbox hg; obtain ⟨hcz5_0, hcz5_1⟩ := cc2 B0_.1; obtain ⟨hfz5_0, hfz5_1⟩ := cf2 B0_.1) | (go_at_call 40; (with_reducible refine (sat_Clip.calls k a0_0 t168 _ A2.1).mono ?_); rintro e w' ⟨rfl, ⟨nd, rfl⟩⟩; (try first | exact ⟨rfl, _, World.drewN_drewN _ _ _⟩ | exact ⟨rfl, _, Eq.trans (World.drewN_drewN _ _ _) (congrArg (World.drewN _) (Nat.add_assoc _ _ _))⟩)) | (go_at_call 40; (with_reducible refine (sat_Clip.calls k a0_1 t169 _ A3.1).mono ?_); rintro e w' ⟨rfl, ⟨nd, rfl⟩⟩; (try first | exact ⟨rfl, _, World.drewN_drewN _ _ _⟩ | exact ⟨rfl, _, Eq.trans (World.drewN_drewN _ _ _) (congrArg (World.drewN _) (Nat.add_assoc _ _ _))⟩))))
 go_ret
 exact ⟨by first | rfl | (simp [errW_none, errW_some] <;> rfl) | (simp [*, errW_none, errW_some] <;> rfl), by repeat (first | (with_reducible first | exact HB.1 | apply bA | apply pD | apply b1 | apply bS E0_.1) | exact HB.1)⟩

/-! ### sat_Sub: function 33 -/
def sat_Sub.f (k : Nat) (a0 : Int) (a1 : Int) : Option (Int) := (sat_Clip.f k a0).bind fun t170 => ((sat_Clip.f k a1).bind fun t171 => ((sat_Clip.f k (wrap64 (t170 - t171))).bind fun t172 => (some t172)))
theorem sat_Sub.mono : ∀ a0 a1 k, LeO (sat_Sub.f k a0 a1) (sat_Sub.f (k + 1) a0 a1) := by
 intro a0 a1 k
 unfold sat_Sub.f
 repeat' first
   | (with_reducible exact sat_Clip.mono _ _)
   | (with_reducible exact LeO.refl _)
   | (with_reducible exact LeO.none _)
   | (with_reducible refine LeO.ite ?_ ?_)
   | (with_reducible refine LeO.bind ?_ (fun _ => ?_))
   | exact sat_Clip.mono _ _
   | exact LeO.none _
   | refine LeO.ite ?_ ?_
   | refine LeO.bind ?_ (fun _ => ?_)
set_option maxHeartbeats 8000000 in
set_option maxRecDepth 100000 in
theorem sat_Sub.calls (k : Nat) (a0 : Int) (a1 : Int) (r : Int) (w : World) (h : sat_Sub.f k a0 a1 = some r) :
  Calls Tryd.prog 33 #[.int .i64 a0, .int .i64 a1] w fun e w' => e = .returned (.int .i64 r) ∧ Drawn0 w w' := by
 have H : ((sat_Clip.f k a0).bind fun t170 => ((sat_Clip.f k a1).bind fun t171 => ((sat_Clip.f k (wrap64 (t170 - t171))).bind fun t172 => (some t172)))) = some r := h
 clear h
 replace H := Option.bind_eq_some_iff.mp H
 obtain ⟨t170, A30, H⟩ := H
 replace H : ((sat_Clip.f k a1).bind fun t171 => ((sat_Clip.f k (wrap64 (t170 - t171))).bind fun t172 => (some t172))) = some r := H
 have A3 := Aside0.mk A30
 clear A30
 replace H := Option.bind_eq_some_iff.mp H
 obtain ⟨t171, A40, H⟩ := H
 replace H : ((sat_Clip.f k (wrap64 (t170 - t171))).bind fun t172 => (some t172)) = some r := H
 have A4 := Aside0.mk A40
 clear A40
 replace H := Option.bind_eq_some_iff.mp H
 obtain ⟨t172, A50, H⟩ := H
 replace H : (some t172) = some r := H
 have A5 := Aside0.mk A50
 clear A50
 obtain rfl := Option.some.inj H
 go_enter Tryd.func33, Tryd.ntmps33
 go_wp2_with (first | ((with_reducible refine gate_callee (f := 40) rfl ?_); refine goesL_ (some 6) rfl rfl Tryd.func40 (by kernel_rfl) rfl #[.int .i64 a0] rfl (by (try simp only [List.map_toArray, List.map_cons, List.map_nil]); first | done | rfl | (simp only [List.length_drop, List.length_take]; rfl)) ?_; (with_reducible refine (sat_Clip.calls k a0 t170 _ A3.out).mono ?_); rintro e w' ⟨rfl, ⟨nd, rfl⟩⟩; refine ⟨_, rfl, ?_⟩) | ((with_reducible refine gate_callee (f := 40) rfl ?_); refine goesL_ (some 8) rfl rfl Tryd.func40 (by kernel_rfl) rfl #[.int .i64 a1] rfl (by (try simp only [List.map_toArray, List.map_cons, List.map_nil]); first | done | rfl | (simp only [List.length_drop, List.length_take]; rfl)) ?_; (with_reducible refine (sat_Clip.calls k a1 t171 _ A4.out).mono ?_); rintro e w' ⟨rfl, ⟨nd, rfl⟩⟩; refine ⟨_, rfl, ?_⟩) | ((with_reducible refine gate_callee (f := 40) rfl ?_); refine goesL_ (some 10) rfl rfl Tryd.func40 (by kernel_rfl) rfl #[.int .i64 (wrap64 (t170 - t171))] rfl (by (try simp only [List.map_toArray, List.map_cons, List.map_nil]); first | done | rfl | (simp only [List.length_drop, List.length_take]; rfl)) ?_; (with_reducible refine (sat_Clip.calls k (wrap64 (t170 - t171)) t172 _ A5.out).mono ?_); rintro e w' ⟨rfl, ⟨nd, rfl⟩⟩; refine ⟨_, rfl, ?_⟩))
 go_ret
 exact ⟨by first | rfl | (simp; done) | (simp [*]; done) | (simp [Int.tdiv_eq_ediv_of_nonneg]; done) | (simp [Go.RowKit.wrap64]; done) | (simp [*, Go.RowKit.wrap64]; done), by repeat (first | exact Drawn0.refl _ | apply Drawn0.step)⟩

end Go.Proofs.YtigkjbaclpklpaaDoor.Q
