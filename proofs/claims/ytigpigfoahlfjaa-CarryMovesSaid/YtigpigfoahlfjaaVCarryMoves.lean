/- Hold, Way, Ticks and Ages answer what the reference answers, for all numbers. -/
import Derived.Test.YtigpigfoahlfjaaQx16
import Derived.OpenShut
set_option linter.unusedVariables false
set_option linter.unusedSimpArgs false
namespace Go.Proofs.Ytigpigfoahlfjaa.VCarryMoves
open Go.RowKit Go.Proofs.Ytigpigfoahlfjaa.Q Go.Proofs.YtigpigfoahlfjaaW.PrintWords Go.Proofs.YtigpigfoahlfjaaW.PrintLast Go.Proofs.YtigpigfoahlfjaaW.PrintMore

theorem wb {n : Int} (h : (Lit.int .i64 n).wf = true) : -9223372036854775808 ≤ n ∧ n ≤ 9223372036854775807 := Go.bounds_i64 h
theorem w64 {n : Int} (h1 : -9223372036854775808 ≤ n) (h2 : n ≤ 9223372036854775807) : wrap64 n = n := by unfold wrap64; omega
def clp (x : Int) : Int := if x < -2305843009213693952 then -2305843009213693952 else if 2305843009213693952 < x then 2305843009213693952 else x
theorem clp_b (x : Int) : -2305843009213693952 ≤ clp x ∧ clp x ≤ 2305843009213693952 := by unfold clp; split <;> (try split) <;> omega
theorem clp_id {x : Int} (h1 : -2305843009213693952 ≤ x) (h2 : x ≤ 2305843009213693952) : clp x = x := by unfold clp; rw [if_neg (by omega), if_neg (by omega)]
theorem clp_neg (x : Int) : clp (-x) = -clp x := by unfold clp; split <;> (try split) <;> (try split) <;> (try split) <;> omega
def bnd (x lo hi : Int) : Int := if x < lo ∨ hi < lo then lo else if hi < x then hi else x
def addL (l : List Int) : Int := l.foldl (fun n x => clp (n + clp x)) 0
def sub (a b : Int) : Int := clp (clp a - clp b)
def absC (a : Int) : Int := if a < 0 then -clp a else clp a
theorem absC_b (x : Int) : 0 ≤ absC x ∧ absC x ≤ 2305843009213693952 := by have := clp_b x; unfold absC; unfold clp at *; split <;> omega
theorem add2 (a b : Int) : addL [a, b] = clp (clp a + clp b) := by
  have h := clp_b a
  simp only [addL, List.foldl_cons, List.foldl_nil, Int.zero_add]
  rw [clp_id h.1 h.2]
theorem add3 (a b c : Int) : addL [a, b, c] = clp (clp (clp a + clp b) + clp c) := by
  have h := clp_b a
  simp only [addL, List.foldl_cons, List.foldl_nil, Int.zero_add]
  rw [clp_id h.1 h.2]
theorem rd_drop {l : List Int} {i : Int} (h0 : 0 ≤ i) (h1 : i < (l.length : Int)) : l.drop i.toNat = rd l i :: l.drop (i + 1).toNat := by
  have h : i.toNat < l.length := by omega
  rw [List.drop_eq_getElem_cons h, show (i + 1).toNat = i.toNat + 1 from by omega]
  congr 1
  simp [rd, List.getD_eq_getElem?_getD, List.getElem?_eq_getElem h]
def mulC (a b : Int) : Int := clp (clp a * clp b)
theorem mulC_b (a b : Int) : -2305843009213693952 ≤ mulC a b ∧ mulC a b ≤ 2305843009213693952 := clp_b _
theorem sub_b (a b : Int) : -2305843009213693952 ≤ sub a b ∧ sub a b ≤ 2305843009213693952 := clp_b _
theorem addL_b (l : List Int) : -2305843009213693952 ≤ addL l ∧ addL l ≤ 2305843009213693952 := by
  unfold addL
  suffices h : ∀ (l : List Int) (n : Int), -2305843009213693952 ≤ n → n ≤ 2305843009213693952 → -2305843009213693952 ≤ l.foldl (fun n x => clp (n + clp x)) n ∧ l.foldl (fun n x => clp (n + clp x)) n ≤ 2305843009213693952 from h l 0 (by omega) (by omega)
  intro l
  induction l with
  | nil => intro n h1 h2; exact ⟨h1, h2⟩
  | cons x l ih => intro n _ _; exact ih _ (clp_b _).1 (clp_b _).2

theorem bound_eq {k : Nat} (x lo hi : Int) (hk : 0 < k) : sat_Bound.f k x lo hi = some (bnd x lo hi) := by
  obtain ⟨k, rfl⟩ : ∃ m, k = m + 1 := ⟨k - 1, by omega⟩
  unfold sat_Bound.f bnd
  simp only [sat_Bound.j0]
  by_cases h1 : x < lo
  · simp [h1]
  · by_cases h2 : hi < lo
    · simp [h1, h2]
    · simp only [h1, h2, if_false, false_or, decide_false, if_neg]
      by_cases h3 : hi < x
      · simp [h3]
      · simp [h3]
theorem clip_eq {k : Nat} (x : Int) (hk : 0 < k) : sat_Clip.f k x = some (clp x) := by
  unfold sat_Clip.f
  rw [bound_eq x _ _ hk]
  simp only [Option.bind_some, bnd, clp]
  congr 1
  split <;> split <;> (try split) <;> omega

theorem neg_eq {k : Nat} (x : Int) (hk : 0 < k) : sat_Neg.f k x = some (-clp x) := by
  have h := clp_b x
  unfold sat_Neg.f
  rw [clip_eq x hk, Option.bind_some, w64 (by omega) (by omega)]

theorem add_l0 (l : List Int) (hl : l.length ≤ 4611686018427387904) (d : Nat) : ∀ (k : Nat) (n i : Int), -2305843009213693952 ≤ n → n ≤ 2305843009213693952 → 0 ≤ i → i ≤ l.length → (l.length : Int) - i = d → d + 1 < k →
    sat_Add.l0 k n l (l.length : Int) i = some ((l.drop i.toNat).foldl (fun n x => clp (n + clp x)) n) := by
  induction d with
  | zero =>
    intro k n i _ _ h0 h1 hd hk
    obtain ⟨k, rfl⟩ : ∃ m, k = m + 1 := ⟨k - 1, by omega⟩
    simp only [sat_Add.l0]
    rw [if_neg (by omega), List.drop_eq_nil_of_le (by omega)]
    rfl
  | succ d ih =>
    intro k n i n1 n2 h0 h1 hd hk
    obtain ⟨k, rfl⟩ : ∃ m, k = m + 1 := ⟨k - 1, by omega⟩
    have hlt : i < (l.length : Int) := by omega
    have hc := clp_b (rd l i)
    have hs := clp_b (n + clp (rd l i))
    simp only [sat_Add.l0]
    rw [if_pos hlt, if_pos h0, if_pos hlt, clip_eq _ (by omega), Option.bind_some, w64 (n := n + clp (rd l i)) (by omega) (by omega), clip_eq _ (by omega), Option.bind_some, w64 (n := i + 1) (by omega) (by omega)]
    rw [ih k _ (i + 1) hs.1 hs.2 (by omega) (by omega) (by omega) (by omega), rd_drop h0 hlt]
    rfl
theorem add_eq {k : Nat} (l : List Int) (hl : l.length ≤ 4611686018427387904) (hk : l.length + 1 < k) : sat_Add.f k l = some (addL l) := by
  unfold sat_Add.f
  rw [add_l0 l hl l.length k 0 0 (by omega) (by omega) (by omega) (by omega) (by omega) hk]
  rfl

theorem sub_eq {k : Nat} (a b : Int) (hk : 0 < k) : sat_Sub.f k a b = some (sub a b) := by
  have h := clp_b a
  have h' := clp_b b
  unfold sat_Sub.f sub
  rw [clip_eq a hk, Option.bind_some, clip_eq b hk, Option.bind_some, w64 (by omega) (by omega), clip_eq _ hk, Option.bind_some]

theorem shift_eq {k : Nat} (a b lo hi : Int) (hk : 10 < k) : span_Shift.f k a b lo hi = some (addL [a, lo], addL [b, hi]) := by
  unfold span_Shift.f
  rw [add_eq [a, lo] (by simp) (by simp; omega), Option.bind_some, add_eq [b, hi] (by simp) (by simp; omega), Option.bind_some]

theorem hold_eq {k : Nat} (p0 p1 p2 p3 rho p5 p6 p7 p8 p9 p10 p11 s0 s1 t : Int) (hk : 10 < k) : carry_Hold.f k p0 p1 p2 p3 rho p5 p6 p7 p8 p9 p10 p11 s0 s1 t = some (addL [s0, sub t rho], addL [s1, addL [t, rho]]) := by
  unfold carry_Hold.f
  rw [sub_eq t rho (by omega), Option.bind_some, add_eq [t, rho] (by simp) (by simp; omega), Option.bind_some, shift_eq _ _ _ _ hk, Option.bind_some]
theorem way_eq {k : Nat} (p0 p1 p2 p3 rho delay jit p7 p8 p9 p10 p11 s0 s1 age : Int) (hk : 10 < k) : carry_Way.f k p0 p1 p2 p3 rho delay jit p7 p8 p9 p10 p11 s0 s1 age = some (addL [s0, addL [sub delay jit, age, -clp rho]], addL [s1, addL [delay, age, rho]]) := by
  unfold carry_Way.f
  rw [sub_eq _ _ (by omega), Option.bind_some, neg_eq _ (by omega), Option.bind_some, add_eq [_, _, _] (by simp) (by simp; omega), Option.bind_some, add_eq [_, _, _] (by simp) (by simp; omega), Option.bind_some, shift_eq _ _ _ _ hk, Option.bind_some]
theorem ages_eq {k : Nat} (p0 p1 p2 beat rho delay jit p7 p8 p9 p10 p11 : Int) (hk : 10 < k) : carry_Ages.f k p0 p1 p2 beat rho delay jit p7 p8 p9 p10 p11 = some (sub (sub beat delay) rho, addL [sub beat delay, jit, rho]) := by
  unfold carry_Ages.f
  rw [sub_eq _ _ (by omega), Option.bind_some, sub_eq _ _ (by omega), Option.bind_some, add_eq [_, _, _] (by simp) (by simp; omega), Option.bind_some]
theorem calive_eq {k : Nat} (hk : 10 < k) : clepsydralaw11_alive.f k = some true := by
  unfold clepsydralaw11_alive.f clepsydralaw11_some.f
  rw [Option.bind_some, hold_eq _ _ _ _ _ _ _ _ _ _ _ _ _ _ _ hk, Option.bind_some, if_pos (by decide), Option.bind_some, way_eq _ _ _ _ _ _ _ _ _ _ _ _ _ _ _ hk, Option.bind_some, if_pos (by decide), Option.bind_some, ages_eq _ _ _ _ _ _ _ _ _ _ _ _ hk, Option.bind_some]
  decide

theorem ticks_eq {k : Nat} (p0 p1 p2 beat rho p5 p6 p7 p8 p9 p10 p11 : Int) (hk : 10 < k) : carry_Ticks.f k p0 p1 p2 beat rho p5 p6 p7 p8 p9 p10 p11 = some (sub beat rho, addL [beat, rho]) := by
  unfold carry_Ticks.f
  rw [sub_eq _ _ (by omega), Option.bind_some, add_eq [_, _] (by simp) (by simp; omega), Option.bind_some]

theorem rclip_eq (x : Int) : clepsydraref01_Clip.f x = some (clp x) := by
  unfold clepsydraref01_Clip.f clp
  by_cases h1 : x > 2305843009213693952
  · rw [if_pos h1, if_neg (by omega), if_pos (by omega)]
  · rw [if_neg h1]
    by_cases h2 : x < -2305843009213693952
    · rw [if_pos h2, if_pos h2]
    · rw [if_neg h2, if_neg h2, if_neg (by omega)]

theorem radd_l0 (l : List Int) (hl : l.length ≤ 4611686018427387904) (d : Nat) : ∀ (k : Nat) (n i : Int), -2305843009213693952 ≤ n → n ≤ 2305843009213693952 → 0 ≤ i → i ≤ l.length → (l.length : Int) - i = d → d < k →
    clepsydraref01_Add.l0 k n l (l.length : Int) i = some ((l.drop i.toNat).foldl (fun n x => clp (n + clp x)) n) := by
  induction d with
  | zero =>
    intro k n i _ _ h0 h1 hd hk
    obtain ⟨k, rfl⟩ : ∃ m, k = m + 1 := ⟨k - 1, by omega⟩
    simp only [clepsydraref01_Add.l0]
    rw [if_neg (by omega), List.drop_eq_nil_of_le (by omega)]
    rfl
  | succ d ih =>
    intro k n i n1 n2 h0 h1 hd hk
    obtain ⟨k, rfl⟩ : ∃ m, k = m + 1 := ⟨k - 1, by omega⟩
    have hlt : i < (l.length : Int) := by omega
    have hc := clp_b (rd l i)
    have hs := clp_b (n + clp (rd l i))
    simp only [clepsydraref01_Add.l0]
    rw [if_pos hlt, if_pos h0, if_pos hlt, rclip_eq _, Option.bind_some, w64 (n := n + clp (rd l i)) (by omega) (by omega), rclip_eq _, Option.bind_some, w64 (n := i + 1) (by omega) (by omega)]
    rw [ih k _ (i + 1) hs.1 hs.2 (by omega) (by omega) (by omega) (by omega), rd_drop h0 hlt]
    rfl
theorem radd_eq {k : Nat} (l : List Int) (hl : l.length ≤ 4611686018427387904) (hk : l.length + 1 < k) : clepsydraref01_Add.f k l = some (addL l) := by
  unfold clepsydraref01_Add.f
  rw [radd_l0 l hl l.length k 0 0 (by omega) (by omega) (by omega) (by omega) (by omega) (by omega)]
  rfl

theorem rsub_eq (a b : Int) : clepsydraref01_Sub.f a b = some (sub a b) := by
  have h := clp_b a
  have h' := clp_b b
  unfold clepsydraref01_Sub.f sub
  rw [rclip_eq a, Option.bind_some, rclip_eq b, Option.bind_some, w64 (by omega) (by omega), rclip_eq _, Option.bind_some]

/-- The pure statement of the law. -/
def Pure : Prop := ∀ (a0_0 : Int) (a0_1 : Int) (a0_2 : Int) (a0_3 : Int) (a0_4 : Int) (a0_5 : Int) (a0_6 : Int) (a0_7 : Int) (a0_8 : Int) (a0_9 : Int) (a0_10 : Int) (a0_11 : Int) (a1_0 : Int) (a1_1 : Int) (a2 : Int), (Lit.int .i64 a0_0).wf = true → (Lit.int .i64 a0_1).wf = true → (Lit.int .i64 a0_2).wf = true → (Lit.int .i64 a0_3).wf = true → (Lit.int .i64 a0_4).wf = true → (Lit.int .i64 a0_5).wf = true → (Lit.int .i64 a0_6).wf = true → (Lit.int .i64 a0_7).wf = true → (Lit.int .i64 a0_8).wf = true → (Lit.int .i64 a0_9).wf = true → (Lit.int .i64 a0_10).wf = true → (Lit.int .i64 a0_11).wf = true → (Lit.int .i64 a1_0).wf = true → (Lit.int .i64 a1_1).wf = true → (Lit.int .i64 a2).wf = true → ∃ k, clepsydralaw11_CarryMoves.f k a0_0 a0_1 a0_2 a0_3 a0_4 a0_5 a0_6 a0_7 a0_8 a0_9 a0_10 a0_11 a1_0 a1_1 a2 = some true

theorem rshift_eq {k : Nat} (a b lo hi : Int) (hk : 10 < k) : clepsydraref03_Shift.f k a b lo hi = some (addL [a, lo], addL [b, hi]) := by
  unfold clepsydraref03_Shift.f
  rw [radd_eq [a, lo] (by simp) (by simp; omega), Option.bind_some, radd_eq [b, hi] (by simp) (by simp; omega), Option.bind_some]
theorem CarryMoves : Pure := by
  intro p0 p1 p2 beat rho delay jit p7 p8 p9 p10 p11 s0 s1 n _ _ _ _ _ _ _ _ _ _ _ _ _ _ _
  refine ⟨20, ?_⟩
  have hc := clp_b rho
  unfold clepsydralaw11_CarryMoves.f
  rw [calive_eq (by omega), Option.bind_some, if_pos rfl, hold_eq _ _ _ _ _ _ _ _ _ _ _ _ _ _ _ (by omega), Option.bind_some]
  unfold clepsydraref11_Hold.f
  rw [rsub_eq, Option.bind_some, radd_eq [_, _] (by simp) (by simp), Option.bind_some, rshift_eq _ _ _ _ (by omega), Option.bind_some, Option.bind_some, if_pos (by simp), way_eq _ _ _ _ _ _ _ _ _ _ _ _ _ _ _ (by omega), Option.bind_some]
  unfold clepsydraref11_Way.f
  rw [rsub_eq, Option.bind_some, rclip_eq, Option.bind_some, w64 (by omega) (by omega), radd_eq [_, _, _] (by simp) (by simp), Option.bind_some, radd_eq [_, _, _] (by simp) (by simp), Option.bind_some, rshift_eq _ _ _ _ (by omega), Option.bind_some, Option.bind_some, if_pos (by simp), ticks_eq _ _ _ _ _ _ _ _ _ _ _ _ (by omega), Option.bind_some]
  unfold clepsydraref11_Ticks.f
  rw [rsub_eq, Option.bind_some, radd_eq [_, _] (by simp) (by simp), Option.bind_some, Option.bind_some, if_pos (by simp), ages_eq _ _ _ _ _ _ _ _ _ _ _ _ (by omega), Option.bind_some]
  unfold clepsydraref11_Ages.f
  rw [rsub_eq, Option.bind_some, rsub_eq, Option.bind_some, radd_eq [_, _, _] (by simp) (by simp), Option.bind_some, Option.bind_some]
  simp

end Go.Proofs.Ytigpigfoahlfjaa.VCarryMoves
