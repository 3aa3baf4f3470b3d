/- What was within a span is within it behind a beat, and behind a way, too; for ends and ticks not beyond 2 to the 58. -/
import Derived.Test.YtigpigfoahlfjaaQx10
import Derived.OpenShut
set_option linter.unusedVariables false
set_option linter.unusedSimpArgs false
namespace Go.Proofs.Ytigpigfoahlfjaa.VCarryWithin
open Go.RowKit Go.Proofs.Ytigpigfoahlfjaa.Q Go.Proofs.YtigpigfoahlfjaaW.PrintWords Go.Proofs.YtigpigfoahlfjaaW.PrintLast Go.Proofs.YtigpigfoahlfjaaW.PrintMore

theorem wb {n : Int} (h : (Lit.int .i64 n).wf = true) : -9223372036854775808 ≤ n ∧ n ≤ 9223372036854775807 := Go.bounds_i64 h
theorem w64 {n : Int} (h1 : -9223372036854775808 ≤ n) (h2 : n ≤ 9223372036854775807) : wrap64 n = n := by unfold wrap64; omega
def clp (x : Int) : Int := if x < -2305843009213693952 then -2305843009213693952 else if 2305843009213693952 < x then 2305843009213693952 else x
theorem clp_b (x : Int) : -2305843009213693952 ≤ clp x ∧ clp x ≤ 2305843009213693952 := by unfold clp; split <;> (try split) <;> omega
theorem clp_id {x : Int} (h1 : -2305843009213693952 ≤ x) (h2 : x ≤ 2305843009213693952) : clp x = x := by unfold clp; rw [if_neg (by omega), if_neg (by omega)]
theorem clp_neg (x : Int) : clp (-x) = -clp x := by unfold clp; split <;> (try split) <;> (try split) <;> (try split) <;> omega
def bnd (x lo hi : Int) : Int := if x < lo ∨ hi < lo then lo else if hi < x then hi else x
def addL (l : List Int) : Int := l.foldl (fun n x => clp (n + clp x)) 0
def sub (a b : Int) : Int := clp (clp a - clp b)
def absC (a : Int) : Int := if a < 0 then -clp a else clp a
theorem absC_b (x : Int) : 0 ≤ absC x ∧ absC x ≤ 2305843009213693952 := by have := clp_b x; unfold absC; unfold clp at *; split <;> omega
theorem add2 (a b : Int) : addL [a, b] = clp (clp a + clp b) := by
  have h := clp_b a
  simp only [addL, List.foldl_cons, List.foldl_nil, Int.zero_add]
  rw [clp_id h.1 h.2]
theorem add3 (a b c : Int) : addL [a, b, c] = clp (clp (clp a + clp b) + clp c) := by
  have h := clp_b a
  simp only [addL, List.foldl_cons, List.foldl_nil, Int.zero_add]
  rw [clp_id h.1 h.2]
theorem rd_drop {l : List Int} {i : Int} (h0 : 0 ≤ i) (h1 : i < (l.length : Int)) : l.drop i.toNat = rd l i :: l.drop (i + 1).toNat := by
  have h : i.toNat < l.length := by omega
  rw [List.drop_eq_getElem_cons h, show (i + 1).toNat = i.toNat + 1 from by omega]
  congr 1
  simp [rd, List.getD_eq_getElem?_getD, List.getElem?_eq_getElem h]
def mulC (a b : Int) : Int := clp (clp a * clp b)
theorem mulC_b (a b : Int) : -2305843009213693952 ≤ mulC a b ∧ mulC a b ≤ 2305843009213693952 := clp_b _
theorem sub_b (a b : Int) : -2305843009213693952 ≤ sub a b ∧ sub a b ≤ 2305843009213693952 := clp_b _
theorem addL_b (l : List Int) : -2305843009213693952 ≤ addL l ∧ addL l ≤ 2305843009213693952 := by
  unfold addL
  suffices h : ∀ (l : List Int) (n : Int), -2305843009213693952 ≤ n → n ≤ 2305843009213693952 → -2305843009213693952 ≤ l.foldl (fun n x => clp (n + clp x)) n ∧ l.foldl (fun n x => clp (n + clp x)) n ≤ 2305843009213693952 from h l 0 (by omega) (by omega)
  intro l
  induction l with
  | nil => intro n h1 h2; exact ⟨h1, h2⟩
  | cons x l ih => intro n _ _; exact ih _ (clp_b _).1 (clp_b _).2

theorem clp_le {x y : Int} (h : x ≤ y) (h2 : -2305843009213693952 ≤ y) : clp x ≤ y := by unfold clp; repeat' split
                                                                                         all_goals omega
theorem le_clp {x y : Int} (h : y ≤ x) (h2 : y ≤ 2305843009213693952) : y ≤ clp x := by unfold clp; repeat' split
                                                                                        all_goals omega
theorem clp_mono {x y : Int} (h : x ≤ y) : clp x ≤ clp y := by unfold clp; repeat' split
                                                               all_goals omega
theorem sub_small {a b : Int} (h1 : -2305843009213693952 ≤ a) (h2 : a ≤ 2305843009213693952) (h3 : -2305843009213693952 ≤ b) (h4 : b ≤ 2305843009213693952) (h5 : -2305843009213693952 ≤ a - b) (h6 : a - b ≤ 2305843009213693952) : sub a b = a - b := by
  unfold sub; rw [clp_id h1 h2, clp_id h3 h4, clp_id h5 h6]
theorem add2_small {a b : Int} (h1 : -2305843009213693952 ≤ a) (h2 : a ≤ 2305843009213693952) (h3 : -2305843009213693952 ≤ b) (h4 : b ≤ 2305843009213693952) (h5 : -2305843009213693952 ≤ a + b) (h6 : a + b ≤ 2305843009213693952) : addL [a, b] = a + b := by
  rw [add2, clp_id h1 h2, clp_id h3 h4, clp_id h5 h6]
theorem add3_small {a b c : Int} (h1 : -2305843009213693952 ≤ a) (h2 : a ≤ 2305843009213693952) (h3 : -2305843009213693952 ≤ b) (h4 : b ≤ 2305843009213693952) (h5 : -2305843009213693952 ≤ c) (h6 : c ≤ 2305843009213693952) (h7 : -2305843009213693952 ≤ a + b) (h8 : a + b ≤ 2305843009213693952) (h9 : -2305843009213693952 ≤ a + b + c) (h10 : a + b + c ≤ 2305843009213693952) : addL [a, b, c] = a + b + c := by
  rw [add3, clp_id h1 h2, clp_id h3 h4, clp_id h7 h8, clp_id h5 h6, clp_id h9 h10]

theorem bound_eq {k : Nat} (x lo hi : Int) (hk : 0 < k) : sat_Bound.f k x lo hi = some (bnd x lo hi) := by
  obtain ⟨k, rfl⟩ : ∃ m, k = m + 1 := ⟨k - 1, by omega⟩
  unfold sat_Bound.f bnd
  simp only [sat_Bound.j0]
  by_cases h1 : x < lo
  · simp [h1]
  · by_cases h2 : hi < lo
    · simp [h1, h2]
    · simp only [h1, h2, if_false, false_or, decide_false, if_neg]
      by_cases h3 : hi < x
      · simp [h3]
      · simp [h3]
theorem clip_eq {k : Nat} (x : Int) (hk : 0 < k) : sat_Clip.f k x = some (clp x) := by
  unfold sat_Clip.f
  rw [bound_eq x _ _ hk]
  simp only [Option.bind_some, bnd, clp]
  congr 1
  split <;> split <;> (try split) <;> omega

theorem neg_eq {k : Nat} (x : Int) (hk : 0 < k) : sat_Neg.f k x = some (-clp x) := by
  have h := clp_b x
  unfold sat_Neg.f
  rw [clip_eq x hk, Option.bind_some, w64 (by omega) (by omega)]

theorem add_l0 (l : List Int) (hl : l.length ≤ 4611686018427387904) (d : Nat) : ∀ (k : Nat) (n i : Int), -2305843009213693952 ≤ n → n ≤ 2305843009213693952 → 0 ≤ i → i ≤ l.length → (l.length : Int) - i = d → d + 1 < k →
    sat_Add.l0 k n l (l.length : Int) i = some ((l.drop i.toNat).foldl (fun n x => clp (n + clp x)) n) := by
  induction d with
  | zero =>
    intro k n i _ _ h0 h1 hd hk
    obtain ⟨k, rfl⟩ : ∃ m, k = m + 1 := ⟨k - 1, by omega⟩
    simp only [sat_Add.l0]
    rw [if_neg (by omega), List.drop_eq_nil_of_le (by omega)]
    rfl
  | succ d ih =>
    intro k n i n1 n2 h0 h1 hd hk
    obtain ⟨k, rfl⟩ : ∃ m, k = m + 1 := ⟨k - 1, by omega⟩
    have hlt : i < (l.length : Int) := by omega
    have hc := clp_b (rd l i)
    have hs := clp_b (n + clp (rd l i))
    simp only [sat_Add.l0]
    rw [if_pos hlt, if_pos h0, if_pos hlt, clip_eq _ (by omega), Option.bind_some, w64 (n := n + clp (rd l i)) (by omega) (by omega), clip_eq _ (by omega), Option.bind_some, w64 (n := i + 1) (by omega) (by omega)]
    rw [ih k _ (i + 1) hs.1 hs.2 (by omega) (by omega) (by omega) (by omega), rd_drop h0 hlt]
    rfl
theorem add_eq {k : Nat} (l : List Int) (hl : l.length ≤ 4611686018427387904) (hk : l.length + 1 < k) : sat_Add.f k l = some (addL l) := by
  unfold sat_Add.f
  rw [add_l0 l hl l.length k 0 0 (by omega) (by omega) (by omega) (by omega) (by omega) hk]
  rfl

theorem sub_eq {k : Nat} (a b : Int) (hk : 0 < k) : sat_Sub.f k a b = some (sub a b) := by
  have h := clp_b a
  have h' := clp_b b
  unfold sat_Sub.f sub
  rw [clip_eq a hk, Option.bind_some, clip_eq b hk, Option.bind_some, w64 (by omega) (by omega), clip_eq _ hk, Option.bind_some]

theorem shift_eq {k : Nat} (a b lo hi : Int) (hk : 10 < k) : span_Shift.f k a b lo hi = some (addL [a, lo], addL [b, hi]) := by
  unfold span_Shift.f
  rw [add_eq [a, lo] (by simp) (by simp; omega), Option.bind_some, add_eq [b, hi] (by simp) (by simp; omega), Option.bind_some]

theorem in_eq (x lo hi : Int) : limit_in.f x lo hi = some (decide (lo ≤ x) && decide (x ≤ hi)) := by
  unfold limit_in.f
  by_cases h : lo ≤ x
  · rw [if_pos h, decide_eq_true h]; rfl
  · rw [if_neg h, decide_eq_false h]; rfl
def okN (n f d : Int) : Bool := (decide (1 ≤ n) && decide (n ≤ 16)) && ((decide (0 ≤ f) && decide (f ≤ wrap64 (Int.tdiv (wrap64 (n - 1)) 3))) && (decide (0 ≤ d) && decide (d ≤ 16)))
def okW (beat rho delay jit : Int) : Bool := (decide (1 ≤ beat) && decide (beat ≤ 1099511627776)) && ((decide (0 ≤ rho) && decide (rho ≤ wrap64 (Int.tdiv beat 8))) && ((decide (0 ≤ delay) && decide (delay ≤ wrap64 (Int.tdiv beat 2))) && (decide (0 ≤ jit) && decide (jit ≤ delay))))
def okR (d beat rho eps mu hold pulse sec : Int) : Bool := (decide (0 ≤ eps) && decide (eps ≤ 1099511627776)) && ((decide (wrap64 (rho + 1) ≤ mu) && decide (mu ≤ wrap64 (Int.tdiv beat 4))) && ((decide (wrap64 (d + 2) ≤ hold) && decide (hold ≤ 1048576)) && ((decide (1 ≤ pulse) && decide (pulse ≤ 1099511627776)) && (decide (1 ≤ sec) && decide (sec ≤ 1099511627776)))))
theorem check_eq {k : Nat} (n f d beat rho delay jit eps mu hold pulse sec : Int) (hk : 2 < k) :
    limit_Check.f k n f d beat rho delay jit eps mu hold pulse sec = some (if (okN n f d && (okW beat rho delay jit && okR d beat rho eps mu hold pulse sec)) = true then 0 else 1) := by
  obtain ⟨k, rfl⟩ : ∃ m, k = m + 2 := ⟨k - 2, by omega⟩
  have j1 : ∀ a b : Bool, limit_Check.j1 (k + 1) a b n f d beat rho delay jit eps mu hold pulse sec = some (if (a && (b && okR d beat rho eps mu hold pulse sec)) = true then 0 else 1) := by
    intro a b
    simp only [limit_Check.j1, in_eq, Option.bind_some]
    unfold okR
    generalize (decide (0 ≤ eps) && decide (eps ≤ 1099511627776)) = b1
    generalize (decide (wrap64 (rho + 1) ≤ mu) && decide (mu ≤ wrap64 (Int.tdiv beat 4))) = b2
    generalize (decide (wrap64 (d + 2) ≤ hold) && decide (hold ≤ 1048576)) = b3
    generalize (decide (1 ≤ pulse) && decide (pulse ≤ 1099511627776)) = b4
    generalize (decide (1 ≤ sec) && decide (sec ≤ 1099511627776)) = b5
    cases a <;> cases b <;> cases b1 <;> cases b2 <;> cases b3 <;> cases b4 <;> cases b5 <;> rfl
  have j0 : ∀ a : Bool, limit_Check.j0 (k + 2) a n f d beat rho delay jit eps mu hold pulse sec = some (if (a && (okW beat rho delay jit && okR d beat rho eps mu hold pulse sec)) = true then 0 else 1) := by
    intro a
    simp only [limit_Check.j0, in_eq, Option.bind_some, j1]
    unfold okW
    generalize (decide (1 ≤ beat) && decide (beat ≤ 1099511627776)) = b1
    generalize (decide (0 ≤ rho) && decide (rho ≤ wrap64 (Int.tdiv beat 8))) = b2
    generalize (decide (0 ≤ delay) && decide (delay ≤ wrap64 (Int.tdiv beat 2))) = b3
    generalize (decide (0 ≤ jit) && decide (jit ≤ delay)) = b4
    generalize okR d beat rho eps mu hold pulse sec = r
    cases a <;> cases b1 <;> cases b2 <;> cases b3 <;> cases b4 <;> cases r <;> rfl
  unfold limit_Check.f
  simp only [in_eq, Option.bind_some, j0]
  unfold okN
  generalize (decide (1 ≤ n) && decide (n ≤ 16)) = b1
  generalize (decide (0 ≤ f) && decide (f ≤ wrap64 (Int.tdiv (wrap64 (n - 1)) 3))) = b2
  generalize (decide (0 ≤ d) && decide (d ≤ 16)) = b3
  generalize (okW beat rho delay jit && okR d beat rho eps mu hold pulse sec) = r
  cases b1 <;> cases b2 <;> cases b3 <;> cases r <;> rfl
structure Ok (n f d beat rho delay jit eps mu hold pulse sec : Int) : Prop where
  n1 : 1 ≤ n
  n2 : n ≤ 16
  f1 : 0 ≤ f
  f2 : 3 * f + 1 ≤ n
  d1 : 0 ≤ d
  d2 : d ≤ 16
  b1 : 1 ≤ beat
  b2 : beat ≤ 1099511627776
  r1 : 0 ≤ rho
  r2 : 8 * rho ≤ beat
  y1 : 0 ≤ delay
  y2 : 2 * delay ≤ beat
  j1 : 0 ≤ jit
  j2 : jit ≤ delay
  e1 : 0 ≤ eps
  e2 : eps ≤ 1099511627776
  m1 : rho + 1 ≤ mu
  m2 : 4 * mu ≤ beat
  h1 : d + 2 ≤ hold
  h2 : hold ≤ 1048576
  p1 : 1 ≤ pulse
  p2 : pulse ≤ 1099511627776
  s1 : 1 ≤ sec
  s2 : sec ≤ 1099511627776
theorem ok_of {n f d beat rho delay jit eps mu hold pulse sec : Int} (h : (okN n f d && (okW beat rho delay jit && okR d beat rho eps mu hold pulse sec)) = true) : Ok n f d beat rho delay jit eps mu hold pulse sec := by
  simp only [okN, okW, okR, Bool.and_eq_true, decide_eq_true_eq] at h
  obtain ⟨⟨⟨a1, a2⟩, ⟨a3, a4⟩, a5, a6⟩, ⟨⟨c1, c2⟩, ⟨c3, c4⟩, ⟨c5, c6⟩, c7, c8⟩, ⟨g1, g2⟩, ⟨g3, g4⟩, ⟨g5, g6⟩, ⟨g7, g8⟩, g9, g10⟩ := h
  have t1 : Int.tdiv (wrap64 (n - 1)) 3 = (n - 1) / 3 := by rw [w64 (by omega) (by omega), Int.tdiv_eq_ediv_of_nonneg (by omega)]
  have t2 : Int.tdiv beat 8 = beat / 8 := Int.tdiv_eq_ediv_of_nonneg (by omega)
  have t3 : Int.tdiv beat 2 = beat / 2 := Int.tdiv_eq_ediv_of_nonneg (by omega)
  have t4 : Int.tdiv beat 4 = beat / 4 := Int.tdiv_eq_ediv_of_nonneg (by omega)
  rw [t1, w64 (by omega) (by omega)] at a4
  rw [t2, w64 (by omega) (by omega)] at c4
  rw [t3, w64 (by omega) (by omega)] at c6
  rw [w64 (by omega) (by omega)] at g3
  rw [t4, w64 (by omega) (by omega)] at g4
  rw [w64 (by omega) (by omega)] at g5
  exact ⟨a1, a2, a3, by omega, a5, a6, c1, c2, c3, by omega, c5, by omega, c7, c8, g1, g2, g3, by omega, g5, g6, g7, g8, g9, g10⟩
theorem check_cases {k : Nat} (n f d beat rho delay jit eps mu hold pulse sec : Int) (hk : 2 < k) :
    (limit_Check.f k n f d beat rho delay jit eps mu hold pulse sec = some 0 ∧ Ok n f d beat rho delay jit eps mu hold pulse sec) ∨ limit_Check.f k n f d beat rho delay jit eps mu hold pulse sec = some 1 := by
  rw [check_eq _ _ _ _ _ _ _ _ _ _ _ _ hk]
  by_cases h : (okN n f d && (okW beat rho delay jit && okR d beat rho eps mu hold pulse sec)) = true
  · exact .inl ⟨by rw [if_pos h], ok_of h⟩
  · exact .inr (by rw [if_neg h])

theorem hold_eq {k : Nat} (p0 p1 p2 p3 rho p5 p6 p7 p8 p9 p10 p11 s0 s1 t : Int) (hk : 10 < k) : carry_Hold.f k p0 p1 p2 p3 rho p5 p6 p7 p8 p9 p10 p11 s0 s1 t = some (addL [s0, sub t rho], addL [s1, addL [t, rho]]) := by
  unfold carry_Hold.f
  rw [sub_eq t rho (by omega), Option.bind_some, add_eq [t, rho] (by simp) (by simp; omega), Option.bind_some, shift_eq _ _ _ _ hk, Option.bind_some]
theorem way_eq {k : Nat} (p0 p1 p2 p3 rho delay jit p7 p8 p9 p10 p11 s0 s1 age : Int) (hk : 10 < k) : carry_Way.f k p0 p1 p2 p3 rho delay jit p7 p8 p9 p10 p11 s0 s1 age = some (addL [s0, addL [sub delay jit, age, -clp rho]], addL [s1, addL [delay, age, rho]]) := by
  unfold carry_Way.f
  rw [sub_eq _ _ (by omega), Option.bind_some, neg_eq _ (by omega), Option.bind_some, add_eq [_, _, _] (by simp) (by simp; omega), Option.bind_some, add_eq [_, _, _] (by simp) (by simp; omega), Option.bind_some, shift_eq _ _ _ _ hk, Option.bind_some]
theorem ages_eq {k : Nat} (p0 p1 p2 beat rho delay jit p7 p8 p9 p10 p11 : Int) (hk : 10 < k) : carry_Ages.f k p0 p1 p2 beat rho delay jit p7 p8 p9 p10 p11 = some (sub (sub beat delay) rho, addL [sub beat delay, jit, rho]) := by
  unfold carry_Ages.f
  rw [sub_eq _ _ (by omega), Option.bind_some, sub_eq _ _ (by omega), Option.bind_some, add_eq [_, _, _] (by simp) (by simp; omega), Option.bind_some]
theorem calive_eq {k : Nat} (hk : 10 < k) : clepsydralaw11_alive.f k = some true := by
  unfold clepsydralaw11_alive.f clepsydralaw11_some.f
  rw [Option.bind_some, hold_eq _ _ _ _ _ _ _ _ _ _ _ _ _ _ _ hk, Option.bind_some, if_pos (by decide), Option.bind_some, way_eq _ _ _ _ _ _ _ _ _ _ _ _ _ _ _ hk, Option.bind_some, if_pos (by decide), Option.bind_some, ages_eq _ _ _ _ _ _ _ _ _ _ _ _ hk, Option.bind_some]
  decide

/-- The pure statement of the law. -/
def Pure : Prop := ∀ (a0_0 : Int) (a0_1 : Int) (a0_2 : Int) (a0_3 : Int) (a0_4 : Int) (a0_5 : Int) (a0_6 : Int) (a0_7 : Int) (a0_8 : Int) (a0_9 : Int) (a0_10 : Int) (a0_11 : Int) (a1_0 : Int) (a1_1 : Int) (a2 : Int) (a3 : Int) (a4 : Int), (Lit.int .i64 a0_0).wf = true → (Lit.int .i64 a0_1).wf = true → (Lit.int .i64 a0_2).wf = true → (Lit.int .i64 a0_3).wf = true → (Lit.int .i64 a0_4).wf = true → (Lit.int .i64 a0_5).wf = true → (Lit.int .i64 a0_6).wf = true → (Lit.int .i64 a0_7).wf = true → (Lit.int .i64 a0_8).wf = true → (Lit.int .i64 a0_9).wf = true → (Lit.int .i64 a0_10).wf = true → (Lit.int .i64 a0_11).wf = true → (Lit.int .i64 a1_0).wf = true → (Lit.int .i64 a1_1).wf = true → (Lit.int .i64 a2).wf = true → (Lit.int .i64 a3).wf = true → (Lit.int .i64 a4).wf = true → ∃ k, clepsydralaw11_CarryWithin.f k a0_0 a0_1 a0_2 a0_3 a0_4 a0_5 a0_6 a0_7 a0_8 a0_9 a0_10 a0_11 a1_0 a1_1 a2 a3 a4 = some true

theorem within_in {less more n s0 s1 : Int} (p0 p1 p2 beat rho delay jit eps mu hold pulse sec : Int) (o : Ok p0 p1 p2 beat rho delay jit eps mu hold pulse sec) (h1 : 0 ≤ less) (h2 : 0 ≤ more) (h3 : less ≤ 288230376151711744) (h4 : more ≤ 288230376151711744) :
    clepsydralaw11_CarryWithin.j0 20 less more n false p0 p1 p2 beat rho delay jit eps mu hold pulse sec s0 s1 = some true := by
  have o1 := o.b1
  have o2 := o.b2
  have o3 := o.r1
  have o4 := o.r2
  have o5 := o.y1
  have o6 := o.y2
  have o7 := o.j1
  have o8 := o.j2
  simp only [clepsydralaw11_CarryWithin.j0, Bool.false_eq_true, if_false]
  by_cases g1 : s0 > 288230376151711744
  · rw [if_pos g1]
  rw [if_neg g1]
  by_cases g2 : s0 < -288230376151711744
  · rw [if_pos g2]
  rw [if_neg g2]
  by_cases g3 : s1 > 288230376151711744
  · rw [if_pos g3]
  rw [if_neg g3]
  by_cases g4 : s1 < -288230376151711744
  · rw [if_pos g4]
  rw [if_neg g4]
  by_cases g5 : n > 288230376151711744
  · rw [if_pos g5]
  rw [if_neg g5]
  by_cases g6 : n < -288230376151711744
  · rw [if_pos g6]
  rw [if_neg g6, w64 (n := s0 - less) (by omega) (by omega), w64 (n := s1 + more) (by omega) (by omega), hold_eq _ _ _ _ _ _ _ _ _ _ _ _ _ _ _ (by omega), Option.bind_some, hold_eq _ _ _ _ _ _ _ _ _ _ _ _ _ _ _ (by omega), Option.bind_some, way_eq _ _ _ _ _ _ _ _ _ _ _ _ _ _ _ (by omega), Option.bind_some, way_eq _ _ _ _ _ _ _ _ _ _ _ _ _ _ _ (by omega), Option.bind_some]
  simp only []
  rw [sub_small (a := n) (b := rho) (by omega) (by omega) (by omega) (by omega) (by omega) (by omega), add2_small (a := n) (b := rho) (by omega) (by omega) (by omega) (by omega) (by omega) (by omega), add2_small (a := s0) (b := n - rho) (by omega) (by omega) (by omega) (by omega) (by omega) (by omega), add2_small (a := s1) (b := n + rho) (by omega) (by omega) (by omega) (by omega) (by omega) (by omega), add2_small (a := s0 - less) (b := n - rho) (by omega) (by omega) (by omega) (by omega) (by omega) (by omega), add2_small (a := s1 + more) (b := n + rho) (by omega) (by omega) (by omega) (by omega) (by omega) (by omega)]
  rw [sub_small (a := delay) (b := jit) (by omega) (by omega) (by omega) (by omega) (by omega) (by omega), clp_id (x := rho) (by omega) (by omega), add3_small (a := delay - jit) (b := n) (c := -rho) (by omega) (by omega) (by omega) (by omega) (by omega) (by omega) (by omega) (by omega) (by omega) (by omega), add3_small (a := delay) (b := n) (c := rho) (by omega) (by omega) (by omega) (by omega) (by omega) (by omega) (by omega) (by omega) (by omega) (by omega)]
  rw [add2_small (a := s0) (b := delay - jit + n + -rho) (by omega) (by omega) (by omega) (by omega) (by omega) (by omega), add2_small (a := s1) (b := delay + n + rho) (by omega) (by omega) (by omega) (by omega) (by omega) (by omega), add2_small (a := s0 - less) (b := delay - jit + n + -rho) (by omega) (by omega) (by omega) (by omega) (by omega) (by omega), add2_small (a := s1 + more) (b := delay + n + rho) (by omega) (by omega) (by omega) (by omega) (by omega) (by omega)]
  rw [if_pos (by omega), if_pos (by omega), if_pos (by omega), decide_eq_true (by omega)]
theorem CarryWithin : Pure := by
  intro p0 p1 p2 beat rho delay jit eps mu hold pulse sec s0 s1 less more n b0 b1 b2 b3 b4 b5 b6 b7 b8 b9 b10 b11 b12 b13 b14 b15 b16
  refine ⟨20, ?_⟩
  unfold clepsydralaw11_CarryWithin.f
  rw [calive_eq (by omega), Option.bind_some, if_pos rfl]
  have t : clepsydralaw11_CarryWithin.j0 20 less more n true p0 p1 p2 beat rho delay jit eps mu hold pulse sec s0 s1 = some true := by simp [clepsydralaw11_CarryWithin.j0]
  rcases check_cases (k := 20) p0 p1 p2 beat rho delay jit eps mu hold pulse sec (by omega) with ⟨hc, o⟩ | hc
  · rw [hc, Option.bind_some, if_pos rfl]
    by_cases h1 : less < 0
    · rw [if_pos h1, t]
    rw [if_neg h1]
    by_cases h2 : more < 0
    · rw [if_pos h2, t]
    rw [if_neg h2]
    by_cases h3 : less > 288230376151711744
    · rw [if_pos h3, t]
    rw [if_neg h3]
    by_cases h4 : more > 288230376151711744
    · rw [decide_eq_true h4, t]
    rw [decide_eq_false h4]
    exact within_in _ _ _ _ _ _ _ _ _ _ _ _ o (by omega) (by omega) (by omega) (by omega)
  · rw [hc, Option.bind_some, if_neg (by decide), t]

end Go.Proofs.Ytigpigfoahlfjaa.VCarryWithin
