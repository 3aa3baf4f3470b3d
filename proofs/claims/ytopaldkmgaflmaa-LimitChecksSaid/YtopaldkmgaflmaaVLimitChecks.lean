/- Check answers what the reference answers, for all numbers. -/
import Derived.Test.YtopaldkmgaflmaaQx5
import Derived.OpenShut
set_option linter.unusedVariables false
set_option linter.unusedSimpArgs false
namespace Go.Proofs.Ytopaldkmgaflmaa.VLimitChecks
open Go.RowKit Go.Proofs.Ytopaldkmgaflmaa.Q Go.Proofs.YtopaldkmgaflmaaW.PrintWords Go.Proofs.YtopaldkmgaflmaaW.PrintLast Go.Proofs.YtopaldkmgaflmaaW.PrintMore

theorem wb {n : Int} (h : (Lit.int .i64 n).wf = true) : -9223372036854775808 ≤ n ∧ n ≤ 9223372036854775807 := Go.bounds_i64 h
theorem w64 {n : Int} (h1 : -9223372036854775808 ≤ n) (h2 : n ≤ 9223372036854775807) : wrap64 n = n := by unfold wrap64; omega
def clp (x : Int) : Int := if x < -2305843009213693952 then -2305843009213693952 else if 2305843009213693952 < x then 2305843009213693952 else x
theorem clp_b (x : Int) : -2305843009213693952 ≤ clp x ∧ clp x ≤ 2305843009213693952 := by unfold clp; split <;> (try split) <;> omega
theorem clp_id {x : Int} (h1 : -2305843009213693952 ≤ x) (h2 : x ≤ 2305843009213693952) : clp x = x := by unfold clp; rw [if_neg (by omega), if_neg (by omega)]
theorem clp_neg (x : Int) : clp (-x) = -clp x := by unfold clp; split <;> (try split) <;> (try split) <;> (try split) <;> omega
def bnd (x lo hi : Int) : Int := if x < lo ∨ hi < lo then lo else if hi < x then hi else x
def addL (l : List Int) : Int := l.foldl (fun n x => clp (n + clp x)) 0
def sub (a b : Int) : Int := clp (clp a - clp b)
def absC (a : Int) : Int := if a < 0 then -clp a else clp a
theorem absC_b (x : Int) : 0 ≤ absC x ∧ absC x ≤ 2305843009213693952 := by have := clp_b x; unfold absC; unfold clp at *; split <;> omega
theorem add2 (a b : Int) : addL [a, b] = clp (clp a + clp b) := by
  have h := clp_b a
  simp only [addL, List.foldl_cons, List.foldl_nil, Int.zero_add]
  rw [clp_id h.1 h.2]
theorem add3 (a b c : Int) : addL [a, b, c] = clp (clp (clp a + clp b) + clp c) := by
  have h := clp_b a
  simp only [addL, List.foldl_cons, List.foldl_nil, Int.zero_add]
  rw [clp_id h.1 h.2]
theorem rd_drop {l : List Int} {i : Int} (h0 : 0 ≤ i) (h1 : i < (l.length : Int)) : l.drop i.toNat = rd l i :: l.drop (i + 1).toNat := by
  have h : i.toNat < l.length := by omega
  rw [List.drop_eq_getElem_cons h, show (i + 1).toNat = i.toNat + 1 from by omega]
  congr 1
  simp [rd, List.getD_eq_getElem?_getD, List.getElem?_eq_getElem h]
def mulC (a b : Int) : Int := clp (clp a * clp b)
theorem mulC_b (a b : Int) : -2305843009213693952 ≤ mulC a b ∧ mulC a b ≤ 2305843009213693952 := clp_b _
theorem sub_b (a b : Int) : -2305843009213693952 ≤ sub a b ∧ sub a b ≤ 2305843009213693952 := clp_b _
theorem addL_b (l : List Int) : -2305843009213693952 ≤ addL l ∧ addL l ≤ 2305843009213693952 := by
  unfold addL
  suffices h : ∀ (l : List Int) (n : Int), -2305843009213693952 ≤ n → n ≤ 2305843009213693952 → -2305843009213693952 ≤ l.foldl (fun n x => clp (n + clp x)) n ∧ l.foldl (fun n x => clp (n + clp x)) n ≤ 2305843009213693952 from h l 0 (by omega) (by omega)
  intro l
  induction l with
  | nil => intro n h1 h2; exact ⟨h1, h2⟩
  | cons x l ih => intro n _ _; exact ih _ (clp_b _).1 (clp_b _).2

theorem in_eq (x lo hi : Int) : limit_in.f x lo hi = some (decide (lo ≤ x) && decide (x ≤ hi)) := by
  unfold limit_in.f
  by_cases h : lo ≤ x
  · rw [if_pos h, decide_eq_true h]; rfl
  · rw [if_neg h, decide_eq_false h]; rfl
def okN (n f d : Int) : Bool := (decide (1 ≤ n) && decide (n ≤ 16)) && ((decide (0 ≤ f) && decide (f ≤ wrap64 (Int.tdiv (wrap64 (n - 1)) 3))) && (decide (0 ≤ d) && decide (d ≤ 16)))
def okW (beat rho delay jit : Int) : Bool := (decide (1 ≤ beat) && decide (beat ≤ 1099511627776)) && ((decide (0 ≤ rho) && decide (rho ≤ wrap64 (Int.tdiv beat 8))) && ((decide (0 ≤ delay) && decide (delay ≤ wrap64 (Int.tdiv beat 2))) && (decide (0 ≤ jit) && decide (jit ≤ delay))))
def okR (d beat rho eps mu hold pulse sec : Int) : Bool := (decide (0 ≤ eps) && decide (eps ≤ 1099511627776)) && ((decide (wrap64 (rho + 1) ≤ mu) && decide (mu ≤ wrap64 (Int.tdiv beat 4))) && ((decide (wrap64 (d + 2) ≤ hold) && decide (hold ≤ 1048576)) && ((decide (1 ≤ pulse) && decide (pulse ≤ 1099511627776)) && (decide (1 ≤ sec) && decide (sec ≤ 1099511627776)))))
theorem check_eq {k : Nat} (n f d beat rho delay jit eps mu hold pulse sec : Int) (hk : 2 < k) :
    limit_Check.f k n f d beat rho delay jit eps mu hold pulse sec = some (if (okN n f d && (okW beat rho delay jit && okR d beat rho eps mu hold pulse sec)) = true then 0 else 1) := by
  obtain ⟨k, rfl⟩ : ∃ m, k = m + 2 := ⟨k - 2, by omega⟩
  have j1 : ∀ a b : Bool, limit_Check.j1 (k + 1) a b n f d beat rho delay jit eps mu hold pulse sec = some (if (a && (b && okR d beat rho eps mu hold pulse sec)) = true then 0 else 1) := by
    intro a b
    simp only [limit_Check.j1, in_eq, Option.bind_some]
    unfold okR
    generalize (decide (0 ≤ eps) && decide (eps ≤ 1099511627776)) = b1
    generalize (decide (wrap64 (rho + 1) ≤ mu) && decide (mu ≤ wrap64 (Int.tdiv beat 4))) = b2
    generalize (decide (wrap64 (d + 2) ≤ hold) && decide (hold ≤ 1048576)) = b3
    generalize (decide (1 ≤ pulse) && decide (pulse ≤ 1099511627776)) = b4
    generalize (decide (1 ≤ sec) && decide (sec ≤ 1099511627776)) = b5
    cases a <;> cases b <;> cases b1 <;> cases b2 <;> cases b3 <;> cases b4 <;> cases b5 <;> rfl
  have j0 : ∀ a : Bool, limit_Check.j0 (k + 2) a n f d beat rho delay jit eps mu hold pulse sec = some (if (a && (okW beat rho delay jit && okR d beat rho eps mu hold pulse sec)) = true then 0 else 1) := by
    intro a
    simp only [limit_Check.j0, in_eq, Option.bind_some, j1]
    unfold okW
    generalize (decide (1 ≤ beat) && decide (beat ≤ 1099511627776)) = b1
    generalize (decide (0 ≤ rho) && decide (rho ≤ wrap64 (Int.tdiv beat 8))) = b2
    generalize (decide (0 ≤ delay) && decide (delay ≤ wrap64 (Int.tdiv beat 2))) = b3
    generalize (decide (0 ≤ jit) && decide (jit ≤ delay)) = b4
    generalize okR d beat rho eps mu hold pulse sec = r
    cases a <;> cases b1 <;> cases b2 <;> cases b3 <;> cases b4 <;> cases r <;> rfl
  unfold limit_Check.f
  simp only [in_eq, Option.bind_some, j0]
  unfold okN
  generalize (decide (1 ≤ n) && decide (n ≤ 16)) = b1
  generalize (decide (0 ≤ f) && decide (f ≤ wrap64 (Int.tdiv (wrap64 (n - 1)) 3))) = b2
  generalize (decide (0 ≤ d) && decide (d ≤ 16)) = b3
  generalize (okW beat rho delay jit && okR d beat rho eps mu hold pulse sec) = r
  cases b1 <;> cases b2 <;> cases b3 <;> cases r <;> rfl
structure Ok (n f d beat rho delay jit eps mu hold pulse sec : Int) : Prop where
  n1 : 1 ≤ n
  n2 : n ≤ 16
  f1 : 0 ≤ f
  f2 : 3 * f + 1 ≤ n
  d1 : 0 ≤ d
  d2 : d ≤ 16
  b1 : 1 ≤ beat
  b2 : beat ≤ 1099511627776
  r1 : 0 ≤ rho
  r2 : 8 * rho ≤ beat
  y1 : 0 ≤ delay
  y2 : 2 * delay ≤ beat
  j1 : 0 ≤ jit
  j2 : jit ≤ delay
  e1 : 0 ≤ eps
  e2 : eps ≤ 1099511627776
  m1 : rho + 1 ≤ mu
  m2 : 4 * mu ≤ beat
  h1 : d + 2 ≤ hold
  h2 : hold ≤ 1048576
  p1 : 1 ≤ pulse
  p2 : pulse ≤ 1099511627776
  s1 : 1 ≤ sec
  s2 : sec ≤ 1099511627776
theorem ok_of {n f d beat rho delay jit eps mu hold pulse sec : Int} (h : (okN n f d && (okW beat rho delay jit && okR d beat rho eps mu hold pulse sec)) = true) : Ok n f d beat rho delay jit eps mu hold pulse sec := by
  simp only [okN, okW, okR, Bool.and_eq_true, decide_eq_true_eq] at h
  obtain ⟨⟨⟨a1, a2⟩, ⟨a3, a4⟩, a5, a6⟩, ⟨⟨c1, c2⟩, ⟨c3, c4⟩, ⟨c5, c6⟩, c7, c8⟩, ⟨g1, g2⟩, ⟨g3, g4⟩, ⟨g5, g6⟩, ⟨g7, g8⟩, g9, g10⟩ := h
  have t1 : Int.tdiv (wrap64 (n - 1)) 3 = (n - 1) / 3 := by rw [w64 (by omega) (by omega), Int.tdiv_eq_ediv_of_nonneg (by omega)]
  have t2 : Int.tdiv beat 8 = beat / 8 := Int.tdiv_eq_ediv_of_nonneg (by omega)
  have t3 : Int.tdiv beat 2 = beat / 2 := Int.tdiv_eq_ediv_of_nonneg (by omega)
  have t4 : Int.tdiv beat 4 = beat / 4 := Int.tdiv_eq_ediv_of_nonneg (by omega)
  rw [t1, w64 (by omega) (by omega)] at a4
  rw [t2, w64 (by omega) (by omega)] at c4
  rw [t3, w64 (by omega) (by omega)] at c6
  rw [w64 (by omega) (by omega)] at g3
  rw [t4, w64 (by omega) (by omega)] at g4
  rw [w64 (by omega) (by omega)] at g5
  exact ⟨a1, a2, a3, by omega, a5, a6, c1, c2, c3, by omega, c5, by omega, c7, c8, g1, g2, g3, by omega, g5, g6, g7, g8, g9, g10⟩
theorem check_cases {k : Nat} (n f d beat rho delay jit eps mu hold pulse sec : Int) (hk : 2 < k) :
    (limit_Check.f k n f d beat rho delay jit eps mu hold pulse sec = some 0 ∧ Ok n f d beat rho delay jit eps mu hold pulse sec) ∨ limit_Check.f k n f d beat rho delay jit eps mu hold pulse sec = some 1 := by
  rw [check_eq _ _ _ _ _ _ _ _ _ _ _ _ hk]
  by_cases h : (okN n f d && (okW beat rho delay jit && okR d beat rho eps mu hold pulse sec)) = true
  · exact .inl ⟨by rw [if_pos h], ok_of h⟩
  · exact .inr (by rw [if_neg h])

/-- The pure statement of the law. -/
def Pure : Prop := ∀ (a0_0 : Int) (a0_1 : Int) (a0_2 : Int) (a0_3 : Int) (a0_4 : Int) (a0_5 : Int) (a0_6 : Int) (a0_7 : Int) (a0_8 : Int) (a0_9 : Int) (a0_10 : Int) (a0_11 : Int), (Lit.int .i64 a0_0).wf = true → (Lit.int .i64 a0_1).wf = true → (Lit.int .i64 a0_2).wf = true → (Lit.int .i64 a0_3).wf = true → (Lit.int .i64 a0_4).wf = true → (Lit.int .i64 a0_5).wf = true → (Lit.int .i64 a0_6).wf = true → (Lit.int .i64 a0_7).wf = true → (Lit.int .i64 a0_8).wf = true → (Lit.int .i64 a0_9).wf = true → (Lit.int .i64 a0_10).wf = true → (Lit.int .i64 a0_11).wf = true → ∃ k, clepsydralaw04_LimitChecks.f k a0_0 a0_1 a0_2 a0_3 a0_4 a0_5 a0_6 a0_7 a0_8 a0_9 a0_10 a0_11 = some true

def ref2 (d beat rho eps mu hold pulse sec : Int) : Prop := 0 ≤ eps ∧ eps ≤ 1099511627776 ∧ rho < mu ∧ mu ≤ 1099511627776 ∧ wrap64 (4 * mu) ≤ beat ∧ wrap64 (d + 2) ≤ hold ∧ hold ≤ 1048576 ∧ 1 ≤ pulse ∧ pulse ≤ 1099511627776 ∧ 1 ≤ sec ∧ sec ≤ 1099511627776
def ref1 (beat rho delay jit : Int) : Prop := 1 ≤ beat ∧ beat ≤ 1099511627776 ∧ 0 ≤ rho ∧ rho ≤ 1099511627776 ∧ wrap64 (8 * rho) ≤ beat ∧ 0 ≤ delay ∧ delay ≤ 1099511627776 ∧ wrap64 (2 * delay) ≤ beat ∧ 0 ≤ jit ∧ jit ≤ delay
def ref0 (n f d : Int) : Prop := 1 ≤ n ∧ n ≤ 16 ∧ 0 ≤ f ∧ f ≤ n ∧ wrap64 (wrap64 (3 * f) + 1) ≤ n ∧ 0 ≤ d ∧ d ≤ 16
theorem rj1_eq {k : Nat} (b : Bool) (n f d beat rho delay jit eps mu hold pulse sec : Int) :
    (clepsydraref04_Check.j1 (k + 1) 1099511627776 b n f d beat rho delay jit eps mu hold pulse sec = some 0 ∧ b = false ∧ ref2 d beat rho eps mu hold pulse sec) ∨ (clepsydraref04_Check.j1 (k + 1) 1099511627776 b n f d beat rho delay jit eps mu hold pulse sec = some 1 ∧ ¬ (b = false ∧ ref2 d beat rho eps mu hold pulse sec)) := by
  rw [clepsydraref04_Check.j1]
  unfold ref2
  by_cases c0 : b = true
  · rw [if_pos c0]; exact .inr ⟨rfl, by simp [c0]⟩
  rw [if_neg c0]
  by_cases c1 : eps < 0
  · rw [if_pos c1]; exact .inr ⟨rfl, by omega⟩
  rw [if_neg c1]
  by_cases c2 : eps > 1099511627776
  · rw [if_pos c2]; exact .inr ⟨rfl, by omega⟩
  rw [if_neg c2]
  by_cases c3 : mu ≤ rho
  · rw [if_pos c3]; exact .inr ⟨rfl, by omega⟩
  rw [if_neg c3]
  by_cases c4 : mu > 1099511627776
  · rw [if_pos c4]; exact .inr ⟨rfl, by omega⟩
  rw [if_neg c4]
  by_cases c5 : wrap64 (4 * mu) > beat
  · rw [if_pos c5]; exact .inr ⟨rfl, by omega⟩
  rw [if_neg c5]
  by_cases c6 : hold < wrap64 (d + 2)
  · rw [if_pos c6]; exact .inr ⟨rfl, by omega⟩
  rw [if_neg c6]
  by_cases c7 : hold > 1048576
  · rw [if_pos c7]; exact .inr ⟨rfl, by omega⟩
  rw [if_neg c7]
  by_cases c8 : pulse < 1
  · rw [if_pos c8]; exact .inr ⟨rfl, by omega⟩
  rw [if_neg c8]
  by_cases c9 : pulse > 1099511627776
  · rw [if_pos c9]; exact .inr ⟨rfl, by omega⟩
  rw [if_neg c9]
  by_cases c10 : sec < 1
  · rw [if_pos c10]; exact .inr ⟨rfl, by omega⟩
  rw [if_neg c10]
  by_cases c11 : sec > 1099511627776
  · rw [if_pos c11]; exact .inr ⟨rfl, by omega⟩
  rw [if_neg c11]
  exact .inl ⟨rfl, by simpa using c0, by omega, by omega, by omega, by omega, by omega, by omega, by omega, by omega, by omega, by omega, by omega⟩
theorem rj0_eq {k : Nat} (b : Bool) (n f d beat rho delay jit eps mu hold pulse sec : Int) :
    (clepsydraref04_Check.j0 (k + 2) b n f d beat rho delay jit eps mu hold pulse sec = some 0 ∧ b = false ∧ ref1 beat rho delay jit ∧ ref2 d beat rho eps mu hold pulse sec) ∨ (clepsydraref04_Check.j0 (k + 2) b n f d beat rho delay jit eps mu hold pulse sec = some 1 ∧ ¬ (b = false ∧ ref1 beat rho delay jit ∧ ref2 d beat rho eps mu hold pulse sec)) := by
  have t : clepsydraref04_Check.j1 (k + 1) 1099511627776 true n f d beat rho delay jit eps mu hold pulse sec = some 1 := by
    rcases rj1_eq (k := k) true n f d beat rho delay jit eps mu hold pulse sec with h | h
    · exact absurd h.2.1 (by simp)
    · exact h.1
  rw [clepsydraref04_Check.j0, t]
  by_cases c0 : b = true
  · rw [if_pos c0]; exact .inr ⟨rfl, by simp [c0]⟩
  rw [if_neg c0]
  by_cases c1 : beat < 1
  · rw [if_pos c1]; exact .inr ⟨rfl, by unfold ref1; omega⟩
  rw [if_neg c1]
  by_cases c2 : beat > 1099511627776
  · rw [if_pos c2]; exact .inr ⟨rfl, by unfold ref1; omega⟩
  rw [if_neg c2]
  by_cases c3 : rho < 0
  · rw [if_pos c3]; exact .inr ⟨rfl, by unfold ref1; omega⟩
  rw [if_neg c3]
  by_cases c4 : rho > 1099511627776
  · rw [if_pos c4]; exact .inr ⟨rfl, by unfold ref1; omega⟩
  rw [if_neg c4]
  by_cases c5 : wrap64 (8 * rho) > beat
  · rw [if_pos c5]; exact .inr ⟨rfl, by unfold ref1; omega⟩
  rw [if_neg c5]
  by_cases c6 : delay < 0
  · rw [if_pos c6]; exact .inr ⟨rfl, by unfold ref1; omega⟩
  rw [if_neg c6]
  by_cases c7 : delay > 1099511627776
  · rw [if_pos c7]; exact .inr ⟨rfl, by unfold ref1; omega⟩
  rw [if_neg c7]
  by_cases c8 : wrap64 (2 * delay) > beat
  · rw [if_pos c8]; exact .inr ⟨rfl, by unfold ref1; omega⟩
  rw [if_neg c8]
  by_cases c9 : jit < 0
  · rw [if_pos c9]; exact .inr ⟨rfl, by unfold ref1; omega⟩
  rw [if_neg c9]
  rcases rj1_eq (k := k) (decide (jit > delay)) n f d beat rho delay jit eps mu hold pulse sec with h | h
  · rw [h.1]
    have c10 := of_decide_eq_false h.2.1
    exact .inl ⟨rfl, by simpa using c0, by unfold ref1; omega, h.2.2⟩
  · rw [h.1]
    refine .inr ⟨rfl, fun x => h.2 ⟨decide_eq_false ?_, x.2.2⟩⟩
    have := x.2.1
    unfold ref1 at this; omega
theorem rcheck_eq {k : Nat} (n f d beat rho delay jit eps mu hold pulse sec : Int) (hk : 2 < k) :
    (clepsydraref04_Check.f k n f d beat rho delay jit eps mu hold pulse sec = some 0 ∧ ref0 n f d ∧ ref1 beat rho delay jit ∧ ref2 d beat rho eps mu hold pulse sec) ∨ (clepsydraref04_Check.f k n f d beat rho delay jit eps mu hold pulse sec = some 1 ∧ ¬ (ref0 n f d ∧ ref1 beat rho delay jit ∧ ref2 d beat rho eps mu hold pulse sec)) := by
  obtain ⟨k, rfl⟩ : ∃ m, k = m + 2 := ⟨k - 2, by omega⟩
  have t : clepsydraref04_Check.j0 (k + 2) true n f d beat rho delay jit eps mu hold pulse sec = some 1 := by
    rcases rj0_eq (k := k) true n f d beat rho delay jit eps mu hold pulse sec with h | h
    · exact absurd h.2.1 (by simp)
    · exact h.1
  unfold clepsydraref04_Check.f
  rw [t]
  by_cases c1 : n < 1
  · rw [if_pos c1]; exact .inr ⟨rfl, by unfold ref0; omega⟩
  rw [if_neg c1]
  by_cases c2 : n > 16
  · rw [if_pos c2]; exact .inr ⟨rfl, by unfold ref0; omega⟩
  rw [if_neg c2]
  by_cases c3 : f < 0
  · rw [if_pos c3]; exact .inr ⟨rfl, by unfold ref0; omega⟩
  rw [if_neg c3]
  by_cases c4 : f > n
  · rw [if_pos c4]; exact .inr ⟨rfl, by unfold ref0; omega⟩
  rw [if_neg c4]
  by_cases c5 : wrap64 (wrap64 (3 * f) + 1) > n
  · rw [if_pos c5]; exact .inr ⟨rfl, by unfold ref0; omega⟩
  rw [if_neg c5]
  by_cases c6 : d < 0
  · rw [if_pos c6]; exact .inr ⟨rfl, by unfold ref0; omega⟩
  rw [if_neg c6]
  rcases rj0_eq (k := k) (decide (d > 16)) n f d beat rho delay jit eps mu hold pulse sec with h | h
  · rw [h.1]
    have c7 := of_decide_eq_false h.2.1
    exact .inl ⟨rfl, by unfold ref0; omega, h.2.2⟩
  · rw [h.1]
    refine .inr ⟨rfl, fun x => h.2 ⟨decide_eq_false ?_, x.2⟩⟩
    have := x.1
    unfold ref0 at this; omega
theorem refs_ok {n f d beat rho delay jit eps mu hold pulse sec : Int} : (ref0 n f d ∧ ref1 beat rho delay jit ∧ ref2 d beat rho eps mu hold pulse sec) ↔ (okN n f d && (okW beat rho delay jit && okR d beat rho eps mu hold pulse sec)) = true := by
  constructor
  · rintro ⟨⟨a1, a2, a3, a4, a5, a6, a7⟩, ⟨b1, b2, b3, b4, b5, b6, b7, b8, b9, b10⟩, c1, c2, c3, c4, c5, c6, c7, c8, c9, c10, c11⟩
    rw [w64 (n := 3 * f) (by omega) (by omega), w64 (by omega) (by omega)] at a5
    rw [w64 (by omega) (by omega)] at b5 b8 c6
    rw [w64 (by omega) (by omega)] at c5
    simp only [okN, okW, okR, Bool.and_eq_true, decide_eq_true_eq]
    have t1 : Int.tdiv (wrap64 (n - 1)) 3 = (n - 1) / 3 := by rw [w64 (by omega) (by omega), Int.tdiv_eq_ediv_of_nonneg (by omega)]
    have t2 : Int.tdiv beat 8 = beat / 8 := Int.tdiv_eq_ediv_of_nonneg (by omega)
    have t3 : Int.tdiv beat 2 = beat / 2 := Int.tdiv_eq_ediv_of_nonneg (by omega)
    have t4 : Int.tdiv beat 4 = beat / 4 := Int.tdiv_eq_ediv_of_nonneg (by omega)
    rw [t1, t2, t3, t4, w64 (n := (n - 1) / 3) (by omega) (by omega), w64 (n := beat / 8) (by omega) (by omega), w64 (n := beat / 2) (by omega) (by omega), w64 (n := beat / 4) (by omega) (by omega), w64 (n := rho + 1) (by omega) (by omega), w64 (n := d + 2) (by omega) (by omega)]
    omega
  · intro h
    obtain ⟨n1, n2, f1, f2, d1, d2, b1, b2, r1, r2, y1, y2, j1, j2, e1, e2, m1, m2, h1, h2, p1, p2, s1, s2⟩ := ok_of h
    unfold ref0 ref1 ref2
    rw [w64 (n := 3 * f) (by omega) (by omega), w64 (n := 3 * f + 1) (by omega) (by omega), w64 (n := 8 * rho) (by omega) (by omega), w64 (n := 2 * delay) (by omega) (by omega), w64 (n := 4 * mu) (by omega) (by omega), w64 (n := d + 2) (by omega) (by omega)]
    omega
theorem LimitChecks : Pure := by
  intro n f d beat rho delay jit eps mu hold pulse sec
  intros
  refine ⟨20, ?_⟩
  unfold clepsydralaw04_LimitChecks.f clepsydralaw04_some.f
  rw [Option.bind_some, check_eq _ _ _ _ _ _ _ _ _ _ _ _ (by omega), Option.bind_some, if_pos (by decide +kernel), check_eq _ _ _ _ _ _ _ _ _ _ _ _ (by omega), Option.bind_some]
  rw [show ((if (okN 0 0 0 && (okW 0 0 0 0 && okR 0 0 0 0 0 0 0 0)) = true then (0 : Int) else 1) != 1) = false from by decide +kernel]
  rw [clepsydralaw04_LimitChecks.j0, if_neg (by simp), check_eq _ _ _ _ _ _ _ _ _ _ _ _ (by omega), Option.bind_some]
  rcases rcheck_eq (k := 19) n f d beat rho delay jit eps mu hold pulse sec (by omega) with h | h
  · rw [h.1, Option.bind_some, if_pos (refs_ok.mp h.2)]; rfl
  · rw [h.1, Option.bind_some, if_neg (fun x => h.2 (refs_ok.mpr x))]; rfl

end Go.Proofs.Ytopaldkmgaflmaa.VLimitChecks
