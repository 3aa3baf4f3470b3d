/- The best of some trips isn't wider than what any of them tells, and one more trip never makes it wider; for all lists of up to 256 trips. -/
import Derived.Test.YtigpigfoahlfjaaQx9
import Derived.OpenShut
set_option linter.unusedVariables false
set_option linter.unusedSimpArgs false
namespace Go.Proofs.Ytigpigfoahlfjaa.VProbeNarrows
open Go.RowKit Go.Proofs.Ytigpigfoahlfjaa.Q Go.Proofs.YtigpigfoahlfjaaW.PrintWords Go.Proofs.YtigpigfoahlfjaaW.PrintLast Go.Proofs.YtigpigfoahlfjaaW.PrintMore

theorem wb {n : Int} (h : (Lit.int .i64 n).wf = true) : -9223372036854775808 ≤ n ∧ n ≤ 9223372036854775807 := Go.bounds_i64 h
theorem w64 {n : Int} (h1 : -9223372036854775808 ≤ n) (h2 : n ≤ 9223372036854775807) : wrap64 n = n := by unfold wrap64; omega
def clp (x : Int) : Int := if x < -2305843009213693952 then -2305843009213693952 else if 2305843009213693952 < x then 2305843009213693952 else x
theorem clp_b (x : Int) : -2305843009213693952 ≤ clp x ∧ clp x ≤ 2305843009213693952 := by unfold clp; split <;> (try split) <;> omega
theorem clp_id {x : Int} (h1 : -2305843009213693952 ≤ x) (h2 : x ≤ 2305843009213693952) : clp x = x := by unfold clp; rw [if_neg (by omega), if_neg (by omega)]
theorem clp_neg (x : Int) : clp (-x) = -clp x := by unfold clp; split <;> (try split) <;> (try split) <;> (try split) <;> omega
def bnd (x lo hi : Int) : Int := if x < lo ∨ hi < lo then lo else if hi < x then hi else x
def addL (l : List Int) : Int := l.foldl (fun n x => clp (n + clp x)) 0
def sub (a b : Int) : Int := clp (clp a - clp b)
def absC (a : Int) : Int := if a < 0 then -clp a else clp a
theorem absC_b (x : Int) : 0 ≤ absC x ∧ absC x ≤ 2305843009213693952 := by have := clp_b x; unfold absC; unfold clp at *; split <;> omega
theorem add2 (a b : Int) : addL [a, b] = clp (clp a + clp b) := by
  have h := clp_b a
  simp only [addL, List.foldl_cons, List.foldl_nil, Int.zero_add]
  rw [clp_id h.1 h.2]
theorem add3 (a b c : Int) : addL [a, b, c] = clp (clp (clp a + clp b) + clp c) := by
  have h := clp_b a
  simp only [addL, List.foldl_cons, List.foldl_nil, Int.zero_add]
  rw [clp_id h.1 h.2]
theorem rd_drop {l : List Int} {i : Int} (h0 : 0 ≤ i) (h1 : i < (l.length : Int)) : l.drop i.toNat = rd l i :: l.drop (i + 1).toNat := by
  have h : i.toNat < l.length := by omega
  rw [List.drop_eq_getElem_cons h, show (i + 1).toNat = i.toNat + 1 from by omega]
  congr 1
  simp [rd, List.getD_eq_getElem?_getD, List.getElem?_eq_getElem h]
def mulC (a b : Int) : Int := clp (clp a * clp b)
theorem mulC_b (a b : Int) : -2305843009213693952 ≤ mulC a b ∧ mulC a b ≤ 2305843009213693952 := clp_b _
theorem sub_b (a b : Int) : -2305843009213693952 ≤ sub a b ∧ sub a b ≤ 2305843009213693952 := clp_b _
theorem addL_b (l : List Int) : -2305843009213693952 ≤ addL l ∧ addL l ≤ 2305843009213693952 := by
  unfold addL
  suffices h : ∀ (l : List Int) (n : Int), -2305843009213693952 ≤ n → n ≤ 2305843009213693952 → -2305843009213693952 ≤ l.foldl (fun n x => clp (n + clp x)) n ∧ l.foldl (fun n x => clp (n + clp x)) n ≤ 2305843009213693952 from h l 0 (by omega) (by omega)
  intro l
  induction l with
  | nil => intro n h1 h2; exact ⟨h1, h2⟩
  | cons x l ih => intro n _ _; exact ih _ (clp_b _).1 (clp_b _).2

theorem bound_eq {k : Nat} (x lo hi : Int) (hk : 0 < k) : sat_Bound.f k x lo hi = some (bnd x lo hi) := by
  obtain ⟨k, rfl⟩ : ∃ m, k = m + 1 := ⟨k - 1, by omega⟩
  unfold sat_Bound.f bnd
  simp only [sat_Bound.j0]
  by_cases h1 : x < lo
  · simp [h1]
  · by_cases h2 : hi < lo
    · simp [h1, h2]
    · simp only [h1, h2, if_false, false_or, decide_false, if_neg]
      by_cases h3 : hi < x
      · simp [h3]
      · simp [h3]
theorem clip_eq {k : Nat} (x : Int) (hk : 0 < k) : sat_Clip.f k x = some (clp x) := by
  unfold sat_Clip.f
  rw [bound_eq x _ _ hk]
  simp only [Option.bind_some, bnd, clp]
  congr 1
  split <;> split <;> (try split) <;> omega

theorem neg_eq {k : Nat} (x : Int) (hk : 0 < k) : sat_Neg.f k x = some (-clp x) := by
  have h := clp_b x
  unfold sat_Neg.f
  rw [clip_eq x hk, Option.bind_some, w64 (by omega) (by omega)]

theorem abs_eq {k : Nat} (x : Int) (hk : 0 < k) : sat_Abs.f k x = some (absC x) := by
  unfold sat_Abs.f absC
  split
  · rw [neg_eq x hk]; rfl
  · rw [clip_eq x hk]; rfl

theorem add_l0 (l : List Int) (hl : l.length ≤ 4611686018427387904) (d : Nat) : ∀ (k : Nat) (n i : Int), -2305843009213693952 ≤ n → n ≤ 2305843009213693952 → 0 ≤ i → i ≤ l.length → (l.length : Int) - i = d → d + 1 < k →
    sat_Add.l0 k n l (l.length : Int) i = some ((l.drop i.toNat).foldl (fun n x => clp (n + clp x)) n) := by
  induction d with
  | zero =>
    intro k n i _ _ h0 h1 hd hk
    obtain ⟨k, rfl⟩ : ∃ m, k = m + 1 := ⟨k - 1, by omega⟩
    simp only [sat_Add.l0]
    rw [if_neg (by omega), List.drop_eq_nil_of_le (by omega)]
    rfl
  | succ d ih =>
    intro k n i n1 n2 h0 h1 hd hk
    obtain ⟨k, rfl⟩ : ∃ m, k = m + 1 := ⟨k - 1, by omega⟩
    have hlt : i < (l.length : Int) := by omega
    have hc := clp_b (rd l i)
    have hs := clp_b (n + clp (rd l i))
    simp only [sat_Add.l0]
    rw [if_pos hlt, if_pos h0, if_pos hlt, clip_eq _ (by omega), Option.bind_some, w64 (n := n + clp (rd l i)) (by omega) (by omega), clip_eq _ (by omega), Option.bind_some, w64 (n := i + 1) (by omega) (by omega)]
    rw [ih k _ (i + 1) hs.1 hs.2 (by omega) (by omega) (by omega) (by omega), rd_drop h0 hlt]
    rfl
theorem add_eq {k : Nat} (l : List Int) (hl : l.length ≤ 4611686018427387904) (hk : l.length + 1 < k) : sat_Add.f k l = some (addL l) := by
  unfold sat_Add.f
  rw [add_l0 l hl l.length k 0 0 (by omega) (by omega) (by omega) (by omega) (by omega) hk]
  rfl

theorem sub_eq {k : Nat} (a b : Int) (hk : 0 < k) : sat_Sub.f k a b = some (sub a b) := by
  have h := clp_b a
  have h' := clp_b b
  unfold sat_Sub.f sub
  rw [clip_eq a hk, Option.bind_some, clip_eq b hk, Option.bind_some, w64 (by omega) (by omega), clip_eq _ hk, Option.bind_some]

theorem mul_eq {k : Nat} (a b : Int) (hk : 0 < k) : sat_Mul.f k a b = some (mulC a b) := by
  obtain ⟨k, rfl⟩ : ∃ m, k = m + 1 := ⟨k - 1, by omega⟩
  unfold sat_Mul.f
  rw [abs_eq a hk, Option.bind_some, abs_eq b hk, Option.bind_some]
  have hx := absC_b a
  have hy := absC_b b
  have ha : (a < 0 ∧ clp a = -absC a) ∨ (¬ a < 0 ∧ clp a = absC a) := by unfold absC; by_cases h : a < 0 <;> simp [h]
  have hb : (b < 0 ∧ clp b = -absC b) ∨ (¬ b < 0 ∧ clp b = absC b) := by unfold absC; by_cases h : b < 0 <;> simp [h]
  unfold mulC
  generalize absC a = x at *
  generalize absC b = y at *
  have hz : 0 ≤ x * y := Int.mul_nonneg hx.1 hy.1
  have key : ∀ (t : Bool), (t = true → x * y ≤ 2305843009213693952) → (t = false → 2305843009213693952 ≤ x * y) → sat_Mul.j0 (k + 1) a b x y 2305843009213693952 t = some (clp (clp a * clp b)) := by
    intro t h1 h2
    simp only [sat_Mul.j0]
    have e : clp a * clp b = x * y ∧ ((decide (a < 0)) != (decide (b < 0))) = false ∨ clp a * clp b = -(x * y) ∧ ((decide (a < 0)) != (decide (b < 0))) = true := by
      rcases ha with ⟨h3, h4⟩ | ⟨h3, h4⟩ <;> rcases hb with ⟨h5, h6⟩ | ⟨h5, h6⟩ <;> rw [h4, h6]
      · exact .inl ⟨Int.neg_mul_neg x y, by simp [h3, h5]⟩
      · exact .inr ⟨Int.neg_mul x y, by simp [h3, h5]⟩
      · exact .inr ⟨Int.mul_neg x y, by simp [h3, h5]⟩
      · exact .inl ⟨rfl, by simp [h3, h5]⟩
    have c1 : t = true → clp (x * y) = x * y := fun h => clp_id (by omega) (h1 h)
    have c2 : t = false → clp (x * y) = 2305843009213693952 := fun h => by have := h2 h; unfold clp; split <;> (try split) <;> omega
    rcases e with ⟨e1, e2⟩ | ⟨e1, e2⟩ <;> rw [e1, e2] <;> cases t <;> simp only [if_true, if_false, Bool.false_eq_true]
    · rw [c2 rfl]
    · rw [w64 (by omega) (by have := h1 rfl; omega), c1 rfl]
    · rw [clp_neg, c2 rfl, w64 (by omega) (by omega)]
    · rw [w64 (n := x * y) (by omega) (by have := h1 rfl; omega), w64 (by have := h1 rfl; omega) (by have := h1 rfl; omega), clp_neg, c1 rfl]
  by_cases h0 : x = 0
  · rw [if_pos h0]
    exact key true (fun _ => by rw [h0]; simp) (fun h => by cases h)
  · rw [if_neg h0]
    have hx0 : 0 < x := by omega
    have hq1 : 0 ≤ (2305843009213693952 : Int) / x := Int.ediv_nonneg (by omega) hx.1
    have hq2 : (2305843009213693952 : Int) / x ≤ 2305843009213693952 := Int.ediv_le_self _ (by omega)
    rw [w64 (by omega) (by omega)]
    have hiff : y ≤ (2305843009213693952 : Int) / x ↔ y * x ≤ 2305843009213693952 := Int.le_ediv_iff_mul_le hx0
    rw [Int.mul_comm y x] at hiff
    exact key _ (fun h => hiff.1 (of_decide_eq_true h)) (fun h => by have := of_decide_eq_false h; rw [hiff] at this; omega)

theorem of_eq {k : Nat} (a b : Int) (hk : 0 < k) : span_Of.f k a b = some (clp a, clp b) := by
  unfold span_Of.f
  rw [clip_eq a hk, Option.bind_some, clip_eq b hk, Option.bind_some]

theorem g_foldr (l : List S25) : ∀ p, l.foldl span_Meet.g p = (l.foldl (fun n s => mx n s.f0) p.1, l.foldl (fun n s => mn n s.f1) p.2) := by
  induction l with
  | nil => intro p; rfl
  | cons s l ih => intro p; simp only [List.foldl_cons]; rw [ih]; rfl
def meetLo (l : List S25) : Int := l.foldl (fun n s => mx n s.f0) (-2305843009213693952)
def meetHi (l : List S25) : Int := l.foldl (fun n s => mn n s.f1) 2305843009213693952
theorem meet_eq {k : Nat} (l : List S25) (hk : 0 < k) : span_Meet.f k l = some (clp (meetLo l), clp (meetHi l)) := by
  unfold span_Meet.f
  rw [g_foldr, of_eq _ _ hk]
  rfl

theorem shift_eq {k : Nat} (a b lo hi : Int) (hk : 10 < k) : span_Shift.f k a b lo hi = some (addL [a, lo], addL [b, hi]) := by
  unfold span_Shift.f
  rw [add_eq [a, lo] (by simp) (by simp; omega), Option.bind_some, add_eq [b, hi] (by simp) (by simp; omega), Option.bind_some]

def aheadLo (rho delay jit asked got said heard : Int) : Int := clp (mx (mx (-2305843009213693952) (addL [sub (sub got asked) delay, -mulC 2 rho])) (addL [addL [sub said heard, sub delay jit], -mulC 2 rho]))
def aheadHi (rho delay jit asked got said heard : Int) : Int := clp (mn (mn 2305843009213693952 (addL [sub (sub got asked) (sub delay jit), mulC 2 rho])) (addL [addL [sub said heard, delay], mulC 2 rho]))
theorem ahead_eq {k : Nat} (p0 p1 p2 p3 rho delay jit p7 p8 p9 p10 p11 asked got said heard : Int) (hk : 10 < k) :
    probe_Ahead.f k p0 p1 p2 p3 rho delay jit p7 p8 p9 p10 p11 asked got said heard = some (aheadLo rho delay jit asked got said heard, aheadHi rho delay jit asked got said heard) := by
  have hd := mulC_b 2 rho
  unfold probe_Ahead.f probe_least.f
  rw [sub_eq _ _ (by omega), Option.bind_some, sub_eq _ _ (by omega), Option.bind_some, sub_eq _ _ (by omega), Option.bind_some, sub_eq delay jit (by omega), Option.bind_some, Option.bind_some, sub_eq _ _ (by omega), Option.bind_some, Option.bind_some, add_eq [_, _] (by simp) (by simp; omega), Option.bind_some, add_eq [_, _] (by simp) (by simp; omega), Option.bind_some, mul_eq _ _ (by omega), Option.bind_some, neg_eq _ (by omega), Option.bind_some, shift_eq _ _ _ _ hk, Option.bind_some, Option.bind_some, shift_eq _ _ _ _ hk, Option.bind_some, meet_eq _ (by omega), Option.bind_some, clp_id hd.1 hd.2]
  rfl
theorem palive_eq {k : Nat} (hk : 10 < k) : clepsydralaw10_alive.f k = some true := by
  unfold clepsydralaw10_alive.f
  rw [ahead_eq _ _ _ _ _ _ _ _ _ _ _ _ _ _ _ _ hk, Option.bind_some]
  decide

theorem right_eq {k : Nat} (p0 p1 p2 p3 rho delay jit p7 p8 p9 p10 p11 asked got said heard : Int) (hk : 10 < k) :
    probe_Right.f k p0 p1 p2 p3 rho delay jit p7 p8 p9 p10 p11 asked got said heard = some (decide (aheadLo rho delay jit asked got said heard ≤ aheadHi rho delay jit asked got said heard)) := by
  unfold probe_Right.f span_Empty.f
  rw [ahead_eq _ _ _ _ _ _ _ _ _ _ _ _ _ _ _ _ hk, Option.bind_some, Option.bind_some]
  congr 1
  by_cases h : aheadLo rho delay jit asked got said heard ≤ aheadHi rho delay jit asked got said heard
  · rw [decide_eq_true h, decide_eq_false (by omega)]; rfl
  · rw [decide_eq_false h, decide_eq_true (by omega)]; rfl

theorem rclip_eq (x : Int) : clepsydraref01_Clip.f x = some (clp x) := by
  unfold clepsydraref01_Clip.f clp
  by_cases h1 : x > 2305843009213693952
  · rw [if_pos h1, if_neg (by omega), if_pos (by omega)]
  · rw [if_neg h1]
    by_cases h2 : x < -2305843009213693952
    · rw [if_pos h2, if_pos h2]
    · rw [if_neg h2, if_neg h2, if_neg (by omega)]

theorem rsub_eq (a b : Int) : clepsydraref01_Sub.f a b = some (sub a b) := by
  have h := clp_b a
  have h' := clp_b b
  unfold clepsydraref01_Sub.f sub
  rw [rclip_eq a, Option.bind_some, rclip_eq b, Option.bind_some, w64 (by omega) (by omega), rclip_eq _, Option.bind_some]

def wideC (lo hi : Int) : Int := if lo > hi then -1 else sub hi lo
theorem wide_eq {k : Nat} (lo hi : Int) (hk : 0 < k) : span_Wide.f k lo hi = some (wideC lo hi) := by
  unfold span_Wide.f span_Empty.f wideC
  rw [Option.bind_some]
  by_cases h : lo > hi
  · rw [decide_eq_true h, if_pos rfl, if_pos h]
  · rw [decide_eq_false h, if_neg (by decide), if_neg h, sub_eq _ _ hk]; rfl
theorem rwide_eq (lo hi : Int) : clepsydraref03_Wide.f lo hi = some (wideC lo hi) := by
  unfold clepsydraref03_Wide.f wideC
  by_cases h : lo > hi
  · rw [if_pos h, if_pos h]
  · rw [if_neg h, if_neg h, rsub_eq]; rfl
def stepB (rho delay jit : Int) (st : Bool × Int × Int) (t : S57) : Bool × Int × Int :=
  if aheadLo rho delay jit t.f0 t.f1 t.f2 t.f3 > aheadHi rho delay jit t.f0 t.f1 t.f2 t.f3 then st
  else if st.1 = true then (if wideC (aheadLo rho delay jit t.f0 t.f1 t.f2 t.f3) (aheadHi rho delay jit t.f0 t.f1 t.f2 t.f3) < wideC st.2.1 st.2.2 then (true, aheadLo rho delay jit t.f0 t.f1 t.f2 t.f3, aheadHi rho delay jit t.f0 t.f1 t.f2 t.f3) else st)
  else (true, aheadLo rho delay jit t.f0 t.f1 t.f2 t.f3, aheadHi rho delay jit t.f0 t.f1 t.f2 t.f3)
theorem tdrop {l : List S57} {i : Int} (h0 : 0 ≤ i) (h1 : i < (l.length : Int)) : l.drop i.toNat = rd_T57 l i :: l.drop (i + 1).toNat := by
  have h : i.toNat < l.length := by omega
  rw [List.drop_eq_getElem_cons h, show (i + 1).toNat = i.toNat + 1 from by omega]
  congr 1
  simp [rd_T57, List.getD_eq_getElem?_getD, List.getElem?_eq_getElem h]
theorem best_l0 (p0 p1 p2 p3 rho delay jit p7 p8 p9 p10 p11 : Int) (l : List S57) (hl : l.length ≤ 4611686018427387904) (d : Nat) : ∀ (k : Nat) (fd : Bool) (lo hi i : Int), 0 ≤ i → i ≤ l.length → (l.length : Int) - i = d → d + 20 < k →
    probe_Best.l0 k fd l (l.length : Int) i p0 p1 p2 p3 rho delay jit p7 p8 p9 p10 p11 lo hi = some (((l.drop i.toNat).foldl (stepB rho delay jit) (fd, lo, hi)).2.1, ((l.drop i.toNat).foldl (stepB rho delay jit) (fd, lo, hi)).2.2, ((l.drop i.toNat).foldl (stepB rho delay jit) (fd, lo, hi)).1) := by
  induction d with
  | zero =>
    intro k fd lo hi i h0 h1 hd hk
    obtain ⟨k, rfl⟩ : ∃ m, k = m + 1 := ⟨k - 1, by omega⟩
    simp only [probe_Best.l0]
    rw [if_neg (by omega), List.drop_eq_nil_of_le (by omega)]
    rfl
  | succ d ih =>
    intro k fd lo hi i h0 h1 hd hk
    obtain ⟨k, rfl⟩ : ∃ m, k = m + 1 := ⟨k - 1, by omega⟩
    have hlt : i < (l.length : Int) := by omega
    have ih' := fun fd lo hi => ih k fd lo hi (i + 1) (by omega) (by omega) (by omega) (by omega)
    simp only [probe_Best.l0]
    rw [if_pos hlt, if_pos h0, if_pos hlt, ahead_eq _ _ _ _ _ _ _ _ _ _ _ _ _ _ _ _ (by omega), Option.bind_some, w64 (n := i + 1) (by omega) (by omega), tdrop h0 hlt]
    unfold span_Empty.f
    simp only [List.foldl_cons, Option.bind_some]
    generalize rd_T57 l i = t
    by_cases c0 : aheadLo rho delay jit t.f0 t.f1 t.f2 t.f3 > aheadHi rho delay jit t.f0 t.f1 t.f2 t.f3
    · rw [decide_eq_true c0, if_pos rfl, ih', show stepB rho delay jit (fd, lo, hi) t = (fd, lo, hi) from if_pos c0]
    · rw [decide_eq_false c0, if_neg (by decide)]
      cases fd with
      | false => rw [if_neg (by simp), ih', show stepB rho delay jit (false, lo, hi) t = (true, aheadLo rho delay jit t.f0 t.f1 t.f2 t.f3, aheadHi rho delay jit t.f0 t.f1 t.f2 t.f3) from by unfold stepB; rw [if_neg c0, if_neg (by simp)]]
      | true =>
        rw [if_pos rfl, wide_eq _ _ (by omega), Option.bind_some, wide_eq _ _ (by omega), Option.bind_some]
        by_cases c1 : wideC (aheadLo rho delay jit t.f0 t.f1 t.f2 t.f3) (aheadHi rho delay jit t.f0 t.f1 t.f2 t.f3) < wideC lo hi
        · rw [if_pos c1, ih', show stepB rho delay jit (true, lo, hi) t = (true, aheadLo rho delay jit t.f0 t.f1 t.f2 t.f3, aheadHi rho delay jit t.f0 t.f1 t.f2 t.f3) from by unfold stepB; rw [if_neg c0, if_pos rfl, if_pos c1]]
        · rw [if_neg c1, ih', show stepB rho delay jit (true, lo, hi) t = (true, lo, hi) from by unfold stepB; rw [if_neg c0, if_pos rfl, if_neg c1]]

/-- The pure statement of the law. -/
def Pure : Prop := ∀ (a0_0 : Int) (a0_1 : Int) (a0_2 : Int) (a0_3 : Int) (a0_4 : Int) (a0_5 : Int) (a0_6 : Int) (a0_7 : Int) (a0_8 : Int) (a0_9 : Int) (a0_10 : Int) (a0_11 : Int) (l1 : List S57) (a2_0 : Int) (a2_1 : Int) (a2_2 : Int) (a2_3 : Int), (Lit.int .i64 a0_0).wf = true → (Lit.int .i64 a0_1).wf = true → (Lit.int .i64 a0_2).wf = true → (Lit.int .i64 a0_3).wf = true → (Lit.int .i64 a0_4).wf = true → (Lit.int .i64 a0_5).wf = true → (Lit.int .i64 a0_6).wf = true → (Lit.int .i64 a0_7).wf = true → (Lit.int .i64 a0_8).wf = true → (Lit.int .i64 a0_9).wf = true → (Lit.int .i64 a0_10).wf = true → (Lit.int .i64 a0_11).wf = true → l1.length * 32 ≤ 140737488351232 → (∀ x ∈ l1, (Lit.int .i64 x.f0).wf = true ∧ (Lit.int .i64 x.f1).wf = true ∧ (Lit.int .i64 x.f2).wf = true ∧ (Lit.int .i64 x.f3).wf = true) → (Lit.int .i64 a2_0).wf = true → (Lit.int .i64 a2_1).wf = true → (Lit.int .i64 a2_2).wf = true → (Lit.int .i64 a2_3).wf = true → ∃ k, clepsydralaw10_ProbeNarrows.f k a0_0 a0_1 a0_2 a0_3 a0_4 a0_5 a0_6 a0_7 a0_8 a0_9 a0_10 a0_11 l1 a2_0 a2_1 a2_2 a2_3 = some true

def tLo (rho delay jit : Int) (t : S57) : Int := aheadLo rho delay jit t.f0 t.f1 t.f2 t.f3
def tHi (rho delay jit : Int) (t : S57) : Int := aheadHi rho delay jit t.f0 t.f1 t.f2 t.f3
theorem step_facts (rho delay jit : Int) (st : Bool × Int × Int) (t : S57) :
    (st.1 = true → (stepB rho delay jit st t).1 = true ∧ wideC (stepB rho delay jit st t).2.1 (stepB rho delay jit st t).2.2 ≤ wideC st.2.1 st.2.2) ∧
    (tLo rho delay jit t ≤ tHi rho delay jit t → (stepB rho delay jit st t).1 = true ∧ wideC (stepB rho delay jit st t).2.1 (stepB rho delay jit st t).2.2 ≤ wideC (tLo rho delay jit t) (tHi rho delay jit t)) := by
  unfold stepB tLo tHi
  generalize aheadLo rho delay jit t.f0 t.f1 t.f2 t.f3 = a
  generalize aheadHi rho delay jit t.f0 t.f1 t.f2 t.f3 = b
  by_cases c0 : a > b
  · rw [if_pos c0]
    exact ⟨fun h => ⟨h, Int.le_refl _⟩, fun h => by omega⟩
  · rw [if_neg c0]
    by_cases c1 : st.1 = true
    · rw [if_pos c1]
      by_cases c2 : wideC a b < wideC st.2.1 st.2.2
      · rw [if_pos c2]
        exact ⟨fun _ => ⟨rfl, by show wideC a b ≤ _; omega⟩, fun _ => ⟨rfl, Int.le_refl _⟩⟩
      · rw [if_neg c2]
        exact ⟨fun _ => ⟨c1, Int.le_refl _⟩, fun _ => ⟨c1, by omega⟩⟩
    · rw [if_neg c1]
      exact ⟨fun h => absurd h c1, fun _ => ⟨rfl, Int.le_refl _⟩⟩
theorem fold_facts (rho delay jit : Int) (l : List S57) : ∀ st : Bool × Int × Int,
    (st.1 = true → (l.foldl (stepB rho delay jit) st).1 = true ∧ wideC (l.foldl (stepB rho delay jit) st).2.1 (l.foldl (stepB rho delay jit) st).2.2 ≤ wideC st.2.1 st.2.2) ∧
    (∀ t ∈ l, tLo rho delay jit t ≤ tHi rho delay jit t → (l.foldl (stepB rho delay jit) st).1 = true ∧ wideC (l.foldl (stepB rho delay jit) st).2.1 (l.foldl (stepB rho delay jit) st).2.2 ≤ wideC (tLo rho delay jit t) (tHi rho delay jit t)) := by
  induction l with
  | nil => intro st; exact ⟨fun h => ⟨h, Int.le_refl _⟩, fun t ht => by cases ht⟩
  | cons x xs ih =>
    intro st
    obtain ⟨s1, s2⟩ := step_facts rho delay jit st x
    obtain ⟨i1, i2⟩ := ih (stepB rho delay jit st x)
    simp only [List.foldl_cons]
    refine ⟨fun h => ?_, fun t ht h => ?_⟩
    · obtain ⟨a, b⟩ := s1 h
      obtain ⟨c, d⟩ := i1 a
      exact ⟨c, by omega⟩
    · rcases List.mem_cons.mp ht with rfl | ht
      · obtain ⟨a, b⟩ := s2 h
        obtain ⟨c, d⟩ := i1 a
        exact ⟨c, by omega⟩
      · exact i2 t ht h
theorem narrows_l0 (p0 p1 p2 p3 rho delay jit p7 p8 p9 p10 p11 m0 m1 m2 m3 lo hi : Int) (fd : Bool) (l : List S57) (hl : l.length ≤ 256) (hf : l.foldl (stepB rho delay jit) (false, 0, 0) = (fd, lo, hi)) (d : Nat) : ∀ (k : Nat) (i : Int), 0 ≤ i → i ≤ l.length → (l.length : Int) - i = d → d + 1000 < k →
    clepsydralaw10_ProbeNarrows.l0 k l fd l (l.length : Int) i p0 p1 p2 p3 rho delay jit p7 p8 p9 p10 p11 m0 m1 m2 m3 lo hi = some true := by
  induction d with
  | zero =>
    intro k i h0 h1 hd hk
    obtain ⟨k, rfl⟩ : ∃ m, k = m + 1 := ⟨k - 1, by omega⟩
    simp only [clepsydralaw10_ProbeNarrows.l0]
    rw [if_neg (by omega), Option.bind_some, if_pos (by simp; omega), Option.bind_some, Option.bind_some, if_pos (by simp; omega), List.nil_append]
    unfold probe_Best.f
    rw [best_l0 _ _ _ _ _ _ _ _ _ _ _ _ (l ++ [(⟨m0, m1, m2, m3⟩ : S57)]) (by simp; omega) (l ++ [(⟨m0, m1, m2, m3⟩ : S57)]).length k false 0 0 0 (by omega) (by omega) (by omega) (by simp; omega), Option.bind_some]
    have e0 : (l ++ [(⟨m0, m1, m2, m3⟩ : S57)]).drop (0 : Int).toNat = l ++ [⟨m0, m1, m2, m3⟩] := rfl
    rw [e0, List.foldl_append, hf]
    cases fd with
    | false => rw [if_neg (by decide)]
    | true =>
      obtain ⟨a, b⟩ := (step_facts rho delay jit (true, lo, hi) ⟨m0, m1, m2, m3⟩).1 rfl
      rw [List.foldl_cons, List.foldl_nil]
      generalize stepB rho delay jit (true, lo, hi) ⟨m0, m1, m2, m3⟩ = st at *
      obtain ⟨b1, lo', hi'⟩ := st
      dsimp only at a b ⊢
      subst a
      rw [if_pos rfl, if_pos rfl, rwide_eq, Option.bind_some, rwide_eq, Option.bind_some, decide_eq_true b]
  | succ d ih =>
    intro k i h0 h1 hd hk
    obtain ⟨k, rfl⟩ : ∃ m, k = m + 1 := ⟨k - 1, by omega⟩
    have hlt : i < (l.length : Int) := by omega
    have ih' := ih k (i + 1) (by omega) (by omega) (by omega) (by omega)
    have hm : rd_T57 l i ∈ l := by
      have h : i.toNat < l.length := by omega
      have e : rd_T57 l i = l[i.toNat] := by simp [rd_T57, List.getD_eq_getElem?_getD, List.getElem?_eq_getElem h]
      rw [e]; exact List.getElem_mem h
    have ff := (fold_facts rho delay jit l (false, 0, 0)).2 _ hm
    rw [hf] at ff
    simp only [clepsydralaw10_ProbeNarrows.l0]
    rw [if_pos hlt, if_pos h0, if_pos hlt, ahead_eq _ _ _ _ _ _ _ _ _ _ _ _ _ _ _ _ (by omega), Option.bind_some, right_eq _ _ _ _ _ _ _ _ _ _ _ _ _ _ _ _ (by omega), Option.bind_some, w64 (n := i + 1) (by omega) (by omega), ih']
    generalize rd_T57 l i = t at *
    by_cases c0 : tLo rho delay jit t ≤ tHi rho delay jit t
    · obtain ⟨a, b⟩ := ff c0
      have a : fd = true := a
      subst a
      have b : wideC lo hi ≤ wideC (tLo rho delay jit t) (tHi rho delay jit t) := b
      unfold tLo tHi at b c0
      dsimp only
      rw [decide_eq_true c0, if_pos rfl, if_pos rfl, rwide_eq, Option.bind_some, rwide_eq, Option.bind_some, if_neg (by omega)]
    · unfold tLo tHi at c0
      rw [decide_eq_false c0, if_neg (by decide)]
theorem ProbeNarrows : Pure := by
  intro p0 p1 p2 p3 rho delay jit p7 p8 p9 p10 p11 l m0 m1 m2 m3 _ _ _ _ _ _ _ _ _ _ _ _ hl _ _ _ _ _
  refine ⟨3000, ?_⟩
  unfold clepsydralaw10_ProbeNarrows.f
  rw [palive_eq (by omega), Option.bind_some, if_pos rfl]
  by_cases h : (l.length : Int) > 256
  · rw [if_pos h]
  · rw [if_neg h]
    unfold probe_Best.f
    rw [best_l0 _ _ _ _ _ _ _ _ _ _ _ _ l (by omega) l.length 3000 false 0 0 0 (by omega) (by omega) (by omega) (by omega), Option.bind_some]
    exact narrows_l0 _ _ _ _ _ _ _ _ _ _ _ _ _ _ _ _ _ _ _ l (by omega) rfl l.length 3000 0 (by omega) (by omega) (by omega) (by omega)

end Go.Proofs.Ytigpigfoahlfjaa.VProbeNarrows
