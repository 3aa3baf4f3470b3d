/- Where nothing is clipped, sums, differences and products are those of numbers; for all numbers of 32 bits. -/
import Derived.Test.YtopaldkmgaflmaaQx27
import Derived.OpenShut
set_option linter.unusedVariables false
set_option linter.unusedSimpArgs false
namespace Go.Proofs.Ytopaldkmgaflmaa.VSatTrue
open Go.RowKit Go.Proofs.Ytopaldkmgaflmaa.Q Go.Proofs.YtopaldkmgaflmaaW.PrintWords Go.Proofs.YtopaldkmgaflmaaW.PrintLast Go.Proofs.YtopaldkmgaflmaaW.PrintMore

theorem wb {n : Int} (h : (Lit.int .i64 n).wf = true) : -9223372036854775808 ≤ n ∧ n ≤ 9223372036854775807 := Go.bounds_i64 h
theorem w64 {n : Int} (h1 : -9223372036854775808 ≤ n) (h2 : n ≤ 9223372036854775807) : wrap64 n = n := by unfold wrap64; omega
def clp (x : Int) : Int := if x < -2305843009213693952 then -2305843009213693952 else if 2305843009213693952 < x then 2305843009213693952 else x
theorem clp_b (x : Int) : -2305843009213693952 ≤ clp x ∧ clp x ≤ 2305843009213693952 := by unfold clp; split <;> (try split) <;> omega
theorem clp_id {x : Int} (h1 : -2305843009213693952 ≤ x) (h2 : x ≤ 2305843009213693952) : clp x = x := by unfold clp; rw [if_neg (by omega), if_neg (by omega)]
theorem clp_neg (x : Int) : clp (-x) = -clp x := by unfold clp; split <;> (try split) <;> (try split) <;> (try split) <;> omega
def bnd (x lo hi : Int) : Int := if x < lo ∨ hi < lo then lo else if hi < x then hi else x
def addL (l : List Int) : Int := l.foldl (fun n x => clp (n + clp x)) 0
def sub (a b : Int) : Int := clp (clp a - clp b)
def absC (a : Int) : Int := if a < 0 then -clp a else clp a
theorem absC_b (x : Int) : 0 ≤ absC x ∧ absC x ≤ 2305843009213693952 := by have := clp_b x; unfold absC; unfold clp at *; split <;> omega
theorem add2 (a b : Int) : addL [a, b] = clp (clp a + clp b) := by
  have h := clp_b a
  simp only [addL, List.foldl_cons, List.foldl_nil, Int.zero_add]
  rw [clp_id h.1 h.2]
theorem add3 (a b c : Int) : addL [a, b, c] = clp (clp (clp a + clp b) + clp c) := by
  have h := clp_b a
  simp only [addL, List.foldl_cons, List.foldl_nil, Int.zero_add]
  rw [clp_id h.1 h.2]
theorem rd_drop {l : List Int} {i : Int} (h0 : 0 ≤ i) (h1 : i < (l.length : Int)) : l.drop i.toNat = rd l i :: l.drop (i + 1).toNat := by
  have h : i.toNat < l.length := by omega
  rw [List.drop_eq_getElem_cons h, show (i + 1).toNat = i.toNat + 1 from by omega]
  congr 1
  simp [rd, List.getD_eq_getElem?_getD, List.getElem?_eq_getElem h]
def mulC (a b : Int) : Int := clp (clp a * clp b)
theorem mulC_b (a b : Int) : -2305843009213693952 ≤ mulC a b ∧ mulC a b ≤ 2305843009213693952 := clp_b _
theorem sub_b (a b : Int) : -2305843009213693952 ≤ sub a b ∧ sub a b ≤ 2305843009213693952 := clp_b _
theorem addL_b (l : List Int) : -2305843009213693952 ≤ addL l ∧ addL l ≤ 2305843009213693952 := by
  unfold addL
  suffices h : ∀ (l : List Int) (n : Int), -2305843009213693952 ≤ n → n ≤ 2305843009213693952 → -2305843009213693952 ≤ l.foldl (fun n x => clp (n + clp x)) n ∧ l.foldl (fun n x => clp (n + clp x)) n ≤ 2305843009213693952 from h l 0 (by omega) (by omega)
  intro l
  induction l with
  | nil => intro n h1 h2; exact ⟨h1, h2⟩
  | cons x l ih => intro n _ _; exact ih _ (clp_b _).1 (clp_b _).2

theorem bound_eq {k : Nat} (x lo hi : Int) (hk : 0 < k) : sat_Bound.f k x lo hi = some (bnd x lo hi) := by
  obtain ⟨k, rfl⟩ : ∃ m, k = m + 1 := ⟨k - 1, by omega⟩
  unfold sat_Bound.f bnd
  simp only [sat_Bound.j0]
  by_cases h1 : x < lo
  · simp [h1]
  · by_cases h2 : hi < lo
    · simp [h1, h2]
    · simp only [h1, h2, if_false, false_or, decide_false, if_neg]
      by_cases h3 : hi < x
      · simp [h3]
      · simp [h3]
theorem clip_eq {k : Nat} (x : Int) (hk : 0 < k) : sat_Clip.f k x = some (clp x) := by
  unfold sat_Clip.f
  rw [bound_eq x _ _ hk]
  simp only [Option.bind_some, bnd, clp]
  congr 1
  split <;> split <;> (try split) <;> omega

theorem neg_eq {k : Nat} (x : Int) (hk : 0 < k) : sat_Neg.f k x = some (-clp x) := by
  have h := clp_b x
  unfold sat_Neg.f
  rw [clip_eq x hk, Option.bind_some, w64 (by omega) (by omega)]

theorem abs_eq {k : Nat} (x : Int) (hk : 0 < k) : sat_Abs.f k x = some (absC x) := by
  unfold sat_Abs.f absC
  split
  · rw [neg_eq x hk]; rfl
  · rw [clip_eq x hk]; rfl

theorem add_l0 (l : List Int) (hl : l.length ≤ 4611686018427387904) (d : Nat) : ∀ (k : Nat) (n i : Int), -2305843009213693952 ≤ n → n ≤ 2305843009213693952 → 0 ≤ i → i ≤ l.length → (l.length : Int) - i = d → d + 1 < k →
    sat_Add.l0 k n l (l.length : Int) i = some ((l.drop i.toNat).foldl (fun n x => clp (n + clp x)) n) := by
  induction d with
  | zero =>
    intro k n i _ _ h0 h1 hd hk
    obtain ⟨k, rfl⟩ : ∃ m, k = m + 1 := ⟨k - 1, by omega⟩
    simp only [sat_Add.l0]
    rw [if_neg (by omega), List.drop_eq_nil_of_le (by omega)]
    rfl
  | succ d ih =>
    intro k n i n1 n2 h0 h1 hd hk
    obtain ⟨k, rfl⟩ : ∃ m, k = m + 1 := ⟨k - 1, by omega⟩
    have hlt : i < (l.length : Int) := by omega
    have hc := clp_b (rd l i)
    have hs := clp_b (n + clp (rd l i))
    simp only [sat_Add.l0]
    rw [if_pos hlt, if_pos h0, if_pos hlt, clip_eq _ (by omega), Option.bind_some, w64 (n := n + clp (rd l i)) (by omega) (by omega), clip_eq _ (by omega), Option.bind_some, w64 (n := i + 1) (by omega) (by omega)]
    rw [ih k _ (i + 1) hs.1 hs.2 (by omega) (by omega) (by omega) (by omega), rd_drop h0 hlt]
    rfl
theorem add_eq {k : Nat} (l : List Int) (hl : l.length ≤ 4611686018427387904) (hk : l.length + 1 < k) : sat_Add.f k l = some (addL l) := by
  unfold sat_Add.f
  rw [add_l0 l hl l.length k 0 0 (by omega) (by omega) (by omega) (by omega) (by omega) hk]
  rfl

theorem sub_eq {k : Nat} (a b : Int) (hk : 0 < k) : sat_Sub.f k a b = some (sub a b) := by
  have h := clp_b a
  have h' := clp_b b
  unfold sat_Sub.f sub
  rw [clip_eq a hk, Option.bind_some, clip_eq b hk, Option.bind_some, w64 (by omega) (by omega), clip_eq _ hk, Option.bind_some]

theorem mul_eq {k : Nat} (a b : Int) (hk : 0 < k) : sat_Mul.f k a b = some (mulC a b) := by
  obtain ⟨k, rfl⟩ : ∃ m, k = m + 1 := ⟨k - 1, by omega⟩
  unfold sat_Mul.f
  rw [abs_eq a hk, Option.bind_some, abs_eq b hk, Option.bind_some]
  have hx := absC_b a
  have hy := absC_b b
  have ha : (a < 0 ∧ clp a = -absC a) ∨ (¬ a < 0 ∧ clp a = absC a) := by unfold absC; by_cases h : a < 0 <;> simp [h]
  have hb : (b < 0 ∧ clp b = -absC b) ∨ (¬ b < 0 ∧ clp b = absC b) := by unfold absC; by_cases h : b < 0 <;> simp [h]
  unfold mulC
  generalize absC a = x at *
  generalize absC b = y at *
  have hz : 0 ≤ x * y := Int.mul_nonneg hx.1 hy.1
  have key : ∀ (t : Bool), (t = true → x * y ≤ 2305843009213693952) → (t = false → 2305843009213693952 ≤ x * y) → sat_Mul.j0 (k + 1) a b x y 2305843009213693952 t = some (clp (clp a * clp b)) := by
    intro t h1 h2
    simp only [sat_Mul.j0]
    have e : clp a * clp b = x * y ∧ ((decide (a < 0)) != (decide (b < 0))) = false ∨ clp a * clp b = -(x * y) ∧ ((decide (a < 0)) != (decide (b < 0))) = true := by
      rcases ha with ⟨h3, h4⟩ | ⟨h3, h4⟩ <;> rcases hb with ⟨h5, h6⟩ | ⟨h5, h6⟩ <;> rw [h4, h6]
      · exact .inl ⟨Int.neg_mul_neg x y, by simp [h3, h5]⟩
      · exact .inr ⟨Int.neg_mul x y, by simp [h3, h5]⟩
      · exact .inr ⟨Int.mul_neg x y, by simp [h3, h5]⟩
      · exact .inl ⟨rfl, by simp [h3, h5]⟩
    have c1 : t = true → clp (x * y) = x * y := fun h => clp_id (by omega) (h1 h)
    have c2 : t = false → clp (x * y) = 2305843009213693952 := fun h => by have := h2 h; unfold clp; split <;> (try split) <;> omega
    rcases e with ⟨e1, e2⟩ | ⟨e1, e2⟩ <;> rw [e1, e2] <;> cases t <;> simp only [if_true, if_false, Bool.false_eq_true]
    · rw [c2 rfl]
    · rw [w64 (by omega) (by have := h1 rfl; omega), c1 rfl]
    · rw [clp_neg, c2 rfl, w64 (by omega) (by omega)]
    · rw [w64 (n := x * y) (by omega) (by have := h1 rfl; omega), w64 (by have := h1 rfl; omega) (by have := h1 rfl; omega), clp_neg, c1 rfl]
  by_cases h0 : x = 0
  · rw [if_pos h0]
    exact key true (fun _ => by rw [h0]; simp) (fun h => by cases h)
  · rw [if_neg h0]
    have hx0 : 0 < x := by omega
    have hq1 : 0 ≤ (2305843009213693952 : Int) / x := Int.ediv_nonneg (by omega) hx.1
    have hq2 : (2305843009213693952 : Int) / x ≤ 2305843009213693952 := Int.ediv_le_self _ (by omega)
    rw [w64 (by omega) (by omega)]
    have hiff : y ≤ (2305843009213693952 : Int) / x ↔ y * x ≤ 2305843009213693952 := Int.le_ediv_iff_mul_le hx0
    rw [Int.mul_comm y x] at hiff
    exact key _ (fun h => hiff.1 (of_decide_eq_true h)) (fun h => by have := of_decide_eq_false h; rw [hiff] at this; omega)

/-- The pure statement of the law. -/
def Pure : Prop := ∀ (a0 : Int) (a1 : Int), (Lit.int .i32 a0).wf = true → (Lit.int .i32 a1).wf = true → ∃ k, clepsydralaw01_SatTrue.f k a0 a1 = some true

theorem wb32 {n : Int} (h : (Lit.int .i32 n).wf = true) : -2147483648 ≤ n ∧ n ≤ 2147483647 := Go.bounds_i32 h
theorem SatTrue : Pure := by
  intro a b ha hb
  have ha := wb32 ha
  have hb := wb32 hb
  have hp : -4611686018427387904 ≤ a * b ∧ a * b ≤ 4611686018427387904 := by
    have h1 : (a * b).natAbs ≤ 2147483648 * 2147483648 := by rw [Int.natAbs_mul]; exact Nat.mul_le_mul (by omega) (by omega)
    omega
  refine ⟨10, ?_⟩
  unfold clepsydralaw01_SatTrue.f
  rw [w64 (n := a) (by omega) (by omega), w64 (n := b) (by omega) (by omega), w64 (n := a * b) (by omega) (by omega), add_eq [3, 4] (by simp) (by simp), Option.bind_some, if_pos (by decide)]
  have ca : clp a = a := clp_id (by omega) (by omega)
  have cb : clp b = b := clp_id (by omega) (by omega)
  have big : a * b > 2305843009213693952 ∨ a * b < -2305843009213693952 → clepsydralaw01_SatTrue.j0 10 a b (a * b) true = some true := by
    intro h
    simp only [clepsydralaw01_SatTrue.j0, if_true]
    rw [mul_eq a b (by omega), Option.bind_some, abs_eq _ (by omega), Option.bind_some, mulC, ca, cb]
    have e : absC (clp (a * b)) = 2305843009213693952 := by
      unfold absC clp
      repeat' split
      all_goals omega
    rw [e]; rfl
  have small : -2305843009213693952 ≤ a * b → a * b ≤ 2305843009213693952 → clepsydralaw01_SatTrue.j0 10 a b (a * b) false = some true := by
    intro h1 h2
    simp only [clepsydralaw01_SatTrue.j0, Bool.false_eq_true, if_false]
    rw [add_eq [a, b] (by simp) (by simp), Option.bind_some, add2, ca, cb, clp_id (by omega) (by omega), w64 (n := a + b) (by omega) (by omega), if_pos rfl, sub_eq a b (by omega), Option.bind_some, sub, ca, cb, clp_id (by omega) (by omega), w64 (n := a - b) (by omega) (by omega), if_pos rfl, mul_eq a b (by omega), Option.bind_some, mulC, ca, cb, clp_id h1 h2]
    simp
  by_cases h : a * b > 2305843009213693952
  · rw [if_pos h]; exact big (.inl h)
  · rw [if_neg h]
    by_cases h2 : a * b < -2305843009213693952
    · rw [decide_eq_true h2]; exact big (.inr h2)
    · rw [decide_eq_false h2]; exact small (by omega) (by omega)

end Go.Proofs.Ytopaldkmgaflmaa.VSatTrue
