/- No answer is beyond the greatest; sums and products don't hang on the order of two numbers; a greater number more never makes less; for all numbers. -/
import Derived.Test.YtopaldkmgaflmaaQx28
import Derived.OpenShut
set_option linter.unusedVariables false
set_option linter.unusedSimpArgs false
namespace Go.Proofs.Ytopaldkmgaflmaa.VSatStays
open Go.RowKit Go.Proofs.Ytopaldkmgaflmaa.Q Go.Proofs.YtopaldkmgaflmaaW.PrintWords Go.Proofs.YtopaldkmgaflmaaW.PrintLast Go.Proofs.YtopaldkmgaflmaaW.PrintMore

theorem wb {n : Int} (h : (Lit.int .i64 n).wf = true) : -9223372036854775808 ≤ n ∧ n ≤ 9223372036854775807 := Go.bounds_i64 h
theorem w64 {n : Int} (h1 : -9223372036854775808 ≤ n) (h2 : n ≤ 9223372036854775807) : wrap64 n = n := by unfold wrap64; omega
def clp (x : Int) : Int := if x < -2305843009213693952 then -2305843009213693952 else if 2305843009213693952 < x then 2305843009213693952 else x
theorem clp_b (x : Int) : -2305843009213693952 ≤ clp x ∧ clp x ≤ 2305843009213693952 := by unfold clp; split <;> (try split) <;> omega
theorem clp_id {x : Int} (h1 : -2305843009213693952 ≤ x) (h2 : x ≤ 2305843009213693952) : clp x = x := by unfold clp; rw [if_neg (by omega), if_neg (by omega)]
theorem clp_neg (x : Int) : clp (-x) = -clp x := by unfold clp; split <;> (try split) <;> (try split) <;> (try split) <;> omega
def bnd (x lo hi : Int) : Int := if x < lo ∨ hi < lo then lo else if hi < x then hi else x
def addL (l : List Int) : Int := l.foldl (fun n x => clp (n + clp x)) 0
def sub (a b : Int) : Int := clp (clp a - clp b)
def absC (a : Int) : Int := if a < 0 then -clp a else clp a
theorem absC_b (x : Int) : 0 ≤ absC x ∧ absC x ≤ 2305843009213693952 := by have := clp_b x; unfold absC; unfold clp at *; split <;> omega
theorem add2 (a b : Int) : addL [a, b] = clp (clp a + clp b) := by
  have h := clp_b a
  simp only [addL, List.foldl_cons, List.foldl_nil, Int.zero_add]
  rw [clp_id h.1 h.2]
theorem add3 (a b c : Int) : addL [a, b, c] = clp (clp (clp a + clp b) + clp c) := by
  have h := clp_b a
  simp only [addL, List.foldl_cons, List.foldl_nil, Int.zero_add]
  rw [clp_id h.1 h.2]
theorem rd_drop {l : List Int} {i : Int} (h0 : 0 ≤ i) (h1 : i < (l.length : Int)) : l.drop i.toNat = rd l i :: l.drop (i + 1).toNat := by
  have h : i.toNat < l.length := by omega
  rw [List.drop_eq_getElem_cons h, show (i + 1).toNat = i.toNat + 1 from by omega]
  congr 1
  simp [rd, List.getD_eq_getElem?_getD, List.getElem?_eq_getElem h]
def mulC (a b : Int) : Int := clp (clp a * clp b)
theorem mulC_b (a b : Int) : -2305843009213693952 ≤ mulC a b ∧ mulC a b ≤ 2305843009213693952 := clp_b _
theorem sub_b (a b : Int) : -2305843009213693952 ≤ sub a b ∧ sub a b ≤ 2305843009213693952 := clp_b _
theorem addL_b (l : List Int) : -2305843009213693952 ≤ addL l ∧ addL l ≤ 2305843009213693952 := by
  unfold addL
  suffices h : ∀ (l : List Int) (n : Int), -2305843009213693952 ≤ n → n ≤ 2305843009213693952 → -2305843009213693952 ≤ l.foldl (fun n x => clp (n + clp x)) n ∧ l.foldl (fun n x => clp (n + clp x)) n ≤ 2305843009213693952 from h l 0 (by omega) (by omega)
  intro l
  induction l with
  | nil => intro n h1 h2; exact ⟨h1, h2⟩
  | cons x l ih => intro n _ _; exact ih _ (clp_b _).1 (clp_b _).2

theorem bound_eq {k : Nat} (x lo hi : Int) (hk : 0 < k) : sat_Bound.f k x lo hi = some (bnd x lo hi) := by
  obtain ⟨k, rfl⟩ : ∃ m, k = m + 1 := ⟨k - 1, by omega⟩
  unfold sat_Bound.f bnd
  simp only [sat_Bound.j0]
  by_cases h1 : x < lo
  · simp [h1]
  · by_cases h2 : hi < lo
    · simp [h1, h2]
    · simp only [h1, h2, if_false, false_or, decide_false, if_neg]
      by_cases h3 : hi < x
      · simp [h3]
      · simp [h3]
theorem clip_eq {k : Nat} (x : Int) (hk : 0 < k) : sat_Clip.f k x = some (clp x) := by
  unfold sat_Clip.f
  rw [bound_eq x _ _ hk]
  simp only [Option.bind_some, bnd, clp]
  congr 1
  split <;> split <;> (try split) <;> omega

theorem neg_eq {k : Nat} (x : Int) (hk : 0 < k) : sat_Neg.f k x = some (-clp x) := by
  have h := clp_b x
  unfold sat_Neg.f
  rw [clip_eq x hk, Option.bind_some, w64 (by omega) (by omega)]

theorem abs_eq {k : Nat} (x : Int) (hk : 0 < k) : sat_Abs.f k x = some (absC x) := by
  unfold sat_Abs.f absC
  split
  · rw [neg_eq x hk]; rfl
  · rw [clip_eq x hk]; rfl

theorem add_l0 (l : List Int) (hl : l.length ≤ 4611686018427387904) (d : Nat) : ∀ (k : Nat) (n i : Int), -2305843009213693952 ≤ n → n ≤ 2305843009213693952 → 0 ≤ i → i ≤ l.length → (l.length : Int) - i = d → d + 1 < k →
    sat_Add.l0 k n l (l.length : Int) i = some ((l.drop i.toNat).foldl (fun n x => clp (n + clp x)) n) := by
  induction d with
  | zero =>
    intro k n i _ _ h0 h1 hd hk
    obtain ⟨k, rfl⟩ : ∃ m, k = m + 1 := ⟨k - 1, by omega⟩
    simp only [sat_Add.l0]
    rw [if_neg (by omega), List.drop_eq_nil_of_le (by omega)]
    rfl
  | succ d ih =>
    intro k n i n1 n2 h0 h1 hd hk
    obtain ⟨k, rfl⟩ : ∃ m, k = m + 1 := ⟨k - 1, by omega⟩
    have hlt : i < (l.length : Int) := by omega
    have hc := clp_b (rd l i)
    have hs := clp_b (n + clp (rd l i))
    simp only [sat_Add.l0]
    rw [if_pos hlt, if_pos h0, if_pos hlt, clip_eq _ (by omega), Option.bind_some, w64 (n := n + clp (rd l i)) (by omega) (by omega), clip_eq _ (by omega), Option.bind_some, w64 (n := i + 1) (by omega) (by omega)]
    rw [ih k _ (i + 1) hs.1 hs.2 (by omega) (by omega) (by omega) (by omega), rd_drop h0 hlt]
    rfl
theorem add_eq {k : Nat} (l : List Int) (hl : l.length ≤ 4611686018427387904) (hk : l.length + 1 < k) : sat_Add.f k l = some (addL l) := by
  unfold sat_Add.f
  rw [add_l0 l hl l.length k 0 0 (by omega) (by omega) (by omega) (by omega) (by omega) hk]
  rfl

theorem sub_eq {k : Nat} (a b : Int) (hk : 0 < k) : sat_Sub.f k a b = some (sub a b) := by
  have h := clp_b a
  have h' := clp_b b
  unfold sat_Sub.f sub
  rw [clip_eq a hk, Option.bind_some, clip_eq b hk, Option.bind_some, w64 (by omega) (by omega), clip_eq _ hk, Option.bind_some]

theorem mul_eq {k : Nat} (a b : Int) (hk : 0 < k) : sat_Mul.f k a b = some (mulC a b) := by
  obtain ⟨k, rfl⟩ : ∃ m, k = m + 1 := ⟨k - 1, by omega⟩
  unfold sat_Mul.f
  rw [abs_eq a hk, Option.bind_some, abs_eq b hk, Option.bind_some]
  have hx := absC_b a
  have hy := absC_b b
  have ha : (a < 0 ∧ clp a = -absC a) ∨ (¬ a < 0 ∧ clp a = absC a) := by unfold absC; by_cases h : a < 0 <;> simp [h]
  have hb : (b < 0 ∧ clp b = -absC b) ∨ (¬ b < 0 ∧ clp b = absC b) := by unfold absC; by_cases h : b < 0 <;> simp [h]
  unfold mulC
  generalize absC a = x at *
  generalize absC b = y at *
  have hz : 0 ≤ x * y := Int.mul_nonneg hx.1 hy.1
  have key : ∀ (t : Bool), (t = true → x * y ≤ 2305843009213693952) → (t = false → 2305843009213693952 ≤ x * y) → sat_Mul.j0 (k + 1) a b x y 2305843009213693952 t = some (clp (clp a * clp b)) := by
    intro t h1 h2
    simp only [sat_Mul.j0]
    have e : clp a * clp b = x * y ∧ ((decide (a < 0)) != (decide (b < 0))) = false ∨ clp a * clp b = -(x * y) ∧ ((decide (a < 0)) != (decide (b < 0))) = true := by
      rcases ha with ⟨h3, h4⟩ | ⟨h3, h4⟩ <;> rcases hb with ⟨h5, h6⟩ | ⟨h5, h6⟩ <;> rw [h4, h6]
      · exact .inl ⟨Int.neg_mul_neg x y, by simp [h3, h5]⟩
      · exact .inr ⟨Int.neg_mul x y, by simp [h3, h5]⟩
      · exact .inr ⟨Int.mul_neg x y, by simp [h3, h5]⟩
      · exact .inl ⟨rfl, by simp [h3, h5]⟩
    have c1 : t = true → clp (x * y) = x * y := fun h => clp_id (by omega) (h1 h)
    have c2 : t = false → clp (x * y) = 2305843009213693952 := fun h => by have := h2 h; unfold clp; split <;> (try split) <;> omega
    rcases e with ⟨e1, e2⟩ | ⟨e1, e2⟩ <;> rw [e1, e2] <;> cases t <;> simp only [if_true, if_false, Bool.false_eq_true]
    · rw [c2 rfl]
    · rw [w64 (by omega) (by have := h1 rfl; omega), c1 rfl]
    · rw [clp_neg, c2 rfl, w64 (by omega) (by omega)]
    · rw [w64 (n := x * y) (by omega) (by have := h1 rfl; omega), w64 (by have := h1 rfl; omega) (by have := h1 rfl; omega), clp_neg, c1 rfl]
  by_cases h0 : x = 0
  · rw [if_pos h0]
    exact key true (fun _ => by rw [h0]; simp) (fun h => by cases h)
  · rw [if_neg h0]
    have hx0 : 0 < x := by omega
    have hq1 : 0 ≤ (2305843009213693952 : Int) / x := Int.ediv_nonneg (by omega) hx.1
    have hq2 : (2305843009213693952 : Int) / x ≤ 2305843009213693952 := Int.ediv_le_self _ (by omega)
    rw [w64 (by omega) (by omega)]
    have hiff : y ≤ (2305843009213693952 : Int) / x ↔ y * x ≤ 2305843009213693952 := Int.le_ediv_iff_mul_le hx0
    rw [Int.mul_comm y x] at hiff
    exact key _ (fun h => hiff.1 (of_decide_eq_true h)) (fun h => by have := of_decide_eq_false h; rw [hiff] at this; omega)

def maxL (l : List Int) : Int := l.foldl (fun n x => mx n (clp x)) (-2305843009213693952)
def minL (l : List Int) : Int := l.foldl (fun n x => mn n (clp x)) 2305843009213693952
theorem max_l0 (l : List Int) (hl : l.length ≤ 4611686018427387904) (d : Nat) : ∀ (k : Nat) (n i : Int), 0 ≤ i → i ≤ l.length → (l.length : Int) - i = d → d + 1 < k →
    sat_Max.l0 k n l (l.length : Int) i = some ((l.drop i.toNat).foldl (fun n x => mx n (clp x)) n) := by
  induction d with
  | zero =>
    intro k n i h0 h1 hd hk
    obtain ⟨k, rfl⟩ : ∃ m, k = m + 1 := ⟨k - 1, by omega⟩
    simp only [sat_Max.l0]
    rw [if_neg (by omega), List.drop_eq_nil_of_le (by omega)]
    rfl
  | succ d ih =>
    intro k n i h0 h1 hd hk
    obtain ⟨k, rfl⟩ : ∃ m, k = m + 1 := ⟨k - 1, by omega⟩
    have hlt : i < (l.length : Int) := by omega
    simp only [sat_Max.l0]
    rw [if_pos hlt, if_pos h0, if_pos hlt, clip_eq _ (by omega), Option.bind_some, w64 (n := i + 1) (by omega) (by omega)]
    rw [ih k _ (i + 1) (by omega) (by omega) (by omega) (by omega), rd_drop h0 hlt]
    rfl
theorem max_eq {k : Nat} (l : List Int) (hl : l.length ≤ 4611686018427387904) (hk : l.length + 1 < k) : sat_Max.f k l = some (maxL l) := by
  unfold sat_Max.f
  rw [max_l0 l hl l.length k _ 0 (by omega) (by omega) (by omega) hk]
  rfl

/-- The pure statement of the law. -/
def Pure : Prop := ∀ (a0 : Int) (a1 : Int) (a2 : Int), (Lit.int .i64 a0).wf = true → (Lit.int .i64 a1).wf = true → (Lit.int .i64 a2).wf = true → ∃ k, clepsydralaw01_SatStays.f k a0 a1 a2 = some true

theorem clp_mono {x y : Int} (h : x ≤ y) : clp x ≤ clp y := by unfold clp; repeat' split
                                                               all_goals omega
theorem stays_end (a b c less more : Int) (h : less ≤ more) : clepsydralaw01_SatStays.j0 10 a b less more = some true := by
  have e1 : ∀ x y : Int, addL [x, y] = addL [y, x] := by intro x y; rw [add2, add2, Int.add_comm]
  have e2 : mulC a b = mulC b a := by unfold mulC; rw [Int.mul_comm]
  have e3 : addL [a, less] ≤ addL [a, more] := by rw [add2, add2]; have := clp_mono h; exact clp_mono (by omega)
  have e4 : sub a less ≥ sub a more := by unfold sub; have := clp_mono h; exact clp_mono (by omega)
  simp only [clepsydralaw01_SatStays.j0]
  rw [add_eq [a, b] (by simp) (by simp), Option.bind_some, add_eq [b, a] (by simp) (by simp), Option.bind_some, if_pos (e1 a b), mul_eq a b (by omega), Option.bind_some, mul_eq b a (by omega), Option.bind_some, if_pos e2, add_eq [a, less] (by simp) (by simp), Option.bind_some, add_eq [a, more] (by simp) (by simp), Option.bind_some, if_pos e3, sub_eq a less (by omega), Option.bind_some, sub_eq a more (by omega), Option.bind_some, decide_eq_true e4]
theorem maxL2_b (a b : Int) : -2305843009213693952 ≤ maxL [a, b] ∧ maxL [a, b] ≤ 2305843009213693952 := by
  have h1 := clp_b a
  have h2 := clp_b b
  simp only [maxL, List.foldl_cons, List.foldl_nil]
  unfold mx
  repeat' split
  all_goals omega
theorem SatStays : Pure := by
  intro a b c _ _ _
  refine ⟨10, ?_⟩
  have h1 := addL_b [a, b]
  have h2 := sub_b a b
  have h3 := mulC_b a b
  have h4 := addL_b [a, b, c]
  have h5 := absC_b a
  have h6 := maxL2_b a b
  unfold clepsydralaw01_SatStays.f
  rw [add_eq [3, 4] (by simp) (by simp), Option.bind_some, if_pos (by decide), add_eq [a, b] (by simp) (by simp), Option.bind_some, sub_eq a b (by omega), Option.bind_some, mul_eq a b (by omega), Option.bind_some, add_eq [a, b, c] (by simp) (by simp), Option.bind_some, abs_eq a (by omega), Option.bind_some, max_eq [a, b] (by simp) (by simp), Option.bind_some]
  rw [if_neg (by omega), if_neg (by omega), if_neg (by omega), if_neg (by omega), if_neg (by omega), if_neg (by omega), if_neg (by omega), if_neg (by omega), if_neg (by omega), if_neg (by omega), if_neg (by omega), if_neg (by omega)]
  by_cases h : b > c
  · rw [if_pos h]; exact stays_end a b c c b (by omega)
  · rw [if_neg h]; exact stays_end a b c b c (by omega)

end Go.Proofs.Ytopaldkmgaflmaa.VSatStays
