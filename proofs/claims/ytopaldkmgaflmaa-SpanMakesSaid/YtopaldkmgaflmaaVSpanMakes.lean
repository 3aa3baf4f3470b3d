/- All, Of, Empty, Has, Shift, Wide and Mid answer what the reference answers, for all spans and numbers. -/
import Derived.Test.YtopaldkmgaflmaaQx26
import Derived.OpenShut
set_option linter.unusedVariables false
set_option linter.unusedSimpArgs false
namespace Go.Proofs.Ytopaldkmgaflmaa.VSpanMakes
open Go.RowKit Go.Proofs.Ytopaldkmgaflmaa.Q Go.Proofs.YtopaldkmgaflmaaW.PrintWords Go.Proofs.YtopaldkmgaflmaaW.PrintLast Go.Proofs.YtopaldkmgaflmaaW.PrintMore

theorem wb {n : Int} (h : (Lit.int .i64 n).wf = true) : -9223372036854775808 ≤ n ∧ n ≤ 9223372036854775807 := Go.bounds_i64 h
theorem w64 {n : Int} (h1 : -9223372036854775808 ≤ n) (h2 : n ≤ 9223372036854775807) : wrap64 n = n := by unfold wrap64; omega
def clp (x : Int) : Int := if x < -2305843009213693952 then -2305843009213693952 else if 2305843009213693952 < x then 2305843009213693952 else x
theorem clp_b (x : Int) : -2305843009213693952 ≤ clp x ∧ clp x ≤ 2305843009213693952 := by unfold clp; split <;> (try split) <;> omega
theorem clp_id {x : Int} (h1 : -2305843009213693952 ≤ x) (h2 : x ≤ 2305843009213693952) : clp x = x := by unfold clp; rw [if_neg (by omega), if_neg (by omega)]
theorem clp_neg (x : Int) : clp (-x) = -clp x := by unfold clp; split <;> (try split) <;> (try split) <;> (try split) <;> omega
def bnd (x lo hi : Int) : Int := if x < lo ∨ hi < lo then lo else if hi < x then hi else x
def addL (l : List Int) : Int := l.foldl (fun n x => clp (n + clp x)) 0
def sub (a b : Int) : Int := clp (clp a - clp b)
def absC (a : Int) : Int := if a < 0 then -clp a else clp a
theorem absC_b (x : Int) : 0 ≤ absC x ∧ absC x ≤ 2305843009213693952 := by have := clp_b x; unfold absC; unfold clp at *; split <;> omega
theorem add2 (a b : Int) : addL [a, b] = clp (clp a + clp b) := by
  have h := clp_b a
  simp only [addL, List.foldl_cons, List.foldl_nil, Int.zero_add]
  rw [clp_id h.1 h.2]
theorem add3 (a b c : Int) : addL [a, b, c] = clp (clp (clp a + clp b) + clp c) := by
  have h := clp_b a
  simp only [addL, List.foldl_cons, List.foldl_nil, Int.zero_add]
  rw [clp_id h.1 h.2]
theorem rd_drop {l : List Int} {i : Int} (h0 : 0 ≤ i) (h1 : i < (l.length : Int)) : l.drop i.toNat = rd l i :: l.drop (i + 1).toNat := by
  have h : i.toNat < l.length := by omega
  rw [List.drop_eq_getElem_cons h, show (i + 1).toNat = i.toNat + 1 from by omega]
  congr 1
  simp [rd, List.getD_eq_getElem?_getD, List.getElem?_eq_getElem h]
def mulC (a b : Int) : Int := clp (clp a * clp b)
theorem mulC_b (a b : Int) : -2305843009213693952 ≤ mulC a b ∧ mulC a b ≤ 2305843009213693952 := clp_b _
theorem sub_b (a b : Int) : -2305843009213693952 ≤ sub a b ∧ sub a b ≤ 2305843009213693952 := clp_b _
theorem addL_b (l : List Int) : -2305843009213693952 ≤ addL l ∧ addL l ≤ 2305843009213693952 := by
  unfold addL
  suffices h : ∀ (l : List Int) (n : Int), -2305843009213693952 ≤ n → n ≤ 2305843009213693952 → -2305843009213693952 ≤ l.foldl (fun n x => clp (n + clp x)) n ∧ l.foldl (fun n x => clp (n + clp x)) n ≤ 2305843009213693952 from h l 0 (by omega) (by omega)
  intro l
  induction l with
  | nil => intro n h1 h2; exact ⟨h1, h2⟩
  | cons x l ih => intro n _ _; exact ih _ (clp_b _).1 (clp_b _).2

theorem bound_eq {k : Nat} (x lo hi : Int) (hk : 0 < k) : sat_Bound.f k x lo hi = some (bnd x lo hi) := by
  obtain ⟨k, rfl⟩ : ∃ m, k = m + 1 := ⟨k - 1, by omega⟩
  unfold sat_Bound.f bnd
  simp only [sat_Bound.j0]
  by_cases h1 : x < lo
  · simp [h1]
  · by_cases h2 : hi < lo
    · simp [h1, h2]
    · simp only [h1, h2, if_false, false_or, decide_false, if_neg]
      by_cases h3 : hi < x
      · simp [h3]
      · simp [h3]
theorem clip_eq {k : Nat} (x : Int) (hk : 0 < k) : sat_Clip.f k x = some (clp x) := by
  unfold sat_Clip.f
  rw [bound_eq x _ _ hk]
  simp only [Option.bind_some, bnd, clp]
  congr 1
  split <;> split <;> (try split) <;> omega

theorem add_l0 (l : List Int) (hl : l.length ≤ 4611686018427387904) (d : Nat) : ∀ (k : Nat) (n i : Int), -2305843009213693952 ≤ n → n ≤ 2305843009213693952 → 0 ≤ i → i ≤ l.length → (l.length : Int) - i = d → d + 1 < k →
    sat_Add.l0 k n l (l.length : Int) i = some ((l.drop i.toNat).foldl (fun n x => clp (n + clp x)) n) := by
  induction d with
  | zero =>
    intro k n i _ _ h0 h1 hd hk
    obtain ⟨k, rfl⟩ : ∃ m, k = m + 1 := ⟨k - 1, by omega⟩
    simp only [sat_Add.l0]
    rw [if_neg (by omega), List.drop_eq_nil_of_le (by omega)]
    rfl
  | succ d ih =>
    intro k n i n1 n2 h0 h1 hd hk
    obtain ⟨k, rfl⟩ : ∃ m, k = m + 1 := ⟨k - 1, by omega⟩
    have hlt : i < (l.length : Int) := by omega
    have hc := clp_b (rd l i)
    have hs := clp_b (n + clp (rd l i))
    simp only [sat_Add.l0]
    rw [if_pos hlt, if_pos h0, if_pos hlt, clip_eq _ (by omega), Option.bind_some, w64 (n := n + clp (rd l i)) (by omega) (by omega), clip_eq _ (by omega), Option.bind_some, w64 (n := i + 1) (by omega) (by omega)]
    rw [ih k _ (i + 1) hs.1 hs.2 (by omega) (by omega) (by omega) (by omega), rd_drop h0 hlt]
    rfl
theorem add_eq {k : Nat} (l : List Int) (hl : l.length ≤ 4611686018427387904) (hk : l.length + 1 < k) : sat_Add.f k l = some (addL l) := by
  unfold sat_Add.f
  rw [add_l0 l hl l.length k 0 0 (by omega) (by omega) (by omega) (by omega) (by omega) hk]
  rfl

theorem sub_eq {k : Nat} (a b : Int) (hk : 0 < k) : sat_Sub.f k a b = some (sub a b) := by
  have h := clp_b a
  have h' := clp_b b
  unfold sat_Sub.f sub
  rw [clip_eq a hk, Option.bind_some, clip_eq b hk, Option.bind_some, w64 (by omega) (by omega), clip_eq _ hk, Option.bind_some]

theorem rclip_eq (x : Int) : clepsydraref01_Clip.f x = some (clp x) := by
  unfold clepsydraref01_Clip.f clp
  by_cases h1 : x > 2305843009213693952
  · rw [if_pos h1, if_neg (by omega), if_pos (by omega)]
  · rw [if_neg h1]
    by_cases h2 : x < -2305843009213693952
    · rw [if_pos h2, if_pos h2]
    · rw [if_neg h2, if_neg h2, if_neg (by omega)]

theorem radd_l0 (l : List Int) (hl : l.length ≤ 4611686018427387904) (d : Nat) : ∀ (k : Nat) (n i : Int), -2305843009213693952 ≤ n → n ≤ 2305843009213693952 → 0 ≤ i → i ≤ l.length → (l.length : Int) - i = d → d < k →
    clepsydraref01_Add.l0 k n l (l.length : Int) i = some ((l.drop i.toNat).foldl (fun n x => clp (n + clp x)) n) := by
  induction d with
  | zero =>
    intro k n i _ _ h0 h1 hd hk
    obtain ⟨k, rfl⟩ : ∃ m, k = m + 1 := ⟨k - 1, by omega⟩
    simp only [clepsydraref01_Add.l0]
    rw [if_neg (by omega), List.drop_eq_nil_of_le (by omega)]
    rfl
  | succ d ih =>
    intro k n i n1 n2 h0 h1 hd hk
    obtain ⟨k, rfl⟩ : ∃ m, k = m + 1 := ⟨k - 1, by omega⟩
    have hlt : i < (l.length : Int) := by omega
    have hc := clp_b (rd l i)
    have hs := clp_b (n + clp (rd l i))
    simp only [clepsydraref01_Add.l0]
    rw [if_pos hlt, if_pos h0, if_pos hlt, rclip_eq _, Option.bind_some, w64 (n := n + clp (rd l i)) (by omega) (by omega), rclip_eq _, Option.bind_some, w64 (n := i + 1) (by omega) (by omega)]
    rw [ih k _ (i + 1) hs.1 hs.2 (by omega) (by omega) (by omega) (by omega), rd_drop h0 hlt]
    rfl
theorem radd_eq {k : Nat} (l : List Int) (hl : l.length ≤ 4611686018427387904) (hk : l.length + 1 < k) : clepsydraref01_Add.f k l = some (addL l) := by
  unfold clepsydraref01_Add.f
  rw [radd_l0 l hl l.length k 0 0 (by omega) (by omega) (by omega) (by omega) (by omega) (by omega)]
  rfl

theorem rsub_eq (a b : Int) : clepsydraref01_Sub.f a b = some (sub a b) := by
  have h := clp_b a
  have h' := clp_b b
  unfold clepsydraref01_Sub.f sub
  rw [rclip_eq a, Option.bind_some, rclip_eq b, Option.bind_some, w64 (by omega) (by omega), rclip_eq _, Option.bind_some]

theorem of_eq {k : Nat} (a b : Int) (hk : 0 < k) : span_Of.f k a b = some (clp a, clp b) := by
  unfold span_Of.f
  rw [clip_eq a hk, Option.bind_some, clip_eq b hk, Option.bind_some]

def midC (a b : Int) : Int := (clp a + clp b) / 2
theorem mid_eq {k : Nat} (a b : Int) (hk : 0 < k) : span_Mid.f k a b = some (midC a b) := by
  have h := clp_b a
  have h' := clp_b b
  unfold span_Mid.f
  rw [clip_eq a hk, Option.bind_some, clip_eq b hk, Option.bind_some, w64 (by omega) (by omega)]
  rfl

theorem shift_eq {k : Nat} (a b lo hi : Int) (hk : 10 < k) : span_Shift.f k a b lo hi = some (addL [a, lo], addL [b, hi]) := by
  unfold span_Shift.f
  rw [add_eq [a, lo] (by simp) (by simp; omega), Option.bind_some, add_eq [b, hi] (by simp) (by simp; omega), Option.bind_some]

/-- The pure statement of the law. -/
def Pure : Prop := ∀ (a0_0 : Int) (a0_1 : Int) (a1 : Int) (a2 : Int) (a3 : Int), (Lit.int .i64 a0_0).wf = true → (Lit.int .i64 a0_1).wf = true → (Lit.int .i64 a1).wf = true → (Lit.int .i64 a2).wf = true → (Lit.int .i64 a3).wf = true → ∃ k, clepsydralaw03_SpanMakes.f k a0_0 a0_1 a1 a2 a3 = some true

theorem tdiv2 (n : Int) : Int.tdiv n 2 = if 0 ≤ n then n / 2 else -((-n) / 2) := by
  by_cases h : 0 ≤ n
  · rw [if_pos h, Int.tdiv_eq_ediv_of_nonneg h]
  · rw [if_neg h, ← Int.tdiv_eq_ediv_of_nonneg (show 0 ≤ -n by omega), Int.neg_tdiv, Int.neg_neg]
theorem tmod2 (n : Int) : Int.tmod n 2 = n - 2 * Int.tdiv n 2 := Int.tmod_def n 2
theorem rmid_eq (a b : Int) : clepsydraref03_Mid.f a b = some (midC a b) := by
  have h := clp_b a
  have h' := clp_b b
  unfold clepsydraref03_Mid.f midC
  rw [rclip_eq, Option.bind_some, rclip_eq, Option.bind_some, w64 (n := clp a + clp b) (by omega) (by omega)]
  have hn : -4611686018427387904 ≤ clp a + clp b ∧ clp a + clp b ≤ 4611686018427387904 := by omega
  generalize clp a + clp b = n at *
  by_cases hm : Int.tmod n 2 = 0
  · rw [if_pos hm]
    have e : Int.tdiv n 2 = n / 2 := by rw [tmod2, tdiv2] at hm; rw [tdiv2]; split at hm <;> split <;> omega
    rw [e, w64 (by omega) (by omega)]
  · rw [if_neg hm, w64 (n := n - 1) (by omega) (by omega)]
    have e : Int.tdiv (n - 1) 2 = n / 2 := by rw [tmod2, tdiv2] at hm; rw [tdiv2]; split at hm <;> split <;> omega
    rw [e, w64 (by omega) (by omega)]
theorem SpanMakes : Pure := by
  intro s0 s1 x lo hi _ _ _ _ _
  refine ⟨20, ?_⟩
  unfold clepsydralaw03_SpanMakes.f
  rw [mid_eq 3 6 (by omega), Option.bind_some, if_pos (by decide)]
  unfold span_All.f
  rw [Option.bind_some]
  simp only [clepsydralaw03_SpanMakes.j0]
  rw [if_neg (by decide), of_eq _ _ (by omega), Option.bind_some]
  unfold clepsydraref03_Of.f
  rw [rclip_eq, Option.bind_some, rclip_eq, Option.bind_some, Option.bind_some, if_pos (by simp)]
  unfold span_Empty.f
  rw [Option.bind_some, if_pos (by simp)]
  unfold span_Has.f clepsydraref03_Has.f
  have hh : (if s0 ≤ x then some (decide (x ≤ s1)) else some false) = some (decide (s0 ≤ x ∧ x ≤ s1)) := by by_cases h : s0 ≤ x <;> simp [h]
  have hh2 : (if x ≥ s0 then some (decide (x ≤ s1)) else some false) = some (decide (s0 ≤ x ∧ x ≤ s1)) := by by_cases h : s0 ≤ x <;> simp [h]
  first | rw [hh, Option.bind_some, Option.bind_some] | rw [hh, hh2, Option.bind_some, Option.bind_some]
  rw [if_pos (by simp), shift_eq _ _ _ _ (by omega), Option.bind_some]
  unfold clepsydraref03_Shift.f
  rw [radd_eq [s0, lo] (by simp) (by simp), Option.bind_some, radd_eq [s1, hi] (by simp) (by simp), Option.bind_some, Option.bind_some, if_pos (by simp)]
  have hw : span_Wide.f 19 s0 s1 = clepsydraref03_Wide.f s0 s1 := by
    unfold span_Wide.f clepsydraref03_Wide.f span_Empty.f
    rw [Option.bind_some]
    by_cases h : s0 > s1
    · rw [decide_eq_true h, if_pos rfl, if_pos h]
    · rw [decide_eq_false h, if_neg (by decide), if_neg h, sub_eq _ _ (by omega), rsub_eq]
  have hws : ∃ n, clepsydraref03_Wide.f s0 s1 = some n := by
    unfold clepsydraref03_Wide.f
    by_cases h : s0 > s1
    · exact ⟨_, if_pos h⟩
    · exact ⟨sub s1 s0, by rw [if_neg h, rsub_eq]; rfl⟩
  obtain ⟨n, hn⟩ := hws
  rw [hw, hn, Option.bind_some, Option.bind_some, if_pos rfl, mid_eq _ _ (by omega), Option.bind_some, rmid_eq, Option.bind_some]
  simp

end Go.Proofs.Ytopaldkmgaflmaa.VSpanMakes
