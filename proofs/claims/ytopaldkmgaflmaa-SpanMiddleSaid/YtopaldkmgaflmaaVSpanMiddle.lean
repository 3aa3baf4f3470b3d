/- The middle of a span is in it, and not further from either end than half its width, up; for spans whose ends are not beyond the greatest number. -/
import Derived.Test.YtopaldkmgaflmaaQx16
import Derived.OpenShut
set_option linter.unusedVariables false
set_option linter.unusedSimpArgs false
namespace Go.Proofs.Ytopaldkmgaflmaa.VSpanMiddle
open Go.RowKit Go.Proofs.Ytopaldkmgaflmaa.Q Go.Proofs.YtopaldkmgaflmaaW.PrintWords Go.Proofs.YtopaldkmgaflmaaW.PrintLast Go.Proofs.YtopaldkmgaflmaaW.PrintMore

theorem wb {n : Int} (h : (Lit.int .i64 n).wf = true) : -9223372036854775808 ≤ n ∧ n ≤ 9223372036854775807 := Go.bounds_i64 h
theorem w64 {n : Int} (h1 : -9223372036854775808 ≤ n) (h2 : n ≤ 9223372036854775807) : wrap64 n = n := by unfold wrap64; omega
def clp (x : Int) : Int := if x < -2305843009213693952 then -2305843009213693952 else if 2305843009213693952 < x then 2305843009213693952 else x
theorem clp_b (x : Int) : -2305843009213693952 ≤ clp x ∧ clp x ≤ 2305843009213693952 := by unfold clp; split <;> (try split) <;> omega
theorem clp_id {x : Int} (h1 : -2305843009213693952 ≤ x) (h2 : x ≤ 2305843009213693952) : clp x = x := by unfold clp; rw [if_neg (by omega), if_neg (by omega)]
theorem clp_neg (x : Int) : clp (-x) = -clp x := by unfold clp; split <;> (try split) <;> (try split) <;> (try split) <;> omega
def bnd (x lo hi : Int) : Int := if x < lo ∨ hi < lo then lo else if hi < x then hi else x
def addL (l : List Int) : Int := l.foldl (fun n x => clp (n + clp x)) 0
def sub (a b : Int) : Int := clp (clp a - clp b)
def absC (a : Int) : Int := if a < 0 then -clp a else clp a
theorem absC_b (x : Int) : 0 ≤ absC x ∧ absC x ≤ 2305843009213693952 := by have := clp_b x; unfold absC; unfold clp at *; split <;> omega
theorem add2 (a b : Int) : addL [a, b] = clp (clp a + clp b) := by
  have h := clp_b a
  simp only [addL, List.foldl_cons, List.foldl_nil, Int.zero_add]
  rw [clp_id h.1 h.2]
theorem add3 (a b c : Int) : addL [a, b, c] = clp (clp (clp a + clp b) + clp c) := by
  have h := clp_b a
  simp only [addL, List.foldl_cons, List.foldl_nil, Int.zero_add]
  rw [clp_id h.1 h.2]
theorem rd_drop {l : List Int} {i : Int} (h0 : 0 ≤ i) (h1 : i < (l.length : Int)) : l.drop i.toNat = rd l i :: l.drop (i + 1).toNat := by
  have h : i.toNat < l.length := by omega
  rw [List.drop_eq_getElem_cons h, show (i + 1).toNat = i.toNat + 1 from by omega]
  congr 1
  simp [rd, List.getD_eq_getElem?_getD, List.getElem?_eq_getElem h]
def mulC (a b : Int) : Int := clp (clp a * clp b)
theorem mulC_b (a b : Int) : -2305843009213693952 ≤ mulC a b ∧ mulC a b ≤ 2305843009213693952 := clp_b _
theorem sub_b (a b : Int) : -2305843009213693952 ≤ sub a b ∧ sub a b ≤ 2305843009213693952 := clp_b _
theorem addL_b (l : List Int) : -2305843009213693952 ≤ addL l ∧ addL l ≤ 2305843009213693952 := by
  unfold addL
  suffices h : ∀ (l : List Int) (n : Int), -2305843009213693952 ≤ n → n ≤ 2305843009213693952 → -2305843009213693952 ≤ l.foldl (fun n x => clp (n + clp x)) n ∧ l.foldl (fun n x => clp (n + clp x)) n ≤ 2305843009213693952 from h l 0 (by omega) (by omega)
  intro l
  induction l with
  | nil => intro n h1 h2; exact ⟨h1, h2⟩
  | cons x l ih => intro n _ _; exact ih _ (clp_b _).1 (clp_b _).2

theorem bound_eq {k : Nat} (x lo hi : Int) (hk : 0 < k) : sat_Bound.f k x lo hi = some (bnd x lo hi) := by
  obtain ⟨k, rfl⟩ : ∃ m, k = m + 1 := ⟨k - 1, by omega⟩
  unfold sat_Bound.f bnd
  simp only [sat_Bound.j0]
  by_cases h1 : x < lo
  · simp [h1]
  · by_cases h2 : hi < lo
    · simp [h1, h2]
    · simp only [h1, h2, if_false, false_or, decide_false, if_neg]
      by_cases h3 : hi < x
      · simp [h3]
      · simp [h3]
theorem clip_eq {k : Nat} (x : Int) (hk : 0 < k) : sat_Clip.f k x = some (clp x) := by
  unfold sat_Clip.f
  rw [bound_eq x _ _ hk]
  simp only [Option.bind_some, bnd, clp]
  congr 1
  split <;> split <;> (try split) <;> omega

theorem of_eq {k : Nat} (a b : Int) (hk : 0 < k) : span_Of.f k a b = some (clp a, clp b) := by
  unfold span_Of.f
  rw [clip_eq a hk, Option.bind_some, clip_eq b hk, Option.bind_some]

theorem g_foldr (l : List S38) : ∀ p, l.foldl span_Meet.g p = (l.foldl (fun n s => mx n s.f0) p.1, l.foldl (fun n s => mn n s.f1) p.2) := by
  induction l with
  | nil => intro p; rfl
  | cons s l ih => intro p; simp only [List.foldl_cons]; rw [ih]; rfl
def meetLo (l : List S38) : Int := l.foldl (fun n s => mx n s.f0) (-2305843009213693952)
def meetHi (l : List S38) : Int := l.foldl (fun n s => mn n s.f1) 2305843009213693952
theorem meet_eq {k : Nat} (l : List S38) (hk : 0 < k) : span_Meet.f k l = some (clp (meetLo l), clp (meetHi l)) := by
  unfold span_Meet.f
  rw [g_foldr, of_eq _ _ hk]
  rfl

theorem alive_eq {k : Nat} (hk : 0 < k) : clepsydralaw03_alive.f k = some true := by
  unfold clepsydralaw03_alive.f
  rw [meet_eq _ hk, Option.bind_some]
  rw [show meetLo [(⟨1, 5⟩ : S38), ⟨4, 9⟩] = 4 from rfl, show meetHi [(⟨1, 5⟩ : S38), ⟨4, 9⟩] = 5 from rfl]
  rfl

def midC (a b : Int) : Int := (clp a + clp b) / 2
theorem mid_eq {k : Nat} (a b : Int) (hk : 0 < k) : span_Mid.f k a b = some (midC a b) := by
  have h := clp_b a
  have h' := clp_b b
  unfold span_Mid.f
  rw [clip_eq a hk, Option.bind_some, clip_eq b hk, Option.bind_some, w64 (by omega) (by omega)]
  rfl

/-- The pure statement of the law. -/
def Pure : Prop := ∀ (a0_0 : Int) (a0_1 : Int), (Lit.int .i64 a0_0).wf = true → (Lit.int .i64 a0_1).wf = true → ∃ k, clepsydralaw03_SpanMiddle.f k a0_0 a0_1 = some true

theorem middle_in (a b : Int) (h : a ≤ b) (h1 : -2305843009213693952 ≤ a) (h2 : b ≤ 2305843009213693952) : clepsydralaw03_SpanMiddle.j0 10 false a b = some true := by
  simp only [clepsydralaw03_SpanMiddle.j0, Bool.false_eq_true, if_false]
  have e : midC a b = (a + b) / 2 := by unfold midC; rw [clp_id (x := a) (by omega) (by omega), clp_id (x := b) (by omega) (by omega)]
  rw [mid_eq a b (by omega), Option.bind_some, e]
  unfold span_Has.f
  rw [if_pos (by omega), Option.bind_some, decide_eq_true (by omega), if_pos rfl]
  have ed : Int.tdiv (wrap64 (b - a)) 2 = (b - a) / 2 := by rw [w64 (by omega) (by omega), Int.tdiv_eq_ediv_of_nonneg (by omega)]
  have em : Int.tmod (wrap64 (b - a)) 2 = (b - a) % 2 := by rw [w64 (by omega) (by omega), Int.tmod_eq_emod_of_nonneg (by omega)]
  rw [ed, em, w64 (n := (b - a) / 2) (by omega) (by omega), w64 (n := (a + b) / 2 - a) (by omega) (by omega), w64 (n := (b - a) / 2 + (b - a) % 2) (by omega) (by omega), w64 (n := b - (a + b) / 2) (by omega) (by omega)]
  rw [if_pos (by omega), decide_eq_true (by omega)]
theorem SpanMiddle : Pure := by
  intro a b _ _
  refine ⟨10, ?_⟩
  unfold clepsydralaw03_SpanMiddle.f
  rw [alive_eq (by omega), Option.bind_some, if_pos rfl]
  have t : clepsydralaw03_SpanMiddle.j0 10 true a b = some true := by simp [clepsydralaw03_SpanMiddle.j0]
  by_cases h : a > b
  · rw [if_pos h, t]
  · rw [if_neg h]
    by_cases h2 : a < -2305843009213693952
    · rw [if_pos h2, t]
    · rw [if_neg h2]
      by_cases h3 : b > 2305843009213693952
      · rw [decide_eq_true h3, t]
      · rw [decide_eq_false h3]; exact middle_in a b (by omega) (by omega) (by omega)

end Go.Proofs.Ytopaldkmgaflmaa.VSpanMiddle
