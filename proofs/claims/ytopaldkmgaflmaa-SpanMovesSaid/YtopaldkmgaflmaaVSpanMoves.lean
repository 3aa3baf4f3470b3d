/- A time that is in a span is in the span moved as it is moved, if its ends are moved as far, or further out; for times and moves not beyond 2 to the 60. -/
import Derived.Test.YtopaldkmgaflmaaQx23
import Derived.OpenShut
set_option linter.unusedVariables false
set_option linter.unusedSimpArgs false
namespace Go.Proofs.Ytopaldkmgaflmaa.VSpanMoves
open Go.RowKit Go.Proofs.Ytopaldkmgaflmaa.Q Go.Proofs.YtopaldkmgaflmaaW.PrintWords Go.Proofs.YtopaldkmgaflmaaW.PrintLast Go.Proofs.YtopaldkmgaflmaaW.PrintMore

theorem wb {n : Int} (h : (Lit.int .i64 n).wf = true) : -9223372036854775808 ≤ n ∧ n ≤ 9223372036854775807 := Go.bounds_i64 h
theorem w64 {n : Int} (h1 : -9223372036854775808 ≤ n) (h2 : n ≤ 9223372036854775807) : wrap64 n = n := by unfold wrap64; omega
def clp (x : Int) : Int := if x < -2305843009213693952 then -2305843009213693952 else if 2305843009213693952 < x then 2305843009213693952 else x
theorem clp_b (x : Int) : -2305843009213693952 ≤ clp x ∧ clp x ≤ 2305843009213693952 := by unfold clp; split <;> (try split) <;> omega
theorem clp_id {x : Int} (h1 : -2305843009213693952 ≤ x) (h2 : x ≤ 2305843009213693952) : clp x = x := by unfold clp; rw [if_neg (by omega), if_neg (by omega)]
theorem clp_neg (x : Int) : clp (-x) = -clp x := by unfold clp; split <;> (try split) <;> (try split) <;> (try split) <;> omega
def bnd (x lo hi : Int) : Int := if x < lo ∨ hi < lo then lo else if hi < x then hi else x
def addL (l : List Int) : Int := l.foldl (fun n x => clp (n + clp x)) 0
def sub (a b : Int) : Int := clp (clp a - clp b)
def absC (a : Int) : Int := if a < 0 then -clp a else clp a
theorem absC_b (x : Int) : 0 ≤ absC x ∧ absC x ≤ 2305843009213693952 := by have := clp_b x; unfold absC; unfold clp at *; split <;> omega
theorem add2 (a b : Int) : addL [a, b] = clp (clp a + clp b) := by
  have h := clp_b a
  simp only [addL, List.foldl_cons, List.foldl_nil, Int.zero_add]
  rw [clp_id h.1 h.2]
theorem add3 (a b c : Int) : addL [a, b, c] = clp (clp (clp a + clp b) + clp c) := by
  have h := clp_b a
  simp only [addL, List.foldl_cons, List.foldl_nil, Int.zero_add]
  rw [clp_id h.1 h.2]
theorem rd_drop {l : List Int} {i : Int} (h0 : 0 ≤ i) (h1 : i < (l.length : Int)) : l.drop i.toNat = rd l i :: l.drop (i + 1).toNat := by
  have h : i.toNat < l.length := by omega
  rw [List.drop_eq_getElem_cons h, show (i + 1).toNat = i.toNat + 1 from by omega]
  congr 1
  simp [rd, List.getD_eq_getElem?_getD, List.getElem?_eq_getElem h]
def mulC (a b : Int) : Int := clp (clp a * clp b)
theorem mulC_b (a b : Int) : -2305843009213693952 ≤ mulC a b ∧ mulC a b ≤ 2305843009213693952 := clp_b _
theorem sub_b (a b : Int) : -2305843009213693952 ≤ sub a b ∧ sub a b ≤ 2305843009213693952 := clp_b _
theorem addL_b (l : List Int) : -2305843009213693952 ≤ addL l ∧ addL l ≤ 2305843009213693952 := by
  unfold addL
  suffices h : ∀ (l : List Int) (n : Int), -2305843009213693952 ≤ n → n ≤ 2305843009213693952 → -2305843009213693952 ≤ l.foldl (fun n x => clp (n + clp x)) n ∧ l.foldl (fun n x => clp (n + clp x)) n ≤ 2305843009213693952 from h l 0 (by omega) (by omega)
  intro l
  induction l with
  | nil => intro n h1 h2; exact ⟨h1, h2⟩
  | cons x l ih => intro n _ _; exact ih _ (clp_b _).1 (clp_b _).2

theorem bound_eq {k : Nat} (x lo hi : Int) (hk : 0 < k) : sat_Bound.f k x lo hi = some (bnd x lo hi) := by
  obtain ⟨k, rfl⟩ : ∃ m, k = m + 1 := ⟨k - 1, by omega⟩
  unfold sat_Bound.f bnd
  simp only [sat_Bound.j0]
  by_cases h1 : x < lo
  · simp [h1]
  · by_cases h2 : hi < lo
    · simp [h1, h2]
    · simp only [h1, h2, if_false, false_or, decide_false, if_neg]
      by_cases h3 : hi < x
      · simp [h3]
      · simp [h3]
theorem clip_eq {k : Nat} (x : Int) (hk : 0 < k) : sat_Clip.f k x = some (clp x) := by
  unfold sat_Clip.f
  rw [bound_eq x _ _ hk]
  simp only [Option.bind_some, bnd, clp]
  congr 1
  split <;> split <;> (try split) <;> omega

theorem add_l0 (l : List Int) (hl : l.length ≤ 4611686018427387904) (d : Nat) : ∀ (k : Nat) (n i : Int), -2305843009213693952 ≤ n → n ≤ 2305843009213693952 → 0 ≤ i → i ≤ l.length → (l.length : Int) - i = d → d + 1 < k →
    sat_Add.l0 k n l (l.length : Int) i = some ((l.drop i.toNat).foldl (fun n x => clp (n + clp x)) n) := by
  induction d with
  | zero =>
    intro k n i _ _ h0 h1 hd hk
    obtain ⟨k, rfl⟩ : ∃ m, k = m + 1 := ⟨k - 1, by omega⟩
    simp only [sat_Add.l0]
    rw [if_neg (by omega), List.drop_eq_nil_of_le (by omega)]
    rfl
  | succ d ih =>
    intro k n i n1 n2 h0 h1 hd hk
    obtain ⟨k, rfl⟩ : ∃ m, k = m + 1 := ⟨k - 1, by omega⟩
    have hlt : i < (l.length : Int) := by omega
    have hc := clp_b (rd l i)
    have hs := clp_b (n + clp (rd l i))
    simp only [sat_Add.l0]
    rw [if_pos hlt, if_pos h0, if_pos hlt, clip_eq _ (by omega), Option.bind_some, w64 (n := n + clp (rd l i)) (by omega) (by omega), clip_eq _ (by omega), Option.bind_some, w64 (n := i + 1) (by omega) (by omega)]
    rw [ih k _ (i + 1) hs.1 hs.2 (by omega) (by omega) (by omega) (by omega), rd_drop h0 hlt]
    rfl
theorem add_eq {k : Nat} (l : List Int) (hl : l.length ≤ 4611686018427387904) (hk : l.length + 1 < k) : sat_Add.f k l = some (addL l) := by
  unfold sat_Add.f
  rw [add_l0 l hl l.length k 0 0 (by omega) (by omega) (by omega) (by omega) (by omega) hk]
  rfl

theorem of_eq {k : Nat} (a b : Int) (hk : 0 < k) : span_Of.f k a b = some (clp a, clp b) := by
  unfold span_Of.f
  rw [clip_eq a hk, Option.bind_some, clip_eq b hk, Option.bind_some]

theorem g_foldr (l : List S38) : ∀ p, l.foldl span_Meet.g p = (l.foldl (fun n s => mx n s.f0) p.1, l.foldl (fun n s => mn n s.f1) p.2) := by
  induction l with
  | nil => intro p; rfl
  | cons s l ih => intro p; simp only [List.foldl_cons]; rw [ih]; rfl
def meetLo (l : List S38) : Int := l.foldl (fun n s => mx n s.f0) (-2305843009213693952)
def meetHi (l : List S38) : Int := l.foldl (fun n s => mn n s.f1) 2305843009213693952
theorem meet_eq {k : Nat} (l : List S38) (hk : 0 < k) : span_Meet.f k l = some (clp (meetLo l), clp (meetHi l)) := by
  unfold span_Meet.f
  rw [g_foldr, of_eq _ _ hk]
  rfl

theorem alive_eq {k : Nat} (hk : 0 < k) : clepsydralaw03_alive.f k = some true := by
  unfold clepsydralaw03_alive.f
  rw [meet_eq _ hk, Option.bind_some]
  rw [show meetLo [(⟨1, 5⟩ : S38), ⟨4, 9⟩] = 4 from rfl, show meetHi [(⟨1, 5⟩ : S38), ⟨4, 9⟩] = 5 from rfl]
  rfl

theorem shift_eq {k : Nat} (a b lo hi : Int) (hk : 10 < k) : span_Shift.f k a b lo hi = some (addL [a, lo], addL [b, hi]) := by
  unfold span_Shift.f
  rw [add_eq [a, lo] (by simp) (by simp; omega), Option.bind_some, add_eq [b, hi] (by simp) (by simp; omega), Option.bind_some]

/-- The pure statement of the law. -/
def Pure : Prop := ∀ (a0_0 : Int) (a0_1 : Int) (a1 : Int) (a2 : Int) (a3 : Int) (a4 : Int), (Lit.int .i64 a0_0).wf = true → (Lit.int .i64 a0_1).wf = true → (Lit.int .i64 a1).wf = true → (Lit.int .i64 a2).wf = true → (Lit.int .i64 a3).wf = true → (Lit.int .i64 a4).wf = true → ∃ k, clepsydralaw03_SpanMoves.f k a0_0 a0_1 a1 a2 a3 a4 = some true

theorem SpanMoves : Pure := by
  intro s0 s1 x by_ lo hi b0 b1 _ _ _ _
  have b0 := wb b0
  have b1 := wb b1
  refine ⟨20, ?_⟩
  unfold clepsydralaw03_SpanMoves.f
  rw [alive_eq (by omega), Option.bind_some, if_pos rfl]
  have t : clepsydralaw03_SpanMoves.j0 20 x by_ lo hi true s0 s1 = some true := by simp [clepsydralaw03_SpanMoves.j0]
  by_cases h1 : x > 1152921504606846976
  · rw [if_pos h1]
  rw [if_neg h1]
  by_cases h2 : x < -1152921504606846976
  · rw [if_pos h2]
  rw [if_neg h2]
  by_cases h3 : by_ > 1152921504606846976
  · rw [if_pos h3]
  rw [if_neg h3]
  by_cases h4 : by_ < -1152921504606846976
  · rw [if_pos h4]
  rw [if_neg h4]
  by_cases h5 : lo > 1152921504606846976
  · rw [if_pos h5]
  rw [if_neg h5]
  by_cases h6 : lo < -1152921504606846976
  · rw [if_pos h6]
  rw [if_neg h6]
  by_cases h7 : hi > 1152921504606846976
  · rw [if_pos h7]
  rw [if_neg h7]
  by_cases h8 : hi < -1152921504606846976
  · rw [if_pos h8]
  rw [if_neg h8]
  unfold span_Has.f
  by_cases g1 : s0 ≤ x
  · rw [if_pos g1, Option.bind_some]
    by_cases g2 : x ≤ s1
    · rw [decide_eq_true g2, if_pos rfl]
      by_cases g3 : lo > by_
      · rw [if_pos g3, t]
      · rw [if_neg g3]
        by_cases g4 : hi < by_
        · rw [decide_eq_true g4, t]
        · rw [decide_eq_false g4]
          simp only [clepsydralaw03_SpanMoves.j0, Bool.false_eq_true, if_false]
          rw [shift_eq _ _ _ _ (by omega), Option.bind_some, w64 (by omega) (by omega)]
          unfold span_Has.f
          have e1 : addL [s0, lo] ≤ x + by_ := by rw [add2]; unfold clp; repeat' split
                                                  all_goals omega
          have e2 : x + by_ ≤ addL [s1, hi] := by rw [add2]; unfold clp; repeat' split
                                                  all_goals omega
          rw [if_pos e1, decide_eq_true e2]; rfl
    · rw [decide_eq_false g2, if_neg (by decide), t]
  · rw [if_neg g1, Option.bind_some, if_neg (by decide), t]

end Go.Proofs.Ytopaldkmgaflmaa.VSpanMoves
