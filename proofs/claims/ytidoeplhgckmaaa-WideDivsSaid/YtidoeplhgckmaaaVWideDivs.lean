/- Div answers what the reference answers, and what is taken apart can be put together again; for all numbers. -/
import Derived.Test.YtidoeplhgckmaaaQx2
import Derived.OpenShut
set_option linter.unusedVariables false
set_option linter.unusedSimpArgs false
namespace Go.Proofs.Ytidoeplhgckmaaa.VWideDivs
open Go.RowKit Go.Proofs.Ytidoeplhgckmaaa.Q Go.Proofs.YtidoeplhgckmaaaW.PrintWords Go.Proofs.YtidoeplhgckmaaaW.PrintLast Go.Proofs.YtidoeplhgckmaaaW.PrintMore

theorem wb {n : Int} (h : (Lit.int .i64 n).wf = true) : -9223372036854775808 ≤ n ∧ n ≤ 9223372036854775807 := Go.bounds_i64 h
theorem w64 {n : Int} (h1 : -9223372036854775808 ≤ n) (h2 : n ≤ 9223372036854775807) : wrap64 n = n := by unfold wrap64; omega
def clp (x : Int) : Int := if x < -2305843009213693952 then -2305843009213693952 else if 2305843009213693952 < x then 2305843009213693952 else x
theorem clp_b (x : Int) : -2305843009213693952 ≤ clp x ∧ clp x ≤ 2305843009213693952 := by unfold clp; split <;> (try split) <;> omega
theorem clp_id {x : Int} (h1 : -2305843009213693952 ≤ x) (h2 : x ≤ 2305843009213693952) : clp x = x := by unfold clp; rw [if_neg (by omega), if_neg (by omega)]
theorem clp_neg (x : Int) : clp (-x) = -clp x := by unfold clp; split <;> (try split) <;> (try split) <;> (try split) <;> omega
def bnd (x lo hi : Int) : Int := if x < lo ∨ hi < lo then lo else if hi < x then hi else x
def addL (l : List Int) : Int := l.foldl (fun n x => clp (n + clp x)) 0
def sub (a b : Int) : Int := clp (clp a - clp b)
def absC (a : Int) : Int := if a < 0 then -clp a else clp a
theorem absC_b (x : Int) : 0 ≤ absC x ∧ absC x ≤ 2305843009213693952 := by have := clp_b x; unfold absC; unfold clp at *; split <;> omega
theorem add2 (a b : Int) : addL [a, b] = clp (clp a + clp b) := by
  have h := clp_b a
  simp only [addL, List.foldl_cons, List.foldl_nil, Int.zero_add]
  rw [clp_id h.1 h.2]
theorem add3 (a b c : Int) : addL [a, b, c] = clp (clp (clp a + clp b) + clp c) := by
  have h := clp_b a
  simp only [addL, List.foldl_cons, List.foldl_nil, Int.zero_add]
  rw [clp_id h.1 h.2]
theorem rd_drop {l : List Int} {i : Int} (h0 : 0 ≤ i) (h1 : i < (l.length : Int)) : l.drop i.toNat = rd l i :: l.drop (i + 1).toNat := by
  have h : i.toNat < l.length := by omega
  rw [List.drop_eq_getElem_cons h, show (i + 1).toNat = i.toNat + 1 from by omega]
  congr 1
  simp [rd, List.getD_eq_getElem?_getD, List.getElem?_eq_getElem h]
def mulC (a b : Int) : Int := clp (clp a * clp b)
theorem mulC_b (a b : Int) : -2305843009213693952 ≤ mulC a b ∧ mulC a b ≤ 2305843009213693952 := clp_b _
theorem sub_b (a b : Int) : -2305843009213693952 ≤ sub a b ∧ sub a b ≤ 2305843009213693952 := clp_b _
theorem addL_b (l : List Int) : -2305843009213693952 ≤ addL l ∧ addL l ≤ 2305843009213693952 := by
  unfold addL
  suffices h : ∀ (l : List Int) (n : Int), -2305843009213693952 ≤ n → n ≤ 2305843009213693952 → -2305843009213693952 ≤ l.foldl (fun n x => clp (n + clp x)) n ∧ l.foldl (fun n x => clp (n + clp x)) n ≤ 2305843009213693952 from h l 0 (by omega) (by omega)
  intro l
  induction l with
  | nil => intro n h1 h2; exact ⟨h1, h2⟩
  | cons x l ih => intro n _ _; exact ih _ (clp_b _).1 (clp_b _).2

theorem bound_eq {k : Nat} (x lo hi : Int) (hk : 0 < k) : sat_Bound.f k x lo hi = some (bnd x lo hi) := by
  obtain ⟨k, rfl⟩ : ∃ m, k = m + 1 := ⟨k - 1, by omega⟩
  unfold sat_Bound.f bnd
  simp only [sat_Bound.j0]
  by_cases h1 : x < lo
  · simp [h1]
  · by_cases h2 : hi < lo
    · simp [h1, h2]
    · simp only [h1, h2, if_false, false_or, decide_false, if_neg]
      by_cases h3 : hi < x
      · simp [h3]
      · simp [h3]
theorem clip_eq {k : Nat} (x : Int) (hk : 0 < k) : sat_Clip.f k x = some (clp x) := by
  unfold sat_Clip.f
  rw [bound_eq x _ _ hk]
  simp only [Option.bind_some, bnd, clp]
  congr 1
  split <;> split <;> (try split) <;> omega

theorem dm_eq {A c : Int} (hc : 0 < c) : (A.tmod c < 0 → A / c = A.tdiv c - 1 ∧ A % c = A.tmod c + c) ∧ (¬ A.tmod c < 0 → A / c = A.tdiv c ∧ A % c = A.tmod c) := by
  have h1 := Int.tmod_def A c
  have h2 : A.tmod c < c := Int.tmod_lt_of_pos A hc
  have h3 : -c < A.tmod c := by
    rcases Int.le_total 0 A with h | h
    · have := Int.tmod_nonneg c h; omega
    · have := Int.tmod_lt_of_pos (-A) hc; rw [Int.neg_tmod] at this; omega
  constructor
  · intro h; exact (Int.ediv_emod_unique hc).mpr ⟨by rw [Int.mul_sub]; omega, by omega, by omega⟩
  · intro h; exact (Int.ediv_emod_unique hc).mpr ⟨by omega, by omega, by omega⟩
theorem ediv_b {A c : Int} (hc : 0 < c) (h1 : -2305843009213693952 ≤ A) (h2 : A ≤ 2305843009213693952) : -2305843009213693952 ≤ A / c ∧ A / c ≤ 2305843009213693952 := by
  constructor
  · apply Int.le_ediv_of_mul_le hc; omega
  · have : A / c < 2305843009213693953 := Int.ediv_lt_of_lt_mul hc (by omega)
    omega
theorem mx1_b (c : Int) : 1 ≤ mx (clp c) 1 ∧ mx (clp c) 1 ≤ 2305843009213693952 := by
  have := clp_b c; unfold mx; split <;> omega
theorem wdiv_eq {k : Nat} (a c : Int) (hk : 0 < k) : wide_Div.f k a c = some (clp a / mx (clp c) 1, clp a % mx (clp c) 1) := by
  have ha := clp_b a
  have hm := mx1_b c
  unfold wide_Div.f
  rw [clip_eq a hk, Option.bind_some, clip_eq c hk, Option.bind_some, if_neg (by omega)]
  generalize clp a = A at *
  generalize mx (clp c) 1 = z at *
  have d := dm_eq (A := A) (c := z) (by omega)
  have b := ediv_b (A := A) (c := z) (by omega) ha.1 ha.2
  have m0 := Int.emod_nonneg A (show z ≠ 0 by omega)
  have m1 := Int.emod_lt_of_pos A (show 0 < z by omega)
  by_cases h : A.tmod z < 0
  · have e := d.1 h
    rw [if_pos h, w64 (n := Int.tdiv A z) (by omega) (by omega), w64 (n := Int.tdiv A z - 1) (by omega) (by omega), w64 (by omega) (by omega), e.1, e.2]
  · have e := d.2 h
    rw [if_neg h, w64 (n := Int.tdiv A z) (by omega) (by omega), e.1, e.2]

theorem rclip_eq (x : Int) : clepsydraref01_Clip.f x = some (clp x) := by
  unfold clepsydraref01_Clip.f clp
  by_cases h1 : x > 2305843009213693952
  · rw [if_pos h1, if_neg (by omega), if_pos (by omega)]
  · rw [if_neg h1]
    by_cases h2 : x < -2305843009213693952
    · rw [if_pos h2, if_pos h2]
    · rw [if_neg h2, if_neg h2, if_neg (by omega)]

/-- The pure statement of the law. -/
def Pure : Prop := ∀ (a0 : Int) (a1 : Int), (Lit.int .i64 a0).wf = true → (Lit.int .i64 a1).wf = true → ∃ k, clepsydralaw02_WideDivs.f k a0 a1 = some true

theorem rone_eq (c : Int) : clepsydraref02_one.f c = some (mx (clp c) 1) := by
  unfold clepsydraref02_one.f mx
  rw [rclip_eq, Option.bind_some]
  by_cases h : clp c < 1
  · rw [if_pos h, if_pos h]
  · rw [if_neg h, if_neg h]
theorem rdiv_eq (a c : Int) : clepsydraref02_Div.f a c = some (clp a / mx (clp c) 1, clp a % mx (clp c) 1) := by
  have ha := clp_b a
  have hm := mx1_b c
  unfold clepsydraref02_Div.f
  rw [rclip_eq, Option.bind_some, rone_eq, Option.bind_some, if_neg (by omega)]
  generalize clp a = A at *
  generalize mx (clp c) 1 = z at *
  have d := dm_eq (A := A) (c := z) (by omega)
  have b := ediv_b (A := A) (c := z) (by omega) ha.1 ha.2
  have m0 := Int.emod_nonneg A (show z ≠ 0 by omega)
  have m1 := Int.emod_lt_of_pos A (show 0 < z by omega)
  have hd := Int.tmod_def A z
  by_cases h : A.tmod z < 0
  · have e := d.1 h
    have hq : A - (A.tmod z + z) = A / z * z := by rw [e.1, Int.sub_mul, Int.mul_comm (A.tdiv z) z]; omega
    rw [if_pos h, w64 (n := A.tmod z + z) (by omega) (by omega), w64 (n := A - (A.tmod z + z)) (by omega) (by omega), hq, Int.mul_tdiv_cancel _ (by omega), w64 (by omega) (by omega), e.2]
  · have e := d.2 h
    have hq : A - A.tmod z = A / z * z := by rw [e.1, Int.mul_comm (A.tdiv z) z]; omega
    rw [if_neg h, w64 (n := A - A.tmod z) (by omega) (by omega), hq, Int.mul_tdiv_cancel _ (by omega), w64 (by omega) (by omega), e.2]
theorem WideDivs : Pure := by
  intro a c _ _
  refine ⟨10, ?_⟩
  have ha := clp_b a
  have hm := mx1_b c
  have m0 := Int.emod_nonneg (clp a) (show mx (clp c) 1 ≠ 0 by omega)
  have m1 := Int.emod_lt_of_pos (clp a) (show 0 < mx (clp c) 1 by omega)
  have b := ediv_b (A := clp a) (c := mx (clp c) 1) (by omega) ha.1 ha.2
  have e := Int.emod_add_mul_ediv (clp a) (mx (clp c) 1)
  unfold clepsydralaw02_WideDivs.f
  rw [wdiv_eq _ _ (by omega), Option.bind_some, if_pos (by decide)]
  rw [show ((clp (-7) / mx (clp 3) 1, clp (-7) % mx (clp 3) 1).2 != 2) = false from by decide]
  rw [clepsydralaw02_WideDivs.j0, if_neg (by simp), wdiv_eq _ _ (by omega), Option.bind_some, rdiv_eq, Option.bind_some, clip_eq _ (by omega), Option.bind_some]
  by_cases h : clp c < 1
  · have hz : mx (clp c) 1 = 1 := by unfold mx; rw [if_pos h]
    rw [hz] at m0 m1 b e ⊢
    dsimp only
    rw [if_pos h, if_pos rfl, if_pos rfl, if_pos m0, if_pos m1, clip_eq _ (by omega), Option.bind_some, w64 (n := clp a / 1 * 1) (by omega) (by omega), w64 (by omega) (by omega)]
    congr 1
    simp
  · have hz : mx (clp c) 1 = clp c := by unfold mx; rw [if_neg h]
    rw [hz] at m0 m1 b e ⊢
    dsimp only
    have e2 : clp a / clp c * clp c + clp a % clp c = clp a := by rw [Int.mul_comm]; omega
    rw [if_neg h, if_pos rfl, if_pos rfl, if_pos m0, if_pos m1, clip_eq _ (by omega), Option.bind_some, w64 (n := clp a / clp c * clp c) (by omega) (by omega), w64 (by omega) (by omega), e2]
    simp

end Go.Proofs.Ytidoeplhgckmaaa.VWideDivs
