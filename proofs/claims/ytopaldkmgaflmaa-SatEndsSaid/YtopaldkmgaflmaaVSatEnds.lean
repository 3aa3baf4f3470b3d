/- Max and Min answer what the reference answers, up to 4096 numbers. -/
import Derived.Test.YtopaldkmgaflmaaQx14
import Derived.OpenShut
set_option linter.unusedVariables false
set_option linter.unusedSimpArgs false
namespace Go.Proofs.Ytopaldkmgaflmaa.VSatEnds
open Go.RowKit Go.Proofs.Ytopaldkmgaflmaa.Q Go.Proofs.YtopaldkmgaflmaaW.PrintWords Go.Proofs.YtopaldkmgaflmaaW.PrintLast Go.Proofs.YtopaldkmgaflmaaW.PrintMore

theorem wb {n : Int} (h : (Lit.int .i64 n).wf = true) : -9223372036854775808 ≤ n ∧ n ≤ 9223372036854775807 := Go.bounds_i64 h
theorem w64 {n : Int} (h1 : -9223372036854775808 ≤ n) (h2 : n ≤ 9223372036854775807) : wrap64 n = n := by unfold wrap64; omega
def clp (x : Int) : Int := if x < -2305843009213693952 then -2305843009213693952 else if 2305843009213693952 < x then 2305843009213693952 else x
theorem clp_b (x : Int) : -2305843009213693952 ≤ clp x ∧ clp x ≤ 2305843009213693952 := by unfold clp; split <;> (try split) <;> omega
theorem clp_id {x : Int} (h1 : -2305843009213693952 ≤ x) (h2 : x ≤ 2305843009213693952) : clp x = x := by unfold clp; rw [if_neg (by omega), if_neg (by omega)]
theorem clp_neg (x : Int) : clp (-x) = -clp x := by unfold clp; split <;> (try split) <;> (try split) <;> (try split) <;> omega
def bnd (x lo hi : Int) : Int := if x < lo ∨ hi < lo then lo else if hi < x then hi else x
def addL (l : List Int) : Int := l.foldl (fun n x => clp (n + clp x)) 0
def sub (a b : Int) : Int := clp (clp a - clp b)
def absC (a : Int) : Int := if a < 0 then -clp a else clp a
theorem absC_b (x : Int) : 0 ≤ absC x ∧ absC x ≤ 2305843009213693952 := by have := clp_b x; unfold absC; unfold clp at *; split <;> omega
theorem add2 (a b : Int) : addL [a, b] = clp (clp a + clp b) := by
  have h := clp_b a
  simp only [addL, List.foldl_cons, List.foldl_nil, Int.zero_add]
  rw [clp_id h.1 h.2]
theorem add3 (a b c : Int) : addL [a, b, c] = clp (clp (clp a + clp b) + clp c) := by
  have h := clp_b a
  simp only [addL, List.foldl_cons, List.foldl_nil, Int.zero_add]
  rw [clp_id h.1 h.2]
theorem rd_drop {l : List Int} {i : Int} (h0 : 0 ≤ i) (h1 : i < (l.length : Int)) : l.drop i.toNat = rd l i :: l.drop (i + 1).toNat := by
  have h : i.toNat < l.length := by omega
  rw [List.drop_eq_getElem_cons h, show (i + 1).toNat = i.toNat + 1 from by omega]
  congr 1
  simp [rd, List.getD_eq_getElem?_getD, List.getElem?_eq_getElem h]
def mulC (a b : Int) : Int := clp (clp a * clp b)
theorem mulC_b (a b : Int) : -2305843009213693952 ≤ mulC a b ∧ mulC a b ≤ 2305843009213693952 := clp_b _
theorem sub_b (a b : Int) : -2305843009213693952 ≤ sub a b ∧ sub a b ≤ 2305843009213693952 := clp_b _
theorem addL_b (l : List Int) : -2305843009213693952 ≤ addL l ∧ addL l ≤ 2305843009213693952 := by
  unfold addL
  suffices h : ∀ (l : List Int) (n : Int), -2305843009213693952 ≤ n → n ≤ 2305843009213693952 → -2305843009213693952 ≤ l.foldl (fun n x => clp (n + clp x)) n ∧ l.foldl (fun n x => clp (n + clp x)) n ≤ 2305843009213693952 from h l 0 (by omega) (by omega)
  intro l
  induction l with
  | nil => intro n h1 h2; exact ⟨h1, h2⟩
  | cons x l ih => intro n _ _; exact ih _ (clp_b _).1 (clp_b _).2

theorem bound_eq {k : Nat} (x lo hi : Int) (hk : 0 < k) : sat_Bound.f k x lo hi = some (bnd x lo hi) := by
  obtain ⟨k, rfl⟩ : ∃ m, k = m + 1 := ⟨k - 1, by omega⟩
  unfold sat_Bound.f bnd
  simp only [sat_Bound.j0]
  by_cases h1 : x < lo
  · simp [h1]
  · by_cases h2 : hi < lo
    · simp [h1, h2]
    · simp only [h1, h2, if_false, false_or, decide_false, if_neg]
      by_cases h3 : hi < x
      · simp [h3]
      · simp [h3]
theorem clip_eq {k : Nat} (x : Int) (hk : 0 < k) : sat_Clip.f k x = some (clp x) := by
  unfold sat_Clip.f
  rw [bound_eq x _ _ hk]
  simp only [Option.bind_some, bnd, clp]
  congr 1
  split <;> split <;> (try split) <;> omega

def maxL (l : List Int) : Int := l.foldl (fun n x => mx n (clp x)) (-2305843009213693952)
def minL (l : List Int) : Int := l.foldl (fun n x => mn n (clp x)) 2305843009213693952
theorem max_l0 (l : List Int) (hl : l.length ≤ 4611686018427387904) (d : Nat) : ∀ (k : Nat) (n i : Int), 0 ≤ i → i ≤ l.length → (l.length : Int) - i = d → d + 1 < k →
    sat_Max.l0 k n l (l.length : Int) i = some ((l.drop i.toNat).foldl (fun n x => mx n (clp x)) n) := by
  induction d with
  | zero =>
    intro k n i h0 h1 hd hk
    obtain ⟨k, rfl⟩ : ∃ m, k = m + 1 := ⟨k - 1, by omega⟩
    simp only [sat_Max.l0]
    rw [if_neg (by omega), List.drop_eq_nil_of_le (by omega)]
    rfl
  | succ d ih =>
    intro k n i h0 h1 hd hk
    obtain ⟨k, rfl⟩ : ∃ m, k = m + 1 := ⟨k - 1, by omega⟩
    have hlt : i < (l.length : Int) := by omega
    simp only [sat_Max.l0]
    rw [if_pos hlt, if_pos h0, if_pos hlt, clip_eq _ (by omega), Option.bind_some, w64 (n := i + 1) (by omega) (by omega)]
    rw [ih k _ (i + 1) (by omega) (by omega) (by omega) (by omega), rd_drop h0 hlt]
    rfl
theorem max_eq {k : Nat} (l : List Int) (hl : l.length ≤ 4611686018427387904) (hk : l.length + 1 < k) : sat_Max.f k l = some (maxL l) := by
  unfold sat_Max.f
  rw [max_l0 l hl l.length k _ 0 (by omega) (by omega) (by omega) hk]
  rfl

theorem min_l0 (l : List Int) (hl : l.length ≤ 4611686018427387904) (d : Nat) : ∀ (k : Nat) (n i : Int), 0 ≤ i → i ≤ l.length → (l.length : Int) - i = d → d + 1 < k →
    sat_Min.l0 k n l (l.length : Int) i = some ((l.drop i.toNat).foldl (fun n x => mn n (clp x)) n) := by
  induction d with
  | zero =>
    intro k n i h0 h1 hd hk
    obtain ⟨k, rfl⟩ : ∃ m, k = m + 1 := ⟨k - 1, by omega⟩
    simp only [sat_Min.l0]
    rw [if_neg (by omega), List.drop_eq_nil_of_le (by omega)]
    rfl
  | succ d ih =>
    intro k n i h0 h1 hd hk
    obtain ⟨k, rfl⟩ : ∃ m, k = m + 1 := ⟨k - 1, by omega⟩
    have hlt : i < (l.length : Int) := by omega
    simp only [sat_Min.l0]
    rw [if_pos hlt, if_pos h0, if_pos hlt, clip_eq _ (by omega), Option.bind_some, w64 (n := i + 1) (by omega) (by omega)]
    rw [ih k _ (i + 1) (by omega) (by omega) (by omega) (by omega), rd_drop h0 hlt]
    rfl
theorem min_eq {k : Nat} (l : List Int) (hl : l.length ≤ 4611686018427387904) (hk : l.length + 1 < k) : sat_Min.f k l = some (minL l) := by
  unfold sat_Min.f
  rw [min_l0 l hl l.length k _ 0 (by omega) (by omega) (by omega) hk]
  rfl

theorem rclip_eq (x : Int) : clepsydraref01_Clip.f x = some (clp x) := by
  unfold clepsydraref01_Clip.f clp
  by_cases h1 : x > 2305843009213693952
  · rw [if_pos h1, if_neg (by omega), if_pos (by omega)]
  · rw [if_neg h1]
    by_cases h2 : x < -2305843009213693952
    · rw [if_pos h2, if_pos h2]
    · rw [if_neg h2, if_neg h2, if_neg (by omega)]

theorem rmax_l0 (l : List Int) (hl : l.length ≤ 4611686018427387904) (d : Nat) : ∀ (k : Nat) (n i : Int), 0 ≤ i → i ≤ l.length → (l.length : Int) - i = d → d < k →
    clepsydraref01_Max.l0 k n l (l.length : Int) i = some ((l.drop i.toNat).foldl (fun n x => mx n (clp x)) n) := by
  induction d with
  | zero =>
    intro k n i h0 h1 hd hk
    obtain ⟨k, rfl⟩ : ∃ m, k = m + 1 := ⟨k - 1, by omega⟩
    simp only [clepsydraref01_Max.l0]
    rw [if_neg (by omega), List.drop_eq_nil_of_le (by omega)]
    rfl
  | succ d ih =>
    intro k n i h0 h1 hd hk
    obtain ⟨k, rfl⟩ : ∃ m, k = m + 1 := ⟨k - 1, by omega⟩
    have hlt : i < (l.length : Int) := by omega
    simp only [clepsydraref01_Max.l0]
    rw [if_pos hlt, if_pos h0, if_pos hlt, rclip_eq, Option.bind_some, Option.bind_some, w64 (n := i + 1) (by omega) (by omega), rd_drop h0 hlt]
    simp only [List.foldl_cons]
    by_cases hc : clp (rd l i) > n
    · rw [if_pos hc, ih k _ (i + 1) (by omega) (by omega) (by omega) (by omega), show mx n (clp (rd l i)) = clp (rd l i) from by unfold mx; rw [if_pos hc]]
    · rw [if_neg hc, ih k _ (i + 1) (by omega) (by omega) (by omega) (by omega), show mx n (clp (rd l i)) = n from by unfold mx; rw [if_neg hc]]
theorem rmax_eq {k : Nat} (l : List Int) (hl : l.length ≤ 4611686018427387904) (hk : l.length + 1 < k) : clepsydraref01_Max.f k l = some (maxL l) := by
  unfold clepsydraref01_Max.f
  rw [rmax_l0 l hl l.length k _ 0 (by omega) (by omega) (by omega) (by omega)]
  rfl

/-- The pure statement of the law. -/
def Pure : Prop := ∀ (l0 : List Int), l0.length * 8 ≤ 140737488351232 → (∀ x ∈ l0, (Lit.int .i64 x).wf = true) → ∃ k, clepsydralaw01_SatEnds.f k l0 = some true

theorem minL_neg (l : List Int) : ∀ n, l.foldl (fun n x => mn n (clp x)) n = -((l.map fun x => -clp x).foldl (fun n x => mx n (clp x)) (-n)) := by
  induction l with
  | nil => intro n; simp
  | cons x l ih =>
    intro n
    simp only [List.map_cons, List.foldl_cons]
    rw [ih]
    congr 2
    have h := clp_b x
    rw [clp_id (x := -clp x) (by omega) (by omega)]
    unfold mn mx
    split <;> split <;> omega
theorem ends_l0 (l0 : List Int) (h4 : l0.length ≤ 4096) (d : Nat) : ∀ (k : Nat) (i : Int) (acc : List Int), 0 ≤ i → i ≤ l0.length → (l0.length : Int) - i = d → d + 9000 < k → acc = (l0.take i.toNat).map (fun x => -clp x) →
    clepsydralaw01_SatEnds.l0 k l0 acc l0 (l0.length : Int) i = some true := by
  induction d with
  | zero =>
    intro k i acc h0 h1 hd hk ha
    obtain ⟨k, rfl⟩ : ∃ m, k = m + 1 := ⟨k - 1, by omega⟩
    rw [List.take_of_length_le (by omega)] at ha
    have hlen : acc.length = l0.length := by rw [ha]; simp
    simp only [clepsydralaw01_SatEnds.l0]
    rw [if_neg (by omega), max_eq l0 (by omega) (by omega), Option.bind_some, rmax_eq l0 (by omega) (by omega), Option.bind_some, if_pos rfl, min_eq l0 (by omega) (by omega), Option.bind_some, rmax_eq acc (by omega) (by omega), Option.bind_some]
    have e : minL l0 = -maxL acc := by rw [ha]; unfold minL maxL; rw [minL_neg]
    have hb : -2305843009213693952 ≤ maxL acc ∧ maxL acc ≤ 2305843009213693952 := by
      unfold maxL
      suffices h : ∀ (l : List Int) (n : Int), -2305843009213693952 ≤ n → n ≤ 2305843009213693952 → -2305843009213693952 ≤ l.foldl (fun n x => mx n (clp x)) n ∧ l.foldl (fun n x => mx n (clp x)) n ≤ 2305843009213693952 from h acc _ (by omega) (by omega)
      intro l
      induction l with
      | nil => intro n h1 h2; exact ⟨h1, h2⟩
      | cons x l ih => intro n _ _; have := clp_b x; have hm : -2305843009213693952 ≤ mx n (clp x) ∧ mx n (clp x) ≤ 2305843009213693952 := by unfold mx; split <;> omega
                       exact ih _ hm.1 hm.2
    rw [w64 (by omega) (by omega), e]
    simp
  | succ d ih =>
    intro k i acc h0 h1 hd hk ha
    obtain ⟨k, rfl⟩ : ∃ m, k = m + 1 := ⟨k - 1, by omega⟩
    have hlt : i < (l0.length : Int) := by omega
    have hlen : acc.length ≤ 4096 := by rw [ha]; simp; omega
    have hc := clp_b (rd l0 i)
    simp only [clepsydralaw01_SatEnds.l0]
    rw [if_pos hlt, if_pos h0, if_pos hlt, rclip_eq, Option.bind_some, if_pos (by omega), w64 (n := i + 1) (by omega) (by omega), w64 (by omega) (by omega)]
    refine ih k (i + 1) _ (by omega) (by omega) (by omega) (by omega) ?_
    have hl : i.toNat < l0.length := by omega
    rw [show (i + 1).toNat = i.toNat + 1 from by omega, List.take_succ_eq_append_getElem hl, List.map_append, ← ha]
    simp [rd, List.getD_eq_getElem?_getD, List.getElem?_eq_getElem hl]
theorem SatEnds : Pure := by
  intro l hl _
  refine ⟨20000, ?_⟩
  unfold clepsydralaw01_SatEnds.f
  rw [max_eq [] (by simp) (by simp), Option.bind_some, if_pos (by decide), min_eq [] (by simp) (by simp), Option.bind_some, if_pos (by decide), max_eq [3, 4] (by simp) (by simp), Option.bind_some]
  rw [show (20000 : Nat) = 19999 + 1 from rfl]
  simp only [clepsydralaw01_SatEnds.j0]
  rw [if_neg (by decide)]
  by_cases h : (l.length : Int) > 4096
  · rw [if_pos h]
  · rw [if_neg h]
    exact ends_l0 l (by omega) l.length 19999 0 [] (by omega) (by omega) (by omega) (by omega) (by simp)

end Go.Proofs.Ytopaldkmgaflmaa.VSatEnds
