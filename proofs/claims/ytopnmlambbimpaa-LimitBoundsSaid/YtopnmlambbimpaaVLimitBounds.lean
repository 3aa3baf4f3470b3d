/- Hop, Gate, Width, Skew and Settle answer what the document says, of all numbers. -/
import Derived.Test.YtopnmlambbimpaaQx17
import Derived.OpenShut
set_option linter.unusedVariables false
set_option linter.unusedSimpArgs false
namespace Go.Proofs.Ytopnmlambbimpaa.VLimitBounds
open Go.RowKit Go.Proofs.Ytopnmlambbimpaa.Q Go.Proofs.YtopnmlambbimpaaW.PrintWords Go.Proofs.YtopnmlambbimpaaW.PrintLast Go.Proofs.YtopnmlambbimpaaW.PrintMore

theorem wb {n : Int} (h : (Lit.int .i64 n).wf = true) : -9223372036854775808 ≤ n ∧ n ≤ 9223372036854775807 := Go.bounds_i64 h
theorem w64 {n : Int} (h1 : -9223372036854775808 ≤ n) (h2 : n ≤ 9223372036854775807) : wrap64 n = n := by unfold wrap64; omega
def clp (x : Int) : Int := if x < -2305843009213693952 then -2305843009213693952 else if 2305843009213693952 < x then 2305843009213693952 else x
theorem clp_b (x : Int) : -2305843009213693952 ≤ clp x ∧ clp x ≤ 2305843009213693952 := by unfold clp; split <;> (try split) <;> omega
theorem clp_id {x : Int} (h1 : -2305843009213693952 ≤ x) (h2 : x ≤ 2305843009213693952) : clp x = x := by unfold clp; rw [if_neg (by omega), if_neg (by omega)]
theorem clp_neg (x : Int) : clp (-x) = -clp x := by unfold clp; split <;> (try split) <;> (try split) <;> (try split) <;> omega
def bnd (x lo hi : Int) : Int := if x < lo ∨ hi < lo then lo else if hi < x then hi else x
def addL (l : List Int) : Int := l.foldl (fun n x => clp (n + clp x)) 0
def sub (a b : Int) : Int := clp (clp a - clp b)
def absC (a : Int) : Int := if a < 0 then -clp a else clp a
theorem absC_b (x : Int) : 0 ≤ absC x ∧ absC x ≤ 2305843009213693952 := by have := clp_b x; unfold absC; unfold clp at *; split <;> omega
theorem add2 (a b : Int) : addL [a, b] = clp (clp a + clp b) := by
  have h := clp_b a
  simp only [addL, List.foldl_cons, List.foldl_nil, Int.zero_add]
  rw [clp_id h.1 h.2]
theorem add3 (a b c : Int) : addL [a, b, c] = clp (clp (clp a + clp b) + clp c) := by
  have h := clp_b a
  simp only [addL, List.foldl_cons, List.foldl_nil, Int.zero_add]
  rw [clp_id h.1 h.2]
theorem rd_drop {l : List Int} {i : Int} (h0 : 0 ≤ i) (h1 : i < (l.length : Int)) : l.drop i.toNat = rd l i :: l.drop (i + 1).toNat := by
  have h : i.toNat < l.length := by omega
  rw [List.drop_eq_getElem_cons h, show (i + 1).toNat = i.toNat + 1 from by omega]
  congr 1
  simp [rd, List.getD_eq_getElem?_getD, List.getElem?_eq_getElem h]
def mulC (a b : Int) : Int := clp (clp a * clp b)
theorem mulC_b (a b : Int) : -2305843009213693952 ≤ mulC a b ∧ mulC a b ≤ 2305843009213693952 := clp_b _
theorem sub_b (a b : Int) : -2305843009213693952 ≤ sub a b ∧ sub a b ≤ 2305843009213693952 := clp_b _
theorem addL_b (l : List Int) : -2305843009213693952 ≤ addL l ∧ addL l ≤ 2305843009213693952 := by
  unfold addL
  suffices h : ∀ (l : List Int) (n : Int), -2305843009213693952 ≤ n → n ≤ 2305843009213693952 → -2305843009213693952 ≤ l.foldl (fun n x => clp (n + clp x)) n ∧ l.foldl (fun n x => clp (n + clp x)) n ≤ 2305843009213693952 from h l 0 (by omega) (by omega)
  intro l
  induction l with
  | nil => intro n h1 h2; exact ⟨h1, h2⟩
  | cons x l ih => intro n _ _; exact ih _ (clp_b _).1 (clp_b _).2

theorem clp_le {x y : Int} (h : x ≤ y) (h2 : -2305843009213693952 ≤ y) : clp x ≤ y := by unfold clp; repeat' split
                                                                                         all_goals omega
theorem le_clp {x y : Int} (h : y ≤ x) (h2 : y ≤ 2305843009213693952) : y ≤ clp x := by unfold clp; repeat' split
                                                                                        all_goals omega
theorem clp_mono {x y : Int} (h : x ≤ y) : clp x ≤ clp y := by unfold clp; repeat' split
                                                               all_goals omega
theorem sub_small {a b : Int} (h1 : -2305843009213693952 ≤ a) (h2 : a ≤ 2305843009213693952) (h3 : -2305843009213693952 ≤ b) (h4 : b ≤ 2305843009213693952) (h5 : -2305843009213693952 ≤ a - b) (h6 : a - b ≤ 2305843009213693952) : sub a b = a - b := by
  unfold sub; rw [clp_id h1 h2, clp_id h3 h4, clp_id h5 h6]
theorem add2_small {a b : Int} (h1 : -2305843009213693952 ≤ a) (h2 : a ≤ 2305843009213693952) (h3 : -2305843009213693952 ≤ b) (h4 : b ≤ 2305843009213693952) (h5 : -2305843009213693952 ≤ a + b) (h6 : a + b ≤ 2305843009213693952) : addL [a, b] = a + b := by
  rw [add2, clp_id h1 h2, clp_id h3 h4, clp_id h5 h6]
theorem add3_small {a b c : Int} (h1 : -2305843009213693952 ≤ a) (h2 : a ≤ 2305843009213693952) (h3 : -2305843009213693952 ≤ b) (h4 : b ≤ 2305843009213693952) (h5 : -2305843009213693952 ≤ c) (h6 : c ≤ 2305843009213693952) (h7 : -2305843009213693952 ≤ a + b) (h8 : a + b ≤ 2305843009213693952) (h9 : -2305843009213693952 ≤ a + b + c) (h10 : a + b + c ≤ 2305843009213693952) : addL [a, b, c] = a + b + c := by
  rw [add3, clp_id h1 h2, clp_id h3 h4, clp_id h7 h8, clp_id h5 h6, clp_id h9 h10]

theorem bound_eq {k : Nat} (x lo hi : Int) (hk : 0 < k) : sat_Bound.f k x lo hi = some (bnd x lo hi) := by
  obtain ⟨k, rfl⟩ : ∃ m, k = m + 1 := ⟨k - 1, by omega⟩
  unfold sat_Bound.f bnd
  simp only [sat_Bound.j0]
  by_cases h1 : x < lo
  · simp [h1]
  · by_cases h2 : hi < lo
    · simp [h1, h2]
    · simp only [h1, h2, if_false, false_or, decide_false, if_neg]
      by_cases h3 : hi < x
      · simp [h3]
      · simp [h3]
theorem clip_eq {k : Nat} (x : Int) (hk : 0 < k) : sat_Clip.f k x = some (clp x) := by
  unfold sat_Clip.f
  rw [bound_eq x _ _ hk]
  simp only [Option.bind_some, bnd, clp]
  congr 1
  split <;> split <;> (try split) <;> omega

theorem neg_eq {k : Nat} (x : Int) (hk : 0 < k) : sat_Neg.f k x = some (-clp x) := by
  have h := clp_b x
  unfold sat_Neg.f
  rw [clip_eq x hk, Option.bind_some, w64 (by omega) (by omega)]

theorem abs_eq {k : Nat} (x : Int) (hk : 0 < k) : sat_Abs.f k x = some (absC x) := by
  unfold sat_Abs.f absC
  split
  · rw [neg_eq x hk]; rfl
  · rw [clip_eq x hk]; rfl

theorem add_l0 (l : List Int) (hl : l.length ≤ 4611686018427387904) (d : Nat) : ∀ (k : Nat) (n i : Int), -2305843009213693952 ≤ n → n ≤ 2305843009213693952 → 0 ≤ i → i ≤ l.length → (l.length : Int) - i = d → d + 1 < k →
    sat_Add.l0 k n l (l.length : Int) i = some ((l.drop i.toNat).foldl (fun n x => clp (n + clp x)) n) := by
  induction d with
  | zero =>
    intro k n i _ _ h0 h1 hd hk
    obtain ⟨k, rfl⟩ : ∃ m, k = m + 1 := ⟨k - 1, by omega⟩
    simp only [sat_Add.l0]
    rw [if_neg (by omega), List.drop_eq_nil_of_le (by omega)]
    rfl
  | succ d ih =>
    intro k n i n1 n2 h0 h1 hd hk
    obtain ⟨k, rfl⟩ : ∃ m, k = m + 1 := ⟨k - 1, by omega⟩
    have hlt : i < (l.length : Int) := by omega
    have hc := clp_b (rd l i)
    have hs := clp_b (n + clp (rd l i))
    simp only [sat_Add.l0]
    rw [if_pos hlt, if_pos h0, if_pos hlt, clip_eq _ (by omega), Option.bind_some, w64 (n := n + clp (rd l i)) (by omega) (by omega), clip_eq _ (by omega), Option.bind_some, w64 (n := i + 1) (by omega) (by omega)]
    rw [ih k _ (i + 1) hs.1 hs.2 (by omega) (by omega) (by omega) (by omega), rd_drop h0 hlt]
    rfl
theorem add_eq {k : Nat} (l : List Int) (hl : l.length ≤ 4611686018427387904) (hk : l.length + 1 < k) : sat_Add.f k l = some (addL l) := by
  unfold sat_Add.f
  rw [add_l0 l hl l.length k 0 0 (by omega) (by omega) (by omega) (by omega) (by omega) hk]
  rfl

theorem sub_eq {k : Nat} (a b : Int) (hk : 0 < k) : sat_Sub.f k a b = some (sub a b) := by
  have h := clp_b a
  have h' := clp_b b
  unfold sat_Sub.f sub
  rw [clip_eq a hk, Option.bind_some, clip_eq b hk, Option.bind_some, w64 (by omega) (by omega), clip_eq _ hk, Option.bind_some]

theorem mul_eq {k : Nat} (a b : Int) (hk : 0 < k) : sat_Mul.f k a b = some (mulC a b) := by
  obtain ⟨k, rfl⟩ : ∃ m, k = m + 1 := ⟨k - 1, by omega⟩
  unfold sat_Mul.f
  rw [abs_eq a hk, Option.bind_some, abs_eq b hk, Option.bind_some]
  have hx := absC_b a
  have hy := absC_b b
  have ha : (a < 0 ∧ clp a = -absC a) ∨ (¬ a < 0 ∧ clp a = absC a) := by unfold absC; by_cases h : a < 0 <;> simp [h]
  have hb : (b < 0 ∧ clp b = -absC b) ∨ (¬ b < 0 ∧ clp b = absC b) := by unfold absC; by_cases h : b < 0 <;> simp [h]
  unfold mulC
  generalize absC a = x at *
  generalize absC b = y at *
  have hz : 0 ≤ x * y := Int.mul_nonneg hx.1 hy.1
  have key : ∀ (t : Bool), (t = true → x * y ≤ 2305843009213693952) → (t = false → 2305843009213693952 ≤ x * y) → sat_Mul.j0 (k + 1) a b x y 2305843009213693952 t = some (clp (clp a * clp b)) := by
    intro t h1 h2
    simp only [sat_Mul.j0]
    have e : clp a * clp b = x * y ∧ ((decide (a < 0)) != (decide (b < 0))) = false ∨ clp a * clp b = -(x * y) ∧ ((decide (a < 0)) != (decide (b < 0))) = true := by
      rcases ha with ⟨h3, h4⟩ | ⟨h3, h4⟩ <;> rcases hb with ⟨h5, h6⟩ | ⟨h5, h6⟩ <;> rw [h4, h6]
      · exact .inl ⟨Int.neg_mul_neg x y, by simp [h3, h5]⟩
      · exact .inr ⟨Int.neg_mul x y, by simp [h3, h5]⟩
      · exact .inr ⟨Int.mul_neg x y, by simp [h3, h5]⟩
      · exact .inl ⟨rfl, by simp [h3, h5]⟩
    have c1 : t = true → clp (x * y) = x * y := fun h => clp_id (by omega) (h1 h)
    have c2 : t = false → clp (x * y) = 2305843009213693952 := fun h => by have := h2 h; unfold clp; split <;> (try split) <;> omega
    rcases e with ⟨e1, e2⟩ | ⟨e1, e2⟩ <;> rw [e1, e2] <;> cases t <;> simp only [if_true, if_false, Bool.false_eq_true]
    · rw [c2 rfl]
    · rw [w64 (by omega) (by have := h1 rfl; omega), c1 rfl]
    · rw [clp_neg, c2 rfl, w64 (by omega) (by omega)]
    · rw [w64 (n := x * y) (by omega) (by have := h1 rfl; omega), w64 (by have := h1 rfl; omega) (by have := h1 rfl; omega), clp_neg, c1 rfl]
  by_cases h0 : x = 0
  · rw [if_pos h0]
    exact key true (fun _ => by rw [h0]; simp) (fun h => by cases h)
  · rw [if_neg h0]
    have hx0 : 0 < x := by omega
    have hq1 : 0 ≤ (2305843009213693952 : Int) / x := Int.ediv_nonneg (by omega) hx.1
    have hq2 : (2305843009213693952 : Int) / x ≤ 2305843009213693952 := Int.ediv_le_self _ (by omega)
    rw [w64 (by omega) (by omega)]
    have hiff : y ≤ (2305843009213693952 : Int) / x ↔ y * x ≤ 2305843009213693952 := Int.le_ediv_iff_mul_le hx0
    rw [Int.mul_comm y x] at hiff
    exact key _ (fun h => hiff.1 (of_decide_eq_true h)) (fun h => by have := of_decide_eq_false h; rw [hiff] at this; omega)

theorem um (x : Int) : IntKind.u64.wrap x = x % 18446744073709551616 := by
  unfold IntKind.wrap; simp [IntKind.signed, IntKind.bits]
theorem uw {x : Int} (h1 : 0 ≤ x) (h2 : x < 18446744073709551616) : IntKind.u64.wrap x = x := by rw [um]; omega
theorem and_nat (a b : Nat) (ha : a < 18446744073709551616) (hb : b < 18446744073709551616) : Go.bits .and .u64 (a : Int) (b : Int) = ((a &&& b : Nat) : Int) := by
  have h : a &&& b ≤ a := Nat.and_le_left
  show IntKind.u64.wrap ((BitVec.ofInt 64 (a : Int) &&& BitVec.ofInt 64 (b : Int)).toNat : Int) = _
  rw [BitVec.ofInt_natCast, BitVec.ofInt_natCast, BitVec.toNat_and, BitVec.toNat_ofNat, BitVec.toNat_ofNat]
  rw [Nat.mod_eq_of_lt (by omega), Nat.mod_eq_of_lt (by omega), uw (by omega) (by omega)]
theorem or_nat (a b : Nat) (ha : a < 18446744073709551616) (hb : b < 18446744073709551616) : Go.bits .or .u64 (a : Int) (b : Int) = ((a ||| b : Nat) : Int) := by
  have h : a ||| b < 2 ^ 64 := Nat.or_lt_two_pow (by omega) (by omega)
  show IntKind.u64.wrap ((BitVec.ofInt 64 (a : Int) ||| BitVec.ofInt 64 (b : Int)).toNat : Int) = _
  rw [BitVec.ofInt_natCast, BitVec.ofInt_natCast, BitVec.toNat_or, BitVec.toNat_ofNat, BitVec.toNat_ofNat]
  rw [Nat.mod_eq_of_lt (by omega), Nat.mod_eq_of_lt (by omega), uw (by omega) (by omega)]
theorem mask32 {a : Int} (h1 : 0 ≤ a) (h2 : a < 18446744073709551616) : Go.bits .and .u64 a 4294967295 = a % 4294967296 := by
  obtain ⟨n, rfl⟩ := Int.eq_ofNat_of_zero_le h1
  have h := and_nat n 4294967295 (by omega) (by omega)
  have e : n &&& 4294967295 = n % 4294967296 := Nat.and_two_pow_sub_one_eq_mod n 32
  rw [e] at h
  exact h.trans (by omega)
/-- What is put together out of a multiple of a power and less than it. -/
theorem or_sum {a b : Int} (s : Nat) (ha : 0 ≤ a) (hb : 0 ≤ b) (hb2 : b < 2 ^ s) (hs : a * 2 ^ s < 18446744073709551616) (hb3 : b < 18446744073709551616) : Go.bits .or .u64 (a * 2 ^ s) b = a * 2 ^ s + b := by
  obtain ⟨n, rfl⟩ := Int.eq_ofNat_of_zero_le ha
  obtain ⟨m, rfl⟩ := Int.eq_ofNat_of_zero_le hb
  have e : ((n : Int) * 2 ^ s) = ((n * 2 ^ s : Nat) : Int) := by simp
  have hm : m < 2 ^ s := by have : ((2 : Int) ^ s) = ((2 ^ s : Nat) : Int) := by simp
                            omega
  rw [e] at hs ⊢
  have h := or_nat (n * 2 ^ s) m (by omega) (by omega)
  have h2 := Nat.shiftLeft_add_eq_or_of_lt hm n
  rw [Nat.shiftLeft_eq] at h2
  rw [← h2] at h
  exact h.trans (by omega)
theorem mul64_eq {a b : Int} (a0 : 0 ≤ a) (a1 : a < 18446744073709551616) (b0 : 0 ≤ b) (b1 : b < 18446744073709551616) :
    bits_Mul64.f a b = some (a * b / 18446744073709551616, a * b % 18446744073709551616) := by
  unfold bits_Mul64.f
  rw [mask32 a0 a1, mask32 b0 b1]
  have ea : a = a / 4294967296 * 4294967296 + a % 4294967296 := by omega
  have eb : b = b / 4294967296 * 4294967296 + b % 4294967296 := by omega
  have A0 : 0 ≤ a / 4294967296 := by omega
  have A1 : a / 4294967296 ≤ 4294967295 := by omega
  have A2 : 0 ≤ a % 4294967296 := by omega
  have A3 : a % 4294967296 ≤ 4294967295 := by omega
  have B0 : 0 ≤ b / 4294967296 := by omega
  have B1 : b / 4294967296 ≤ 4294967295 := by omega
  have B2 : 0 ≤ b % 4294967296 := by omega
  have B3 : b % 4294967296 ≤ 4294967295 := by omega
  rw [um (a * b)]
  generalize hp : a * b = p
  generalize a / 4294967296 = x1 at *
  generalize a % 4294967296 = x0 at *
  generalize b / 4294967296 = y1 at *
  generalize b % 4294967296 = y0 at *
  have p00 : 0 ≤ x0 * y0 ∧ x0 * y0 ≤ 4294967295 * 4294967295 := ⟨Int.mul_nonneg A2 B2, Int.mul_le_mul A3 B3 B2 (by omega)⟩
  have p10 : 0 ≤ x1 * y0 ∧ x1 * y0 ≤ 4294967295 * 4294967295 := ⟨Int.mul_nonneg A0 B2, Int.mul_le_mul A1 B3 B2 (by omega)⟩
  have p01 : 0 ≤ x0 * y1 ∧ x0 * y1 ≤ 4294967295 * 4294967295 := ⟨Int.mul_nonneg A2 B0, Int.mul_le_mul A3 B1 B0 (by omega)⟩
  have p11 : 0 ≤ x1 * y1 ∧ x1 * y1 ≤ 4294967295 * 4294967295 := ⟨Int.mul_nonneg A0 B0, Int.mul_le_mul A1 B1 B0 (by omega)⟩
  have e : p = x1 * y1 * 18446744073709551616 + (x1 * y0 + x0 * y1) * 4294967296 + x0 * y0 := by
    rw [← hp, ea, eb, Int.add_mul, Int.mul_add, Int.mul_add]
    have e1 : x1 * 4294967296 * (y1 * 4294967296) = x1 * y1 * 18446744073709551616 := by
      rw [Int.mul_assoc, Int.mul_left_comm 4294967296 y1 4294967296, ← Int.mul_assoc]; omega
    have e2 : x1 * 4294967296 * y0 = x1 * y0 * 4294967296 := by rw [Int.mul_assoc, Int.mul_comm 4294967296 y0, ← Int.mul_assoc]
    have e3 : x0 * (y1 * 4294967296) = x0 * y1 * 4294967296 := by rw [Int.mul_assoc]
    rw [e1, e2, e3]; omega
  generalize x1 * y1 = q11 at *
  generalize x1 * y0 = q10 at *
  generalize x0 * y1 = q01 at *
  generalize x0 * y0 = q00 at *
  rw [uw (x := q00) (by omega) (by omega), uw (x := q10) (by omega) (by omega), uw (x := q01) (by omega) (by omega), uw (x := q11) (by omega) (by omega), uw (x := q10 + q00 / 4294967296) (by omega) (by omega), mask32 (by omega) (by omega)]
  rw [uw (x := (q10 + q00 / 4294967296) % 4294967296 + q01) (by omega) (by omega), uw (x := q11 + (q10 + q00 / 4294967296) / 4294967296) (by omega) (by omega), um]
  congr 2
  omega

def T8 : ByteArray := (⟨#[0, 1, 2, 2, 3, 3, 3, 3, 4, 4, 4, 4, 4, 4, 4, 4, 5, 5, 5, 5, 5, 5, 5, 5, 5, 5, 5, 5, 5, 5, 5, 5, 6, 6, 6, 6, 6, 6, 6, 6, 6, 6, 6, 6, 6, 6, 6, 6, 6, 6, 6, 6, 6, 6, 6, 6, 6, 6, 6, 6, 6, 6, 6, 6, 7, 7, 7, 7, 7, 7, 7, 7, 7, 7, 7, 7, 7, 7, 7, 7, 7, 7, 7, 7, 7, 7, 7, 7, 7, 7, 7, 7, 7, 7, 7, 7, 7, 7, 7, 7, 7, 7, 7, 7, 7, 7, 7, 7, 7, 7, 7, 7, 7, 7, 7, 7, 7, 7, 7, 7, 7, 7, 7, 7, 7, 7, 7, 7, 8, 8, 8, 8, 8, 8, 8, 8, 8, 8, 8, 8, 8, 8, 8, 8, 8, 8, 8, 8, 8, 8, 8, 8, 8, 8, 8, 8, 8, 8, 8, 8, 8, 8, 8, 8, 8, 8, 8, 8, 8, 8, 8, 8, 8, 8, 8, 8, 8, 8, 8, 8, 8, 8, 8, 8, 8, 8, 8, 8, 8, 8, 8, 8, 8, 8, 8, 8, 8, 8, 8, 8, 8, 8, 8, 8, 8, 8, 8, 8, 8, 8, 8, 8, 8, 8, 8, 8, 8, 8, 8, 8, 8, 8, 8, 8, 8, 8, 8, 8, 8, 8, 8, 8, 8, 8, 8, 8, 8, 8, 8, 8, 8, 8, 8, 8, 8, 8, 8, 8, 8, 8, 8, 8, 8, 8, 8, 8]⟩ : ByteArray)
theorem t8_all : (List.range 256).all (fun v => decide (v = 0) || (decide (1 ≤ bt T8 (v : Int)) && decide (bt T8 (v : Int) ≤ 8) && decide (2 ^ (bt T8 (v : Int) - 1).toNat ≤ v) && decide (v < 2 ^ (bt T8 (v : Int)).toNat))) = true := by kernel_rfl
theorem t8 {v : Int} (h1 : 1 ≤ v) (h2 : v < 256) : (bt T8 v = 1 ∧ 1 ≤ v ∧ v < 2) ∨ (bt T8 v = 2 ∧ 2 ≤ v ∧ v < 4) ∨ (bt T8 v = 3 ∧ 4 ≤ v ∧ v < 8) ∨ (bt T8 v = 4 ∧ 8 ≤ v ∧ v < 16) ∨ (bt T8 v = 5 ∧ 16 ≤ v ∧ v < 32) ∨ (bt T8 v = 6 ∧ 32 ≤ v ∧ v < 64) ∨ (bt T8 v = 7 ∧ 64 ≤ v ∧ v < 128) ∨ (bt T8 v = 8 ∧ 128 ≤ v ∧ v < 256) := by
  obtain ⟨n, rfl⟩ := Int.eq_ofNat_of_zero_le (show 0 ≤ v by omega)
  have h := List.all_eq_true.mp t8_all n (List.mem_range.mpr (by omega))
  simp only [Bool.or_eq_true, Bool.and_eq_true, decide_eq_true_eq] at h
  rcases h with h | ⟨⟨⟨a1, a2⟩, a3⟩, a4⟩
  · omega
  · generalize bt T8 (n : Int) = m at *
    have : m = 1 ∨ m = 2 ∨ m = 3 ∨ m = 4 ∨ m = 5 ∨ m = 6 ∨ m = 7 ∨ m = 8 := by omega
    rcases this with rfl | rfl | rfl | rfl | rfl | rfl | rfl | rfl <;> simp at a3 a4 <;> omega
/-- How many bits a number takes. -/
def LenIs (x n : Int) : Prop := 1 ≤ n ∧ n ≤ 64 ∧ (2 : Int) ^ (n - 1).toNat ≤ x ∧ x < (2 : Int) ^ n.toNat
theorem lenIs_of {x v n : Int} (s : Nat) (hs : s ≤ 56) (h0 : 0 ≤ x) (hv : x / 2 ^ s = v) (h1 : 1 ≤ v) (h2 : v < 256) (hn : n = s + bt T8 v) : LenIs x n := by
  have hp : (0 : Int) < 2 ^ s := Int.pow_pos (by decide)
  have e1 : v * 2 ^ s ≤ x := by rw [← hv]; exact Int.ediv_mul_le _ (by omega)
  have e2 : x < (v + 1) * 2 ^ s := by rw [← hv]; exact Int.lt_ediv_add_one_mul_self _ hp
  have key : ∀ m : Nat, 1 ≤ m → m ≤ 8 → bt T8 v = m → (2 : Int) ^ (m - 1) ≤ v → v + 1 ≤ (2 : Int) ^ m → LenIs x n := by
    intro m m1 m2 hm l1 l2
    refine ⟨by omega, by omega, ?_, ?_⟩
    · rw [show (n - 1).toNat = (m - 1) + s from by omega, Int.pow_add]
      exact Int.le_trans (Int.mul_le_mul_of_nonneg_right l1 (by omega)) e1
    · rw [show n.toNat = m + s from by omega, Int.pow_add]
      exact Int.lt_of_lt_of_le e2 (Int.mul_le_mul_of_nonneg_right l2 (by omega))
  rcases t8 h1 h2 with h | h | h | h | h | h | h | h
  · exact key 1 (by omega) (by omega) h.1 (by simp; omega) (by simp; omega)
  · exact key 2 (by omega) (by omega) h.1 (by simp; omega) (by simp; omega)
  · exact key 3 (by omega) (by omega) h.1 (by simp; omega) (by simp; omega)
  · exact key 4 (by omega) (by omega) h.1 (by simp; omega) (by simp; omega)
  · exact key 5 (by omega) (by omega) h.1 (by simp; omega) (by simp; omega)
  · exact key 6 (by omega) (by omega) h.1 (by simp; omega) (by simp; omega)
  · exact key 7 (by omega) (by omega) h.1 (by simp; omega) (by simp; omega)
  · exact key 8 (by omega) (by omega) h.1 (by simp; omega) (by simp; omega)
theorem t8_b {v : Int} (h1 : 1 ≤ v) (h2 : v < 256) : 1 ≤ bt T8 v ∧ bt T8 v ≤ 8 := by
  rcases t8 h1 h2 with h | h | h | h | h | h | h | h <;> omega
set_option maxRecDepth 100000 in
theorem len_j0 {k : Nat} {x n : Int} (h1 : 1 ≤ x) (h2 : x < 4294967296) (hn0 : 0 ≤ n) (hn : n ≤ 32) (hk : 0 < k) : ∃ s : Nat, s ≤ 24 ∧ 1 ≤ x / 2 ^ s ∧ x / 2 ^ s < 256 ∧ bits_Len64.j0 k x n = some (n + s + bt T8 (x / 2 ^ s)) := by
  obtain ⟨k, rfl⟩ : ∃ m, k = m + 1 := ⟨k - 1, by omega⟩
  rw [bits_Len64.j0]
  have hT : (⟨#[0, 1, 2, 2, 3, 3, 3, 3, 4, 4, 4, 4, 4, 4, 4, 4, 5, 5, 5, 5, 5, 5, 5, 5, 5, 5, 5, 5, 5, 5, 5, 5, 6, 6, 6, 6, 6, 6, 6, 6, 6, 6, 6, 6, 6, 6, 6, 6, 6, 6, 6, 6, 6, 6, 6, 6, 6, 6, 6, 6, 6, 6, 6, 6, 7, 7, 7, 7, 7, 7, 7, 7, 7, 7, 7, 7, 7, 7, 7, 7, 7, 7, 7, 7, 7, 7, 7, 7, 7, 7, 7, 7, 7, 7, 7, 7, 7, 7, 7, 7, 7, 7, 7, 7, 7, 7, 7, 7, 7, 7, 7, 7, 7, 7, 7, 7, 7, 7, 7, 7, 7, 7, 7, 7, 7, 7, 7, 7, 8, 8, 8, 8, 8, 8, 8, 8, 8, 8, 8, 8, 8, 8, 8, 8, 8, 8, 8, 8, 8, 8, 8, 8, 8, 8, 8, 8, 8, 8, 8, 8, 8, 8, 8, 8, 8, 8, 8, 8, 8, 8, 8, 8, 8, 8, 8, 8, 8, 8, 8, 8, 8, 8, 8, 8, 8, 8, 8, 8, 8, 8, 8, 8, 8, 8, 8, 8, 8, 8, 8, 8, 8, 8, 8, 8, 8, 8, 8, 8, 8, 8, 8, 8, 8, 8, 8, 8, 8, 8, 8, 8, 8, 8, 8, 8, 8, 8, 8, 8, 8, 8, 8, 8, 8, 8, 8, 8, 8, 8, 8, 8, 8, 8, 8, 8, 8, 8, 8, 8, 8, 8, 8, 8, 8, 8, 8, 8]⟩ : ByteArray) = T8 := rfl
  rw [hT]
  by_cases c1 : x ≥ 65536
  · rw [if_pos c1]
    by_cases c2 : x / 65536 ≥ 256
    · have e : x / 2 ^ 24 = x / 65536 / 256 := by omega
      have b := t8_b (v := x / 65536 / 256) (by omega) (by omega)
      refine ⟨24, by omega, by omega, by omega, ?_⟩
      rw [if_pos c2, show x / 65536 / 256 % 256 = x / 65536 / 256 from by omega, if_pos (by omega), if_pos (by omega), e, w64 (n := n + 16) (by omega) (by omega), w64 (n := n + 16 + 8) (by omega) (by omega), w64 (n := bt T8 (x / 65536 / 256)) (by omega) (by omega), w64 (by omega) (by omega)]
      congr 1; omega
    · have e : x / 2 ^ 16 = x / 65536 := by omega
      have b := t8_b (v := x / 65536) (by omega) (by omega)
      refine ⟨16, by omega, by omega, by omega, ?_⟩
      rw [if_neg c2, show x / 65536 % 256 = x / 65536 from by omega, if_pos (by omega), if_pos (by omega), e, w64 (n := n + 16) (by omega) (by omega), w64 (n := bt T8 (x / 65536)) (by omega) (by omega), w64 (by omega) (by omega)]
      congr 1
  · rw [if_neg c1]
    by_cases c2 : x ≥ 256
    · have e : x / 2 ^ 8 = x / 256 := by omega
      have b := t8_b (v := x / 256) (by omega) (by omega)
      refine ⟨8, by omega, by omega, by omega, ?_⟩
      rw [if_pos c2, show x / 256 % 256 = x / 256 from by omega, if_pos (by omega), if_pos (by omega), e, w64 (n := n + 8) (by omega) (by omega), w64 (n := bt T8 (x / 256)) (by omega) (by omega), w64 (by omega) (by omega)]
      congr 1
    · have e : x / 2 ^ 0 = x := by simp
      have b := t8_b (v := x) (by omega) (by omega)
      refine ⟨0, by omega, by omega, by omega, ?_⟩
      rw [if_neg c2, show x % 256 = x from by omega, if_pos (by omega), if_pos (by omega), e, w64 (n := bt T8 x) (by omega) (by omega), w64 (by omega) (by omega)]
      congr 1; omega
theorem len_eq {k : Nat} {x : Int} (h1 : 1 ≤ x) (h2 : x < 18446744073709551616) (hk : 0 < k) : ∃ n, bits_Len64.f k x = some n ∧ LenIs x n := by
  unfold bits_Len64.f
  by_cases c : x ≥ 4294967296
  · obtain ⟨s, hs, v1, v2, h⟩ := len_j0 (k := k) (x := x / 4294967296) (n := 32) (by omega) (by omega) (by omega) (by omega) hk
    have e : x / 4294967296 / 2 ^ s = x / 2 ^ (32 + s) := by
      rw [show (4294967296 : Int) = 2 ^ 32 from by decide, Int.ediv_ediv_of_nonneg (by decide), Int.pow_add]
    rw [e] at v1 v2 h
    refine ⟨_, by rw [if_pos c]; exact h, lenIs_of (32 + s) (by omega) (by omega) rfl v1 v2 ?_⟩
    omega
  · obtain ⟨s, hs, v1, v2, h⟩ := len_j0 (k := k) (x := x) (n := 0) (by omega) (by omega) (by omega) (by omega) hk
    refine ⟨_, by rw [if_neg c]; exact h, lenIs_of s (by omega) (by omega) rfl v1 v2 ?_⟩
    omega
theorem lead_eq {k : Nat} {x : Int} (h1 : 1 ≤ x) (h2 : x < 18446744073709551616) (hk : 0 < k) : ∃ s : Nat, bits_LeadingZeros64.f k x = some (s : Int) ∧ s ≤ 63 ∧ 9223372036854775808 ≤ x * 2 ^ s ∧ x * 2 ^ s < 18446744073709551616 := by
  obtain ⟨n, hn, n1, n2, l1, l2⟩ := len_eq h1 h2 hk
  have hp : (0 : Int) < 2 ^ (64 - n).toNat := Int.pow_pos (by decide)
  refine ⟨(64 - n).toNat, ?_, by omega, ?_, ?_⟩
  · unfold bits_LeadingZeros64.f
    rw [hn, Option.bind_some, w64 (by omega) (by omega)]
    congr 1; omega
  · rw [show (9223372036854775808 : Int) = 2 ^ (n - 1).toNat * 2 ^ (64 - n).toNat from by rw [← Int.pow_add, show (n - 1).toNat + (64 - n).toNat = 63 from by omega]; decide]
    exact Int.mul_le_mul_of_nonneg_right l1 (by omega)
  · rw [show (18446744073709551616 : Int) = 2 ^ n.toNat * 2 ^ (64 - n).toNat from by rw [← Int.pow_add, show n.toNat + (64 - n).toNat = 64 from by omega]; decide]
    exact Int.mul_lt_mul_of_pos_right l2 hp

/-- What is divided, digit by digit (of 32 bits): what holds while a digit is sought. -/
structure Dig (d d1 d0 u u1 q r : Int) : Prop where
  hd : d = d1 * 4294967296 + d0
  d1a : 2147483648 ≤ d1
  d1b : d1 < 4294967296
  d0a : 0 ≤ d0
  d0b : d0 < 4294967296
  ua : 0 ≤ u
  ub : u < d
  u1a : 0 ≤ u1
  u1b : u1 < 4294967296
  ra : 0 ≤ r
  rb : r < 4294967296
  hq : q * d1 + r = u
  q0 : 0 ≤ q
  qb : q ≤ 4294967297
  top : (u * 4294967296 + u1) / d ≤ q
theorem dig_pos {d d1 d0 u u1 q r : Int} (h : Dig d d1 d0 u u1 q r) : 9223372036854775808 ≤ d ∧ d < 18446744073709551616 := by
  have := h.hd; have := h.d1a; have := h.d1b; have := h.d0a; have := h.d0b; omega
theorem dig_lt {d d1 d0 u u1 q r : Int} (h : Dig d d1 d0 u u1 q r) : (u * 4294967296 + u1) / d < 4294967296 := by
  have hp := dig_pos h
  have := h.ub; have := h.u1b
  apply Int.ediv_lt_of_lt_mul (by omega)
  omega
theorem dig_cmp {d d1 d0 u u1 q r : Int} (h : Dig d d1 d0 u u1 q r) : q * d = u * 4294967296 + u1 + (q * d0 - (4294967296 * r + u1)) := by
  rw [h.hd, ← h.hq, Int.mul_add, Int.add_mul]
  have e : q * (d1 * 4294967296) = q * d1 * 4294967296 := by rw [Int.mul_assoc]
  rw [e]; omega
/-- The digit that is too great by its test. -/
theorem dig_less {d d1 d0 u u1 q r : Int} (h : Dig d d1 d0 u u1 q r) (t : 4294967296 ≤ q ∨ 4294967296 * r + u1 < q * d0) : 1 ≤ q ∧ (u * 4294967296 + u1) / d ≤ q - 1 := by
  have hp := dig_pos h
  have hl := dig_lt h
  have hc := dig_cmp h
  have := h.q0
  rcases t with t | t
  · omega
  · have : (u * 4294967296 + u1) / d < q := Int.ediv_lt_of_lt_mul (by omega) (by omega)
    have : 0 ≤ (u * 4294967296 + u1) / d := Int.ediv_nonneg (by have := h.ua; have := h.u1a; omega) (by omega)
    omega
/-- The digit that is found. -/
theorem dig_found {d d1 d0 u u1 q r : Int} (h : Dig d d1 d0 u u1 q r) (t : q * d0 ≤ 4294967296 * r + u1) : (u * 4294967296 + u1) / d = q := by
  have hp := dig_pos h
  have hc := dig_cmp h
  have : q ≤ (u * 4294967296 + u1) / d := Int.le_ediv_of_mul_le (by omega) (by omega)
  have := h.top
  omega
theorem dig_found' {d d1 d0 u u1 q r : Int} (hd : d = d1 * 4294967296 + d0) (hp : 0 < d) (d0a : 0 ≤ d0) (d0b : d0 < 4294967296) (u1a : 0 ≤ u1) (r1 : 4294967296 ≤ r) (hq : q * d1 + r = u) (q0 : 0 ≤ q) (qb : q ≤ 4294967296) (top : (u * 4294967296 + u1) / d ≤ q) : (u * 4294967296 + u1) / d = q := by
  have hc : q * d = u * 4294967296 + u1 + (q * d0 - (4294967296 * r + u1)) := by
    rw [hd, ← hq, Int.mul_add, Int.add_mul]
    have e : q * (d1 * 4294967296) = q * d1 * 4294967296 := by rw [Int.mul_assoc]
    rw [e]; omega
  have h1 : q * d0 ≤ 4294967296 * 4294967295 := Int.mul_le_mul qb (by omega) d0a (by omega)
  have : q ≤ (u * 4294967296 + u1) / d := Int.le_ediv_of_mul_le hp (by omega)
  omega
theorem dig_start {d d1 d0 u u1 : Int} (hd : d = d1 * 4294967296 + d0) (d1a : 2147483648 ≤ d1) (d1b : d1 < 4294967296) (d0a : 0 ≤ d0) (d0b : d0 < 4294967296) (ua : 0 ≤ u) (ub : u < d) (u1a : 0 ≤ u1) (u1b : u1 < 4294967296) : Dig d d1 d0 u u1 (u / d1) (u - u / d1 * d1) := by
  have e := Int.emod_add_mul_ediv u d1
  have m0 := Int.emod_nonneg u (show d1 ≠ 0 by omega)
  have m1 := Int.emod_lt_of_pos u (show 0 < d1 by omega)
  have e2 : u / d1 * d1 = d1 * (u / d1) := Int.mul_comm _ _
  have qn : 0 ≤ u / d1 := Int.ediv_nonneg ua (by omega)
  have qb : u / d1 ≤ 4294967297 := by
    have : u / d1 < 4294967298 := Int.ediv_lt_of_lt_mul (by omega) (by omega)
    omega
  refine ⟨hd, d1a, d1b, d0a, d0b, ua, ub, u1a, u1b, by omega, by omega, by omega, qn, qb, ?_⟩
  have hp : 0 < d := by omega
  have : (u * 4294967296 + u1) / d < u / d1 + 1 := by
    apply Int.ediv_lt_of_lt_mul hp
    rw [hd, Int.mul_add]
    have a1 : (u / d1 + 1) * (d1 * 4294967296) = (d1 * (u / d1) + d1) * 4294967296 := by rw [← Int.mul_assoc, Int.add_mul, Int.mul_comm (u / d1) d1, Int.one_mul]
    have a2 : 0 ≤ (u / d1 + 1) * d0 := Int.mul_nonneg (by omega) d0a
    rw [a1]; omega
  omega
/-- What is left behind a digit. -/
theorem dig_rest {n m d q : Int} (hp : 0 < d) (hq : n / d = q) : 0 ≤ n - q * d ∧ n - q * d < d := by
  have e := Int.emod_add_mul_ediv n d
  have m0 := Int.emod_nonneg n (show d ≠ 0 by omega)
  have m1 := Int.emod_lt_of_pos n hp
  rw [hq, Int.mul_comm] at e
  omega
theorem dig_next {d d1 d0 u u1 q r : Int} (h : Dig d d1 d0 u u1 q r) (t : 4294967296 ≤ q ∨ 4294967296 * r + u1 < q * d0) (hr : r + d1 < 4294967296) : Dig d d1 d0 u u1 (q - 1) (r + d1) := by
  have l := dig_less h t
  refine ⟨h.hd, h.d1a, h.d1b, h.d0a, h.d0b, h.ua, h.ub, h.u1a, h.u1b, by have := h.ra; have := h.d1a; omega, hr, ?_, by omega, by have := h.qb; omega, l.2⟩
  have := h.hq
  rw [Int.sub_mul]; omega
theorem dig_end {d d1 d0 u u1 q r : Int} (h : Dig d d1 d0 u u1 q r) (t : 4294967296 ≤ q ∨ 4294967296 * r + u1 < q * d0) (hr : 4294967296 ≤ r + d1) : (u * 4294967296 + u1) / d = q - 1 := by
  have l := dig_less h t
  have hp := dig_pos h
  refine dig_found' h.hd (by omega) h.d0a h.d0b h.u1a hr ?_ (by omega) (by have := h.qb; omega) l.2
  have := h.hq
  rw [Int.sub_mul]; omega
theorem div_l0 {s un0 : Int} {d d1 d0 u u1 : Int} (n : Nat) : ∀ (k : Nat) (q r : Int), Dig d d1 d0 u u1 q r → (2 - n : Int) * 2147483648 ≤ r → 2 * n + 2 ≤ k →
    ∃ k', k ≤ k' + 2 * n + 2 ∧ bits_Div64.l0 k d s d1 d0 u u1 un0 q r = bits_Div64.j2 k' d s d1 d0 u u1 un0 ((u * 4294967296 + u1) / d) := by
  induction n with
  | zero => intro k q r h hr; have := h.rb; omega
  | succ n ih =>
    intro k q r h hr hk
    obtain ⟨k, rfl⟩ : ∃ m, k = m + 2 := ⟨k - 2, by omega⟩
    have ra := h.ra; have rb := h.rb; have u1a := h.u1a; have u1b := h.u1b; have d1a := h.d1a; have d1b := h.d1b; have q0 := h.q0; have qb := h.qb
    have yes : (4294967296 ≤ q ∨ 4294967296 * r + u1 < q * d0) → ∃ k', k + 2 ≤ k' + 2 * (n + 1) + 2 ∧ bits_Div64.j1 (k + 1) d s d1 d0 u u1 un0 q r true = bits_Div64.j2 k' d s d1 d0 u u1 un0 ((u * 4294967296 + u1) / d) := by
      intro t
      have l := dig_less h t
      rw [bits_Div64.j1, if_pos rfl, uw (x := r + d1) (by omega) (by omega), uw (x := q - 1) (by omega) (by omega)]
      by_cases c : r + d1 ≥ 4294967296
      · rw [if_pos c, dig_end h t c]
        exact ⟨k, by omega, rfl⟩
      · rw [if_neg c]
        obtain ⟨k', h1, h2⟩ := ih k (q - 1) (r + d1) (dig_next h t (by omega)) (by omega) (by omega)
        exact ⟨k', by omega, h2⟩
    rw [bits_Div64.l0]
    by_cases c : q ≥ 4294967296
    · rw [if_pos c]; exact yes (.inl c)
    · have p : 0 ≤ q * d0 ∧ q * d0 ≤ 4294967295 * 4294967295 := ⟨Int.mul_nonneg q0 h.d0a, Int.mul_le_mul (by omega) (by have := h.d0b; omega) h.d0a (by omega)⟩
      rw [if_neg c, uw (x := q * d0) (by omega) (by omega), uw (x := 4294967296 * r) (by omega) (by omega), uw (x := 4294967296 * r + u1) (by omega) (by omega)]
      by_cases c2 : q * d0 > 4294967296 * r + u1
      · rw [decide_eq_true c2]; exact yes (.inr c2)
      · rw [decide_eq_false c2, dig_found h (by omega), bits_Div64.j1, if_neg (by simp)]
        exact ⟨k, by omega, rfl⟩
/-- The second digit, and the end. -/
theorem div_l1 {s q1 : Int} {d d1 d0 u u1 : Int} (n : Nat) (hs : 0 ≤ s) (h1 : 0 ≤ q1) (h2 : q1 < 4294967296) : ∀ (k : Nat) (q r : Int), Dig d d1 d0 u u1 q r → (2 - n : Int) * 2147483648 ≤ r → 2 * n + 2 ≤ k →
    bits_Div64.l1 k d s d1 d0 u1 q1 r u q = some (q1 * 4294967296 + (u * 4294967296 + u1) / d, shr .u64 (u * 4294967296 + u1 - (u * 4294967296 + u1) / d * d) s) := by
  induction n with
  | zero => intro k q r h hr; have := h.rb; omega
  | succ n ih =>
    intro k q r h hr hk
    obtain ⟨k, rfl⟩ : ∃ m, k = m + 2 := ⟨k - 2, by omega⟩
    have ra := h.ra; have rb := h.rb; have u1a := h.u1a; have u1b := h.u1b; have d1a := h.d1a; have d1b := h.d1b; have q0 := h.q0; have qb := h.qb; have ua := h.ua
    have hp := dig_pos h
    have hu := h.ub
    have fin : ∀ z : Int, (u * 4294967296 + u1) / d = z → (if 0 ≤ s then some (IntKind.u64.wrap (IntKind.u64.wrap (q1 * 4294967296) + z), shr .u64 (IntKind.u64.wrap (IntKind.u64.wrap (IntKind.u64.wrap (u * 4294967296) + u1) - IntKind.u64.wrap (z * d))) s) else none) = some (q1 * 4294967296 + (u * 4294967296 + u1) / d, shr .u64 (u * 4294967296 + u1 - (u * 4294967296 + u1) / d * d) s) := by
      intro z hz
      have hl := dig_lt h
      have hn : 0 ≤ (u * 4294967296 + u1) / d := Int.ediv_nonneg (by omega) (by omega)
      have hr := dig_rest (m := 0) (by omega) hz
      rw [if_pos hs, hz, uw (x := q1 * 4294967296) (by omega) (by omega), uw (x := q1 * 4294967296 + z) (by omega) (by omega)]
      rw [show IntKind.u64.wrap (IntKind.u64.wrap (IntKind.u64.wrap (u * 4294967296) + u1) - IntKind.u64.wrap (z * d)) = u * 4294967296 + u1 - z * d from by simp only [um]; omega]
    have yes : (4294967296 ≤ q ∨ 4294967296 * r + u1 < q * d0) → bits_Div64.j4 (k + 1) d s d1 d0 u1 q1 r u q true = some (q1 * 4294967296 + (u * 4294967296 + u1) / d, shr .u64 (u * 4294967296 + u1 - (u * 4294967296 + u1) / d * d) s) := by
      intro t
      have l := dig_less h t
      rw [bits_Div64.j4, if_pos rfl, uw (x := r + d1) (by omega) (by omega), uw (x := q - 1) (by omega) (by omega)]
      by_cases c : r + d1 ≥ 4294967296
      · rw [if_pos c]; exact fin _ (dig_end h t c)
      · rw [if_neg c]
        exact ih k (q - 1) (r + d1) (dig_next h t (by omega)) (by omega) (by omega)
    rw [bits_Div64.l1]
    by_cases c : q ≥ 4294967296
    · rw [if_pos c]; exact yes (.inl c)
    · have p : 0 ≤ q * d0 ∧ q * d0 ≤ 4294967295 * 4294967295 := ⟨Int.mul_nonneg q0 h.d0a, Int.mul_le_mul (by omega) (by have := h.d0b; omega) h.d0a (by omega)⟩
      rw [if_neg c, uw (x := q * d0) (by omega) (by omega), uw (x := 4294967296 * r) (by omega) (by omega), uw (x := 4294967296 * r + u1) (by omega) (by omega)]
      by_cases c2 : q * d0 > 4294967296 * r + u1
      · rw [decide_eq_true c2]; exact yes (.inr c2)
      · rw [decide_eq_false c2, bits_Div64.j4, if_neg (by simp)]
        exact fin _ (dig_found h (by omega))
theorem div64_eq {k : Nat} {hi lo y : Int} (h0 : 0 ≤ hi) (l0 : 0 ≤ lo) (l1 : lo < 18446744073709551616) (y1 : hi < y) (y2 : y < 18446744073709551616) (hk : 20 < k) :
    bits_Div64.f k hi lo y = some ((hi * 18446744073709551616 + lo) / y, (hi * 18446744073709551616 + lo) % y) := by
  unfold bits_Div64.f
  rw [if_neg (by omega), if_neg (by omega)]
  by_cases c : hi = 0
  · subst c
    have e1 : Int.tdiv lo y = lo / y := Int.tdiv_eq_ediv_of_nonneg l0
    have e2 : Int.tmod lo y = lo % y := Int.tmod_eq_emod_of_nonneg l0
    have q0 : 0 ≤ lo / y := Int.ediv_nonneg l0 (by omega)
    have q1 : lo / y ≤ lo := Int.ediv_le_self _ l0
    rw [if_pos rfl, e1, e2, uw (x := lo / y) (by omega) (by omega), show 0 * 18446744073709551616 + lo = lo from by omega]
  · rw [if_neg c]
    obtain ⟨s, hs, s1, n1, n2⟩ := lead_eq (k := k) (x := y) (by omega) y2 (by omega)
    rw [hs, Option.bind_some, uw (x := (s : Int)) (by omega) (by omega), if_pos (by omega), uw (x := 64 - (s : Int)) (by omega) (by omega), if_pos (by omega)]
    have hp : (0 : Int) < 2 ^ s := Int.pow_pos (by decide)
    have hhi : hi * 2 ^ s < y * 2 ^ s := Int.mul_lt_mul_of_pos_right y1 hp
    have hh0 : 0 ≤ hi * 2 ^ s := Int.mul_nonneg h0 (by omega)
    have sh : ∀ x : Int, shl .u64 x (s : Int) = IntKind.u64.wrap (x * 2 ^ s) := by
      intro x; unfold shl; rw [show min (Int.toNat (s : Int)) IntKind.u64.bits = s from by simp only [IntKind.bits]; omega]
    have sr : ∀ x : Int, shr .u64 x (s : Int) = x / 2 ^ s := by
      intro x; unfold shr; rw [show min (Int.toNat (s : Int)) IntKind.u64.bits = s from by simp only [IntKind.bits]; omega]
    have sr2 : shr .u64 lo (64 - (s : Int)) = lo / 2 ^ (64 - s) := by
      unfold shr; rw [show min (Int.toNat (64 - (s : Int))) IntKind.u64.bits = 64 - s from by simp only [IntKind.bits]; omega]
    have pw : (2 : Int) ^ s * 2 ^ (64 - s) = 18446744073709551616 := by rw [← Int.pow_add, show s + (64 - s) = 64 from by omega]; decide
    have hp2 : (0 : Int) < 2 ^ (64 - s) := Int.pow_pos (by decide)
    have top0 : 0 ≤ lo / 2 ^ (64 - s) := Int.ediv_nonneg l0 (by omega)
    have top1 : lo / 2 ^ (64 - s) < 2 ^ s := Int.ediv_lt_of_lt_mul hp2 (by rw [pw]; exact l1)
    have hl : lo * 2 ^ s / 18446744073709551616 = lo / 2 ^ (64 - s) := by
      rw [← pw, Int.mul_comm lo, Int.mul_ediv_mul_of_pos _ _ hp]
    have p63 : (0 : Int) < 2 ^ (63 - s) := Int.pow_pos (by decide)
    have p64 : (2 : Int) ^ s ≤ 9223372036854775808 := by
      have h : (2 : Int) ^ s * 1 ≤ 2 ^ s * 2 ^ (63 - s) := Int.mul_le_mul_of_nonneg_left (by omega) (by omega)
      have e : (2 : Int) ^ 63 = 9223372036854775808 := by decide
      rw [← Int.pow_add, show s + (63 - s) = 63 from by omega, Int.mul_one] at h
      omega
    have eo := or_sum (a := hi) (b := lo / 2 ^ (64 - s)) s h0 top0 top1 (by omega) (by omega)
    rw [sh y, sh hi, sh lo, sr2, uw (x := y * 2 ^ s) (by omega) n2, uw (x := hi * 2 ^ s) hh0 (by omega), um (lo * 2 ^ s), eo, ← hl]
    have hlo0 : 0 ≤ lo * 2 ^ s := Int.mul_nonneg l0 (by omega)
    have hn : (hi * 18446744073709551616 + lo) * 2 ^ s = hi * 2 ^ s * 18446744073709551616 + lo * 2 ^ s := by
      rw [Int.add_mul, Int.mul_assoc, Int.mul_comm 18446744073709551616, ← Int.mul_assoc]
    have goal : ∀ Q R : Int, Q = (hi * 18446744073709551616 + lo) * 2 ^ s / (y * 2 ^ s) → R = ((hi * 18446744073709551616 + lo) * 2 ^ s - (hi * 18446744073709551616 + lo) * 2 ^ s / (y * 2 ^ s) * (y * 2 ^ s)) / 2 ^ s → some (Q, R) = some ((hi * 18446744073709551616 + lo) / y, (hi * 18446744073709551616 + lo) % y) := by
      intro Q R hQ hR
      generalize hi * 18446744073709551616 + lo = N at *
      have e1 : N * 2 ^ s / (y * 2 ^ s) = N / y := Int.mul_ediv_mul_of_pos_left _ _ hp
      have e2 : N * 2 ^ s - N * 2 ^ s / (y * 2 ^ s) * (y * 2 ^ s) = N % y * 2 ^ s := by
        have := Int.emod_add_mul_ediv N y
        rw [e1, ← Int.mul_assoc, ← Int.sub_mul, Int.mul_comm (N / y) y]
        congr 1; omega
      rw [hQ, hR, e2, e1, Int.mul_ediv_cancel _ (by omega)]
    have ub0 : hi * 2 ^ s + lo * 2 ^ s / 18446744073709551616 < y * 2 ^ s := by
      have : (hi + 1) * 2 ^ s ≤ y * 2 ^ s := Int.mul_le_mul_of_nonneg_right (by omega) (by omega)
      rw [Int.add_mul] at this; omega
    generalize hD : y * 2 ^ s = D at *
    generalize hA : hi * 2 ^ s = A at *
    generalize hB : lo * 2 ^ s = B at *
    rw [mask32 (a := D) (by omega) (by omega), mask32 (a := B % 18446744073709551616) (by omega) (by omega), if_neg (by omega)]
    generalize hU : A + B / 18446744073709551616 = U at *
    have st := dig_start (d := D) (d1 := D / 4294967296) (d0 := D % 4294967296) (u := U) (u1 := B % 18446744073709551616 / 4294967296) (by omega) (by omega) (by omega) (by omega) (by omega) (by omega) (by omega) (by omega) (by omega)
    have et : Int.tdiv U (D / 4294967296) = U / (D / 4294967296) := Int.tdiv_eq_ediv_of_nonneg (by omega)
    have q0 := st.q0
    have qb := st.qb
    have ra := st.ra
    have rb := st.rb
    have wq : 0 ≤ U / (D / 4294967296) * (D / 4294967296) ∧ U / (D / 4294967296) * (D / 4294967296) ≤ U := by
      have := Int.ediv_mul_le U (show D / 4294967296 ≠ 0 by omega)
      exact ⟨Int.mul_nonneg q0 (by omega), this⟩
    rw [et, uw (x := U / (D / 4294967296)) (by omega) (by omega), uw (x := U / (D / 4294967296) * (D / 4294967296)) (by omega) (by omega), uw (x := U - U / (D / 4294967296) * (D / 4294967296)) (by omega) (by omega)]
    obtain ⟨k', hk', e⟩ := div_l0 (s := (s : Int)) (un0 := B % 18446744073709551616 % 4294967296) 2 k _ _ st (by omega) (by omega)
    rw [e]
    obtain ⟨k'', rfl⟩ : ∃ m, k' = m + 1 := ⟨k' - 1, by omega⟩
    have f1 := dig_lt st
    have f0 : 0 ≤ (U * 4294967296 + B % 18446744073709551616 / 4294967296) / D := Int.ediv_nonneg (by omega) (by omega)
    have fr := dig_rest (m := 0) (n := U * 4294967296 + B % 18446744073709551616 / 4294967296) (d := D) (by omega) rfl
    generalize hz : (U * 4294967296 + B % 18446744073709551616 / 4294967296) / D = z at *
    rw [bits_Div64.j2, if_neg (by omega)]
    rw [show IntKind.u64.wrap (IntKind.u64.wrap (IntKind.u64.wrap (U * 4294967296) + B % 18446744073709551616 / 4294967296) - IntKind.u64.wrap (z * D)) = U * 4294967296 + B % 18446744073709551616 / 4294967296 - z * D from by simp only [um]; omega]
    generalize hV : U * 4294967296 + B % 18446744073709551616 / 4294967296 - z * D = V at *
    have st2 := dig_start (d := D) (d1 := D / 4294967296) (d0 := D % 4294967296) (u := V) (u1 := B % 18446744073709551616 % 4294967296) (by omega) (by omega) (by omega) (by omega) (by omega) (by omega) (by omega) (by omega) (by omega)
    have et2 : Int.tdiv V (D / 4294967296) = V / (D / 4294967296) := Int.tdiv_eq_ediv_of_nonneg (by omega)
    have q02 := st2.q0
    have qb2 := st2.qb
    have ra2 := st2.ra
    have rb2 := st2.rb
    have wq2 : 0 ≤ V / (D / 4294967296) * (D / 4294967296) ∧ V / (D / 4294967296) * (D / 4294967296) ≤ V := by
      have := Int.ediv_mul_le V (show D / 4294967296 ≠ 0 by omega)
      exact ⟨Int.mul_nonneg q02 (by omega), this⟩
    rw [et2, uw (x := V / (D / 4294967296)) (by omega) (by omega), uw (x := V / (D / 4294967296) * (D / 4294967296)) (by omega) (by omega), uw (x := V - V / (D / 4294967296) * (D / 4294967296)) (by omega) (by omega)]
    rw [div_l1 2 (by omega) f0 f1 k'' _ _ st2 (by omega) (by omega), sr]
    have big : A * 18446744073709551616 + B = z * 4294967296 * D + (V * 4294967296 + B % 18446744073709551616 % 4294967296) := by
      have : z * 4294967296 * D = z * D * 4294967296 := by rw [Int.mul_assoc, Int.mul_comm 4294967296 D, ← Int.mul_assoc]
      rw [this]; omega
    have bq : (A * 18446744073709551616 + B) / D = z * 4294967296 + (V * 4294967296 + B % 18446744073709551616 % 4294967296) / D := by
      rw [big, Int.add_comm, Int.add_mul_ediv_right _ _ (by omega), Int.add_comm]
    apply goal
    · rw [hn, bq]
    · rw [hn, bq, big, Int.add_mul]
      congr 1; omega

theorem dm_eq {A c : Int} (hc : 0 < c) : (A.tmod c < 0 → A / c = A.tdiv c - 1 ∧ A % c = A.tmod c + c) ∧ (¬ A.tmod c < 0 → A / c = A.tdiv c ∧ A % c = A.tmod c) := by
  have h1 := Int.tmod_def A c
  have h2 : A.tmod c < c := Int.tmod_lt_of_pos A hc
  have h3 : -c < A.tmod c := by
    rcases Int.le_total 0 A with h | h
    · have := Int.tmod_nonneg c h; omega
    · have := Int.tmod_lt_of_pos (-A) hc; rw [Int.neg_tmod] at this; omega
  constructor
  · intro h; exact (Int.ediv_emod_unique hc).mpr ⟨by rw [Int.mul_sub]; omega, by omega, by omega⟩
  · intro h; exact (Int.ediv_emod_unique hc).mpr ⟨by omega, by omega, by omega⟩
theorem ediv_b {A c : Int} (hc : 0 < c) (h1 : -2305843009213693952 ≤ A) (h2 : A ≤ 2305843009213693952) : -2305843009213693952 ≤ A / c ∧ A / c ≤ 2305843009213693952 := by
  constructor
  · apply Int.le_ediv_of_mul_le hc; omega
  · have : A / c < 2305843009213693953 := Int.ediv_lt_of_lt_mul hc (by omega)
    omega
theorem mx1_b (c : Int) : 1 ≤ mx (clp c) 1 ∧ mx (clp c) 1 ≤ 2305843009213693952 := by
  have := clp_b c; unfold mx; split <;> omega

def mdv (a b c : Int) : Int := clp ((clp a * clp b) / mx (clp c) 1)
theorem mdv_b (a b c : Int) : -2305843009213693952 ≤ mdv a b c ∧ mdv a b c ≤ 2305843009213693952 := clp_b _
theorem neg_ediv {P z : Int} (hz : 0 < z) : (P % z = 0 → (-P) / z = -(P / z)) ∧ (P % z ≠ 0 → (-P) / z = -(P / z) - 1) := by
  have e := Int.emod_add_mul_ediv P z
  have m0 := Int.emod_nonneg P (show z ≠ 0 by omega)
  have m1 := Int.emod_lt_of_pos P hz
  constructor
  · intro h; exact ((Int.ediv_emod_unique (r := 0) hz).mpr ⟨by rw [Int.mul_neg]; omega, by omega, by omega⟩).1
  · intro h; exact ((Int.ediv_emod_unique (r := z - P % z) hz).mpr ⟨by rw [Int.mul_sub, Int.mul_neg]; omega, by omega, by omega⟩).1
theorem end_eq (b : Bool) : wide_end.f b = some (if b then -2305843009213693952 else 2305843009213693952) := by
  unfold wide_end.f; cases b <;> rfl
theorem clp_hi {x : Int} (h : 2305843009213693952 ≤ x) : clp x = 2305843009213693952 := by unfold clp; rw [if_neg (by omega)]; split <;> omega
theorem clp_lo {x : Int} (h : x ≤ -2305843009213693952) : clp x = -2305843009213693952 := by unfold clp; split <;> (try split) <;> omega
theorem md_j1 {k : Nat} {q : Int} (below : Bool) (h0 : 0 ≤ q) (h1 : q < 18446744073709551616) (x : Bool) (hk : 3 < k) (hx : x = true → q < 2305843009213693952) : wide_MulDiv.j1 k below q x = some (clp (if below then -(if x then q + 1 else q) else (if x then q + 1 else q))) := by
  obtain ⟨k, rfl⟩ : ∃ m, k = m + 2 := ⟨k - 2, by omega⟩
  have j2 : ∀ z : Int, 0 ≤ z → z < 18446744073709551616 → wide_MulDiv.j2 (k + 1) below z = some (clp (if below then -z else z)) := by
    intro z z0 z1
    rw [wide_MulDiv.j2]
    by_cases c : z > 2305843009213693952
    · rw [if_pos c, end_eq, Option.bind_some]
      cases below
      · simp only [Bool.false_eq_true, if_false]; rw [clp_hi (by omega)]
      · simp only [if_true]; rw [clp_lo (by omega)]
    · rw [if_neg c, w64 (n := z) (by omega) (by omega), w64 (n := -z) (by omega) (by omega)]
      cases below
      · simp only [Bool.false_eq_true, if_false]; rw [clp_id (by omega) (by omega)]
      · simp only [if_true]; rw [clp_id (by omega) (by omega)]
  rw [wide_MulDiv.j1]
  cases x
  · rw [if_neg (by simp), j2 q h0 h1]; simp
  · have := hx rfl
    rw [if_pos rfl, uw (by omega) (by omega), j2 _ (by omega) (by omega)]; simp
theorem md_j0 {k : Nat} {P z : Int} (below : Bool) (p0 : 0 ≤ P) (p1 : P ≤ 5316911983139663491615228241121378304) (z1 : 1 ≤ z) (z2 : z ≤ 2305843009213693952) (hk : 30 < k) :
    wide_MulDiv.j0 k z (P / 18446744073709551616) (P % 18446744073709551616) below = some (clp ((if below then -P else P) / z)) := by
  obtain ⟨k, rfl⟩ : ∃ m, k = m + 1 := ⟨k - 1, by omega⟩
  have n := neg_ediv (P := P) (z := z) (by omega)
  have m0 := Int.emod_nonneg P (show z ≠ 0 by omega)
  have m1 := Int.emod_lt_of_pos P (show 0 < z by omega)
  have q0 : 0 ≤ P / z := Int.ediv_nonneg p0 (by omega)
  rw [wide_MulDiv.j0, uw (x := z) (by omega) (by omega)]
  by_cases c : P / 18446744073709551616 ≥ z
  · have q1 : 18446744073709551616 ≤ P / z := Int.le_ediv_of_mul_le (by omega) (by omega)
    rw [if_pos c, end_eq, Option.bind_some]
    cases below
    · simp only [Bool.false_eq_true, if_false]; rw [clp_hi (by omega)]
    · simp only [if_true]; rw [clp_lo (by by_cases h : P % z = 0
                                          · rw [n.1 h]; omega
                                          · rw [n.2 h]; omega)]
  · have q1 : P / z < 18446744073709551616 := Int.ediv_lt_of_lt_mul (by omega) (by omega)
    rw [if_neg c, div64_eq (by omega) (by omega) (by omega) (by omega) (by omega) (by omega), Option.bind_some, show P / 18446744073709551616 * 18446744073709551616 + P % 18446744073709551616 = P from by omega]
    cases below
    · rw [if_neg (by simp), md_j1 false q0 q1 false (by omega) (by simp)]
      simp
    · simp only [if_true]
      by_cases h : P % z > 0
      · rw [if_pos h, n.2 (by omega)]
        by_cases h2 : P / z < 2305843009213693952
        · rw [decide_eq_true h2, md_j1 true q0 q1 true (by omega) (fun _ => h2)]
          simp only [if_true]
          congr 2; omega
        · rw [decide_eq_false h2, md_j1 true q0 q1 false (by omega) (by simp)]
          simp only [if_true, Bool.false_eq_true, if_false]
          rw [clp_lo (by omega), clp_lo (by omega)]
      · rw [if_neg h, n.1 (by omega), md_j1 true q0 q1 false (by omega) (by simp)]
        simp only [if_true, Bool.false_eq_true, if_false]
theorem muldiv_eq {k : Nat} (a b c : Int) (hk : 40 < k) : wide_MulDiv.f k a b c = some (mdv a b c) := by
  have xa := absC_b a
  have xb := absC_b b
  have hm := mx1_b c
  have ca := clp_b a
  have cb := clp_b b
  have p0 : 0 ≤ absC a * absC b := Int.mul_nonneg xa.1 xb.1
  have p1 : absC a * absC b ≤ 2305843009213693952 * 2305843009213693952 := Int.mul_le_mul xa.2 xb.2 xb.1 (by omega)
  have ea : absC a = if a < 0 then -clp a else clp a := rfl
  have eb : absC b = if b < 0 then -clp b else clp b := rfl
  unfold wide_MulDiv.f mdv
  rw [abs_eq a (by omega), Option.bind_some, abs_eq b (by omega), Option.bind_some, clip_eq c (by omega), Option.bind_some, uw (x := absC a) (by omega) (by omega), uw (x := absC b) (by omega) (by omega), mul64_eq (by omega) (by omega) (by omega) (by omega), Option.bind_some]
  have j : ∀ below : Bool, wide_MulDiv.j0 k (mx (clp c) 1) (absC a * absC b / 18446744073709551616) (absC a * absC b % 18446744073709551616) below = some (clp ((if below then -(absC a * absC b) else absC a * absC b) / mx (clp c) 1)) :=
    fun below => md_j0 below p0 (by omega) hm.1 hm.2 (by omega)
  by_cases h : ((decide (a < 0)) != (decide (b < 0))) = true
  · rw [if_pos h]
    have es : clp a * clp b = -(absC a * absC b) := by
      rw [ea, eb]
      by_cases h1 : a < 0
      · have h2 : ¬ b < 0 := by intro h2; simp [h1, h2] at h
        rw [if_pos h1, if_neg h2, Int.neg_mul, Int.neg_neg]
      · have h2 : b < 0 := by simpa [h1] using h
        rw [if_neg h1, if_pos h2, Int.mul_neg, Int.neg_neg]
    rw [es]
    by_cases z1 : absC a = 0
    · rw [if_pos z1, j false, z1]; simp
    · rw [if_neg z1, j]
      by_cases z2 : absC b = 0
      · rw [z2]; simp
      · rw [show (absC b != 0) = true from by simp [z2]]; simp
  · rw [if_neg h, j false]
    have es : clp a * clp b = absC a * absC b := by
      rw [ea, eb]
      by_cases h1 : a < 0
      · have h2 : b < 0 := by simpa [h1] using h
        rw [if_pos h1, if_pos h2, Int.neg_mul_neg]
      · have h2 : ¬ b < 0 := by intro h2; simp [h1, h2] at h
        rw [if_neg h1, if_neg h2]
    rw [es]; simp

def mup (a b c : Int) : Int := -mdv (-clp a) b c
theorem mulup_eq {k : Nat} (a b c : Int) (hk : 40 < k) : wide_MulUp.f k a b c = some (mup a b c) := by
  have h := mdv_b (-clp a) b c
  unfold wide_MulUp.f mup
  rw [neg_eq _ (by omega), Option.bind_some, muldiv_eq _ _ _ hk, Option.bind_some, w64 (by omega) (by omega)]
theorem mup_def (a b c : Int) : mup a b c = clp (-((-(clp a * clp b)) / mx (clp c) 1)) := by
  have := clp_b a
  unfold mup mdv
  rw [clp_id (x := -clp a) (by omega) (by omega), Int.neg_mul, ← clp_neg]

theorem in_eq (x lo hi : Int) : limit_in.f x lo hi = some (decide (lo ≤ x) && decide (x ≤ hi)) := by
  unfold limit_in.f
  by_cases h : lo ≤ x
  · rw [if_pos h, decide_eq_true h]; rfl
  · rw [if_neg h, decide_eq_false h]; rfl
def okN (n f d : Int) : Bool := (decide (1 ≤ n) && decide (n ≤ 16)) && ((decide (0 ≤ f) && decide (f ≤ wrap64 (Int.tdiv (wrap64 (n - 1)) 3))) && (decide (0 ≤ d) && decide (d ≤ 16)))
def okW (beat rho delay jit : Int) : Bool := (decide (1 ≤ beat) && decide (beat ≤ 1099511627776)) && ((decide (0 ≤ rho) && decide (rho ≤ wrap64 (Int.tdiv beat 8))) && ((decide (0 ≤ delay) && decide (delay ≤ wrap64 (Int.tdiv beat 2))) && (decide (0 ≤ jit) && decide (jit ≤ delay))))
def okR (d beat rho eps mu hold pulse sec : Int) : Bool := (decide (0 ≤ eps) && decide (eps ≤ 1099511627776)) && ((decide (wrap64 (rho + 1) ≤ mu) && decide (mu ≤ wrap64 (Int.tdiv beat 4))) && ((decide (wrap64 (d + 2) ≤ hold) && decide (hold ≤ 1048576)) && ((decide (1 ≤ pulse) && decide (pulse ≤ 1099511627776)) && (decide (1 ≤ sec) && decide (sec ≤ 1099511627776)))))
theorem check_eq {k : Nat} (n f d beat rho delay jit eps mu hold pulse sec : Int) (hk : 2 < k) :
    limit_Check.f k n f d beat rho delay jit eps mu hold pulse sec = some (if (okN n f d && (okW beat rho delay jit && okR d beat rho eps mu hold pulse sec)) = true then 0 else 1) := by
  obtain ⟨k, rfl⟩ : ∃ m, k = m + 2 := ⟨k - 2, by omega⟩
  have j1 : ∀ a b : Bool, limit_Check.j1 (k + 1) a b n f d beat rho delay jit eps mu hold pulse sec = some (if (a && (b && okR d beat rho eps mu hold pulse sec)) = true then 0 else 1) := by
    intro a b
    simp only [limit_Check.j1, in_eq, Option.bind_some]
    unfold okR
    generalize (decide (0 ≤ eps) && decide (eps ≤ 1099511627776)) = b1
    generalize (decide (wrap64 (rho + 1) ≤ mu) && decide (mu ≤ wrap64 (Int.tdiv beat 4))) = b2
    generalize (decide (wrap64 (d + 2) ≤ hold) && decide (hold ≤ 1048576)) = b3
    generalize (decide (1 ≤ pulse) && decide (pulse ≤ 1099511627776)) = b4
    generalize (decide (1 ≤ sec) && decide (sec ≤ 1099511627776)) = b5
    cases a <;> cases b <;> cases b1 <;> cases b2 <;> cases b3 <;> cases b4 <;> cases b5 <;> rfl
  have j0 : ∀ a : Bool, limit_Check.j0 (k + 2) a n f d beat rho delay jit eps mu hold pulse sec = some (if (a && (okW beat rho delay jit && okR d beat rho eps mu hold pulse sec)) = true then 0 else 1) := by
    intro a
    simp only [limit_Check.j0, in_eq, Option.bind_some, j1]
    unfold okW
    generalize (decide (1 ≤ beat) && decide (beat ≤ 1099511627776)) = b1
    generalize (decide (0 ≤ rho) && decide (rho ≤ wrap64 (Int.tdiv beat 8))) = b2
    generalize (decide (0 ≤ delay) && decide (delay ≤ wrap64 (Int.tdiv beat 2))) = b3
    generalize (decide (0 ≤ jit) && decide (jit ≤ delay)) = b4
    generalize okR d beat rho eps mu hold pulse sec = r
    cases a <;> cases b1 <;> cases b2 <;> cases b3 <;> cases b4 <;> cases r <;> rfl
  unfold limit_Check.f
  simp only [in_eq, Option.bind_some, j0]
  unfold okN
  generalize (decide (1 ≤ n) && decide (n ≤ 16)) = b1
  generalize (decide (0 ≤ f) && decide (f ≤ wrap64 (Int.tdiv (wrap64 (n - 1)) 3))) = b2
  generalize (decide (0 ≤ d) && decide (d ≤ 16)) = b3
  generalize (okW beat rho delay jit && okR d beat rho eps mu hold pulse sec) = r
  cases b1 <;> cases b2 <;> cases b3 <;> cases r <;> rfl
structure Ok (n f d beat rho delay jit eps mu hold pulse sec : Int) : Prop where
  n1 : 1 ≤ n
  n2 : n ≤ 16
  f1 : 0 ≤ f
  f2 : 3 * f + 1 ≤ n
  d1 : 0 ≤ d
  d2 : d ≤ 16
  b1 : 1 ≤ beat
  b2 : beat ≤ 1099511627776
  r1 : 0 ≤ rho
  r2 : 8 * rho ≤ beat
  y1 : 0 ≤ delay
  y2 : 2 * delay ≤ beat
  j1 : 0 ≤ jit
  j2 : jit ≤ delay
  e1 : 0 ≤ eps
  e2 : eps ≤ 1099511627776
  m1 : rho + 1 ≤ mu
  m2 : 4 * mu ≤ beat
  h1 : d + 2 ≤ hold
  h2 : hold ≤ 1048576
  p1 : 1 ≤ pulse
  p2 : pulse ≤ 1099511627776
  s1 : 1 ≤ sec
  s2 : sec ≤ 1099511627776
theorem ok_of {n f d beat rho delay jit eps mu hold pulse sec : Int} (h : (okN n f d && (okW beat rho delay jit && okR d beat rho eps mu hold pulse sec)) = true) : Ok n f d beat rho delay jit eps mu hold pulse sec := by
  simp only [okN, okW, okR, Bool.and_eq_true, decide_eq_true_eq] at h
  obtain ⟨⟨⟨a1, a2⟩, ⟨a3, a4⟩, a5, a6⟩, ⟨⟨c1, c2⟩, ⟨c3, c4⟩, ⟨c5, c6⟩, c7, c8⟩, ⟨g1, g2⟩, ⟨g3, g4⟩, ⟨g5, g6⟩, ⟨g7, g8⟩, g9, g10⟩ := h
  have t1 : Int.tdiv (wrap64 (n - 1)) 3 = (n - 1) / 3 := by rw [w64 (by omega) (by omega), Int.tdiv_eq_ediv_of_nonneg (by omega)]
  have t2 : Int.tdiv beat 8 = beat / 8 := Int.tdiv_eq_ediv_of_nonneg (by omega)
  have t3 : Int.tdiv beat 2 = beat / 2 := Int.tdiv_eq_ediv_of_nonneg (by omega)
  have t4 : Int.tdiv beat 4 = beat / 4 := Int.tdiv_eq_ediv_of_nonneg (by omega)
  rw [t1, w64 (by omega) (by omega)] at a4
  rw [t2, w64 (by omega) (by omega)] at c4
  rw [t3, w64 (by omega) (by omega)] at c6
  rw [w64 (by omega) (by omega)] at g3
  rw [t4, w64 (by omega) (by omega)] at g4
  rw [w64 (by omega) (by omega)] at g5
  exact ⟨a1, a2, a3, by omega, a5, a6, c1, c2, c3, by omega, c5, by omega, c7, c8, g1, g2, g3, by omega, g5, g6, g7, g8, g9, g10⟩
theorem check_cases {k : Nat} (n f d beat rho delay jit eps mu hold pulse sec : Int) (hk : 2 < k) :
    (limit_Check.f k n f d beat rho delay jit eps mu hold pulse sec = some 0 ∧ Ok n f d beat rho delay jit eps mu hold pulse sec) ∨ limit_Check.f k n f d beat rho delay jit eps mu hold pulse sec = some 1 := by
  rw [check_eq _ _ _ _ _ _ _ _ _ _ _ _ hk]
  by_cases h : (okN n f d && (okW beat rho delay jit && okR d beat rho eps mu hold pulse sec)) = true
  · exact .inl ⟨by rw [if_pos h], ok_of h⟩
  · exact .inr (by rw [if_neg h])

def hopV (rho jit : Int) : Int := addL [jit, mulC 2 rho]
def gateV (rho jit eps : Int) : Int := mulC 2 (addL [mulC 2 eps, hopV rho jit])
def widthV (rho jit eps held hops : Int) : Int := addL [gateV rho jit eps, mulC (mulC 2 rho) held, mulC (addL [hops, 1]) (hopV rho jit)]
theorem hop_eq {k : Nat} (p0 p1 p2 p3 rho p5 jit eps p8 p9 p10 p11 : Int) (hk : 5 < k) : limit_Hop.f k p0 p1 p2 p3 rho p5 jit eps p8 p9 p10 p11 = some (hopV rho jit) := by
  unfold limit_Hop.f
  rw [mul_eq _ _ (by omega), Option.bind_some, add_eq [_, _] (by simp) (by simp; omega), Option.bind_some]
  rfl
theorem gate_eq {k : Nat} (p0 p1 p2 p3 rho p5 jit eps p8 p9 p10 p11 : Int) (hk : 5 < k) : limit_Gate.f k p0 p1 p2 p3 rho p5 jit eps p8 p9 p10 p11 = some (gateV rho jit eps) := by
  unfold limit_Gate.f
  rw [mul_eq _ _ (by omega), Option.bind_some, hop_eq _ _ _ _ _ _ _ _ _ _ _ _ hk, Option.bind_some, add_eq [_, _] (by simp) (by simp; omega), Option.bind_some, mul_eq _ _ (by omega), Option.bind_some]
  rfl
theorem width_eq {k : Nat} (p0 p1 p2 p3 rho p5 jit eps p8 p9 p10 p11 held hops : Int) (hk : 5 < k) : limit_Width.f k p0 p1 p2 p3 rho p5 jit eps p8 p9 p10 p11 held hops = some (widthV rho jit eps held hops) := by
  unfold limit_Width.f
  rw [gate_eq _ _ _ _ _ _ _ _ _ _ _ _ hk, Option.bind_some, mul_eq _ _ (by omega), Option.bind_some, mul_eq _ _ (by omega), Option.bind_some, add_eq [_, _] (by simp) (by simp; omega), Option.bind_some, hop_eq _ _ _ _ _ _ _ _ _ _ _ _ hk, Option.bind_some, mul_eq _ _ (by omega), Option.bind_some, add_eq [_, _, _] (by simp) (by simp; omega), Option.bind_some]
  rfl
def settleV (d rho jit eps mu hold : Int) : Int := addL [mulC 2 d, 6, mup (mulC 3 (widthV rho jit eps hold d)) 1 (sub mu rho)]
theorem settle_eq {k : Nat} (p0 p1 d p3 rho p5 jit eps mu hold p10 p11 : Int) (hk : 50 < k) : limit_Settle.f k p0 p1 d p3 rho p5 jit eps mu hold p10 p11 = some (settleV d rho jit eps mu hold) := by
  unfold limit_Settle.f
  rw [width_eq _ _ _ _ _ _ _ _ _ _ _ _ _ _ (by omega), Option.bind_some, mul_eq _ _ (by omega), Option.bind_some, mul_eq _ _ (by omega), Option.bind_some, sub_eq _ _ (by omega), Option.bind_some, mulup_eq _ _ _ (by omega), Option.bind_some, add_eq [_, _, _] (by simp) (by simp; omega), Option.bind_some]
  rfl
theorem lalive_eq {k : Nat} (hk : 50 < k) : clepsydralaw04_alive.f k = some true := by
  unfold clepsydralaw04_alive.f clepsydralaw04_some.f
  rw [Option.bind_some, check_eq _ _ _ _ _ _ _ _ _ _ _ _ (by omega), Option.bind_some, if_pos (by decide +kernel), Option.bind_some, hop_eq _ _ _ _ _ _ _ _ _ _ _ _ (by omega), Option.bind_some, if_pos (by decide +kernel), Option.bind_some, gate_eq _ _ _ _ _ _ _ _ _ _ _ _ (by omega), Option.bind_some, if_pos (by decide +kernel), Option.bind_some, width_eq _ _ _ _ _ _ _ _ _ _ _ _ _ _ (by omega), Option.bind_some, if_pos (by decide +kernel), Option.bind_some, settle_eq _ _ _ _ _ _ _ _ _ _ _ _ hk, Option.bind_some]
  decide +kernel

theorem mulC_small {a b : Int} (h1 : -2305843009213693952 ≤ a) (h2 : a ≤ 2305843009213693952) (h3 : -2305843009213693952 ≤ b) (h4 : b ≤ 2305843009213693952) (h5 : -2305843009213693952 ≤ a * b) (h6 : a * b ≤ 2305843009213693952) : mulC a b = a * b := by
  unfold mulC; rw [clp_id h1 h2, clp_id h3 h4, clp_id h5 h6]
theorem hop_small {rho jit : Int} (r0 : 0 ≤ rho) (r1 : rho ≤ 137438953728) (j0 : 0 ≤ jit) (j1 : jit ≤ 549755814144) : hopV rho jit = jit + 2 * rho := by
  unfold hopV
  rw [mulC_small (a := 2) (by omega) (by omega) (by omega) (by omega) (by omega) (by omega), add2_small (by omega) (by omega) (by omega) (by omega) (by omega) (by omega)]
theorem gate_small {rho jit eps : Int} (r0 : 0 ≤ rho) (r1 : rho ≤ 137438953728) (j0 : 0 ≤ jit) (j1 : jit ≤ 549755814144) (e0 : 0 ≤ eps) (e1 : eps ≤ 1099511628032) : gateV rho jit eps = 2 * (2 * eps + (jit + 2 * rho)) := by
  unfold gateV
  rw [hop_small r0 r1 j0 j1, mulC_small (a := 2) (b := eps) (by omega) (by omega) (by omega) (by omega) (by omega) (by omega), add2_small (a := 2 * eps) (by omega) (by omega) (by omega) (by omega) (by omega) (by omega), mulC_small (a := 2) (by omega) (by omega) (by omega) (by omega) (by omega) (by omega)]
theorem width_prod {rho jit held hops : Int} (r0 : 0 ≤ rho) (r1 : rho ≤ 137438953728) (j0 : 0 ≤ jit) (j1 : jit ≤ 549755814144) (h0 : 0 ≤ held) (h1 : held ≤ 1048832) (s0 : 0 ≤ hops) (s1 : hops ≤ 1048832) :
    0 ≤ 2 * rho * held ∧ 2 * rho * held ≤ 274877907456 * 1048832 ∧ 0 ≤ (hops + 1) * (jit + 2 * rho) ∧ (hops + 1) * (jit + 2 * rho) ≤ 1048833 * 824633721600 :=
  ⟨Int.mul_nonneg (by omega) h0, Int.mul_le_mul (by omega) h1 h0 (by omega), Int.mul_nonneg (by omega) (by omega), Int.mul_le_mul (by omega) (by omega) (by omega) (by omega)⟩
theorem width_small {rho jit eps held hops : Int} (r0 : 0 ≤ rho) (r1 : rho ≤ 137438953728) (j0 : 0 ≤ jit) (j1 : jit ≤ 549755814144) (e0 : 0 ≤ eps) (e1 : eps ≤ 1099511628032) (h0 : 0 ≤ held) (h1 : held ≤ 1048832) (s0 : 0 ≤ hops) (s1 : hops ≤ 1048832) :
    widthV rho jit eps held hops = 2 * (2 * eps + (jit + 2 * rho)) + 2 * rho * held + (hops + 1) * (jit + 2 * rho) := by
  obtain ⟨p1, p2, p3, p4⟩ := width_prod r0 r1 j0 j1 h0 h1 s0 s1
  unfold widthV
  rw [hop_small r0 r1 j0 j1, gate_small r0 r1 j0 j1 e0 e1, mulC_small (a := 2) (b := rho) (by omega) (by omega) (by omega) (by omega) (by omega) (by omega), mulC_small (a := 2 * rho) (by omega) (by omega) (by omega) (by omega) (by omega) (by omega), add2_small (a := hops) (by omega) (by omega) (by omega) (by omega) (by omega) (by omega), mulC_small (a := hops + 1) (by omega) (by omega) (by omega) (by omega) (by omega) (by omega)]
  exact add3_small (by omega) (by omega) (by omega) (by omega) (by omega) (by omega) (by omega) (by omega) (by omega) (by omega)

theorem rclip_eq (x : Int) : clepsydraref01_Clip.f x = some (clp x) := by
  unfold clepsydraref01_Clip.f clp
  by_cases h1 : x > 2305843009213693952
  · rw [if_pos h1, if_neg (by omega), if_pos (by omega)]
  · rw [if_neg h1]
    by_cases h2 : x < -2305843009213693952
    · rw [if_pos h2, if_pos h2]
    · rw [if_neg h2, if_neg h2, if_neg (by omega)]

theorem one_eq (c : Int) : clepsydraref02_one.f c = some (mx (clp c) 1) := by
  unfold clepsydraref02_one.f
  rw [rclip_eq, Option.bind_some]
  unfold mx
  by_cases h : clp c < 1
  · rw [if_pos h, if_pos h]
  · rw [if_neg h, if_neg h]

def dV (s : List Int) : Int := s.foldl (fun n d => 2 * n + d) 0
theorem dV_acc (s : List Int) : ∀ n, s.foldl (fun n d => 2 * n + d) n = n * 2 ^ s.length + dV s := by
  induction s with
  | nil => intro n; simp [dV]
  | cons d s ih =>
    intro n
    simp only [List.foldl_cons, dV, List.length_cons]
    rw [ih, ih (2 * 0 + d), Int.pow_succ]
    generalize (2 : Int) ^ s.length = p
    generalize dV s = v
    rw [Int.add_mul, Int.mul_assoc, ← Int.mul_assoc n p 2, Int.mul_comm (n * p) 2, show (2 * 0 + d) = d from by omega]
    omega
theorem dV_cons (d : Int) (s : List Int) : dV (d :: s) = d * 2 ^ s.length + dV s := by
  have h := dV_acc s (2 * 0 + d)
  rw [show (2 * 0 + d) = d from by omega] at h
  simp only [dV, List.foldl_cons]
  rw [show (2 * 0 + d) = d from by omega]
  exact h
theorem dV_set (s : List Int) : ∀ (j : Nat) (x : Int), j < s.length → dV (s.set j x) = dV s + (x - s.getD j 0) * 2 ^ (s.length - 1 - j) := by
  induction s with
  | nil => intro j x h; simp at h
  | cons d s ih =>
    intro j x h
    cases j with
    | zero =>
      simp only [List.set_cons_zero, dV_cons, List.getD_cons_zero, List.length_cons, Nat.add_sub_cancel, Nat.sub_zero]
      rw [Int.sub_mul]; omega
    | succ j =>
      simp only [List.set_cons_succ, dV_cons, List.getD_cons_succ, List.length_cons, List.length_set]
      rw [ih j x (by simpa using h), show s.length + 1 - 1 - (j + 1) = s.length - 1 - j from by omega]
      omega
theorem getD_set {s : List Int} {j m : Nat} {x : Int} (h : j < s.length) : (s.set j x).getD m 0 = if m = j then x else s.getD m 0 := by
  simp only [List.getD_eq_getElem?_getD]
  by_cases e : m = j
  · subst e; rw [if_pos rfl, List.getElem?_set_self h]; rfl
  · rw [if_neg e, List.getElem?_set_ne (fun z => e z.symm)]
theorem bit_one (n : Int) : Go.bits .and .i64 n 1 = n % 2 := by
  have h1 : (BitVec.ofInt 64 1).toNat = 2 ^ 1 - 1 := by decide
  have key : (BitVec.ofInt 64 n &&& BitVec.ofInt 64 1).toNat = (n % ((2 ^ 64 : Nat) : Int)).toNat % 2 ^ 1 := by
    rw [BitVec.toNat_and, BitVec.toNat_ofInt, h1, Nat.and_two_pow_sub_one_eq_mod]
  show IntKind.i64.wrap ((BitVec.ofInt 64 n &&& BitVec.ofInt 64 1).toNat : Nat) = n % 2
  rw [key, IntKind.wrap_i64]
  omega
theorem dg_bit (A i : Nat) : dg.bit (A : Int) i = ((A / 2 ^ i % 2 : Nat) : Int) := by
  unfold dg.bit
  rw [bit_one]
  simp
theorem dg_bit01 (A i : Nat) : dg.bit (A : Int) i = 0 ∨ dg.bit (A : Int) i = 1 := by rw [dg_bit]; omega
/-- Numbers in a row, none below 0 nor above m. -/
def dOk (m : Int) (s : List Int) : Prop := s.length = 128 ∧ ∀ j, j < 128 → 0 ≤ s.getD j 0 ∧ s.getD j 0 ≤ m
theorem put_ok {A B i k : Nat} {m : Int} {s : List Int} (h : dOk m s) (hi : i < 62) (hk : k < 62) (hm : m ≤ 1000000) :
    dOk (m + 1) (dg.put A B i k s) ∧ dV (dg.put A B i k s) = dV s + dg.bit A i * dg.bit B k * 2 ^ (i + k) := by
  obtain ⟨hl, hc⟩ := h
  have h0 := hc (127 - i - k) (by omega)
  have p01 : dg.bit A i * dg.bit B k = 0 ∨ dg.bit A i * dg.bit B k = 1 := by
    rcases dg_bit01 A i with h | h <;> rcases dg_bit01 B k with h' | h' <;> rw [h, h'] <;> simp
  have e : dg.put A B i k s = s.set (127 - i - k) (s.getD (127 - i - k) 0 + dg.bit A i * dg.bit B k) := by
    unfold dg.put
    rw [w64 (n := dg.bit A i * dg.bit B k) (by omega) (by omega), w64 (by omega) (by omega)]
  rw [e]
  refine ⟨⟨by rw [List.length_set, hl], fun j hj => ?_⟩, ?_⟩
  · rw [getD_set (by omega)]
    have := hc j hj
    split <;> omega
  · rw [dV_set s _ _ (by omega), hl, show 128 - 1 - (127 - i - k) = i + k from by omega]
    congr 2
    omega
theorem pow_cast (n : Nat) : (2 : Int) ^ n = ((2 ^ n : Nat) : Int) := by simp
theorem inner_ok {A B i : Nat} {m : Int} {s : List Int} (h : dOk m s) (hi : i < 62) (hm : m ≤ 900000) : ∀ k : Nat, k ≤ 62 → dOk (m + k) (dg.inner A B i s k) ∧ dV (dg.inner A B i s k) = dV s + dg.bit A i * 2 ^ i * ((B % 2 ^ k : Nat) : Int) := by
  intro k
  induction k with
  | zero => intro _; refine ⟨by simpa [dg.inner] using h, by simp [dg.inner, Nat.mod_one]⟩
  | succ k ih =>
    intro hk
    have h1 := ih (by omega)
    have h2 := put_ok (A := A) (B := B) (i := i) (k := k) h1.1 hi (by omega) (by omega)
    refine ⟨by have := h2.1; simpa [dg.inner, Int.add_assoc] using this, ?_⟩
    simp only [dg.inner]
    rw [h2.2, h1.2, Nat.mod_pow_succ, dg_bit B k, Int.natCast_add, Int.mul_add, Int.natCast_mul, Int.pow_add, pow_cast k, pow_cast i]
    generalize ((2 ^ i : Nat) : Int) = p
    generalize ((2 ^ k : Nat) : Int) = q
    generalize ((B / 2 ^ k % 2 : Nat) : Int) = y
    generalize dg.bit A i = x
    rw [show x * y * (p * q) = x * p * (q * y) from by rw [Int.mul_assoc, Int.mul_assoc, Int.mul_left_comm y p q, Int.mul_comm y q]]
    omega
theorem outer_ok (A B : Nat) : ∀ i : Nat, i ≤ 62 → dOk (62 * i) (dg.outer A B i) ∧ dV (dg.outer A B i) = ((A % 2 ^ i : Nat) : Int) * ((B % 2 ^ 62 : Nat) : Int) := by
  intro i
  induction i with
  | zero => intro _; refine ⟨⟨by simp [dg.outer], fun j hj => ?_⟩, ?_⟩
            · simp only [dg.outer, List.getD_eq_getElem?_getD, List.getElem?_replicate]; split <;> simp
            · simp only [dg.outer, Nat.pow_zero, Nat.mod_one]; simp only [Int.natCast_zero, Int.zero_mul]; decide +kernel
  | succ i ih =>
    intro hi
    have h1 := ih (by omega)
    have h2 := inner_ok (A := A) (B := B) (i := i) h1.1 (by omega) (by omega) 62 (by omega)
    refine ⟨by have := h2.1; rw [show (62 * ((i + 1 : Nat) : Int)) = 62 * (i : Int) + ((62 : Nat) : Int) from by omega]; exact this, ?_⟩
    simp only [dg.outer]
    rw [h2.2, h1.2]
    generalize ((B % 2 ^ 62 : Nat) : Int) = b
    rw [Nat.mod_pow_succ, dg_bit A i, Int.natCast_add, Int.add_mul, Int.natCast_mul, pow_cast i]
    rw [Int.mul_comm ((A / 2 ^ i % 2 : Nat) : Int)]
/-- Behind n rounds from the lowest one up. -/
def cOk (n : Nat) (s : List Int) : Prop := s.length = 128 ∧ ∀ j, j < 128 → 0 ≤ s.getD j 0 ∧ s.getD j 0 ≤ 8000 ∧ (j < 127 - n → s.getD j 0 ≤ 4000) ∧ (127 - n < j → s.getD j 0 ≤ 1)
theorem down_ok {n : Nat} {s : List Int} (h : cOk n s) (hn : n < 127) : cOk (n + 1) (dg.down (127 - n) s) ∧ dV (dg.down (127 - n) s) = dV s := by
  obtain ⟨hl, hc⟩ := h
  obtain ⟨i, hi⟩ : ∃ i, 127 - n = i + 1 := ⟨126 - n, by omega⟩
  rw [hi]
  have h0 := hc i (by omega)
  have h1 := hc (i + 1) (by omega)
  have e : dg.down (i + 1) s = (s.set i (s.getD i 0 + s.getD (i + 1) 0 / 2)).set (i + 1) (s.getD (i + 1) 0 % 2) := by
    unfold dg.down
    rw [Nat.add_sub_cancel, Int.tdiv_eq_ediv_of_nonneg (by omega), Int.tmod_eq_emod_of_nonneg (by omega), w64 (n := s.getD (i + 1) 0 / 2) (by omega) (by omega), w64 (by omega) (by omega)]
  rw [e]
  refine ⟨⟨by rw [List.length_set, List.length_set, hl], fun j hj => ?_⟩, ?_⟩
  · rw [getD_set (by rw [List.length_set]; omega), getD_set (by omega)]
    have := hc j hj
    split
    · omega
    · split
      · omega
      · omega
  · rw [dV_set _ _ _ (by rw [List.length_set]; omega), dV_set _ _ _ (by omega), getD_set (by omega), List.length_set, hl, if_neg (by omega), show 128 - 1 - i = 128 - 1 - (i + 1) + 1 from by omega, Int.pow_succ]
    generalize (2 : Int) ^ (128 - 1 - (i + 1)) = p
    generalize s.getD (i + 1) 0 = y at *
    rw [show s.getD i 0 + y / 2 - s.getD i 0 = y / 2 from by omega, Int.mul_comm p 2, ← Int.mul_assoc, Int.add_assoc, ← Int.add_mul, show y / 2 * 2 + (y % 2 - y) = 0 from by omega]
    simp
theorem carry_ok {s : List Int} (h : cOk 0 s) : ∀ n : Nat, n ≤ 127 → cOk n (dg.carry s n) ∧ dV (dg.carry s n) = dV s := by
  intro n
  induction n with
  | zero => intro _; exact ⟨h, rfl⟩
  | succ n ih =>
    intro hn
    have h1 := ih (by omega)
    have h2 := down_ok h1.1 (by omega)
    exact ⟨h2.1, h2.2.trans h1.2⟩
theorem dV_nonneg (s : List Int) (h : ∀ d ∈ s, 0 ≤ d) : 0 ≤ dV s := by
  induction s with
  | nil => simp [dV]
  | cons d s ih =>
    rw [dV_cons]
    have h1 := ih (fun x hx => h x (List.mem_cons_of_mem _ hx))
    have h2 := Int.mul_nonneg (h d List.mem_cons_self) (show (0 : Int) ≤ 2 ^ s.length from Int.pow_nonneg (by omega))
    omega
theorem digits_eq {a b : Int} (a0 : 0 ≤ a) (b0 : 0 ≤ b) (a1 : a ≤ 2305843009213693952) (b1 : b ≤ 2305843009213693952) :
    ∃ l, clepsydraref02_Digits.f a b = some l ∧ l.length = 128 ∧ (∀ d ∈ l, d = 0 ∨ d = 1) ∧ dV l = a * b := by
  obtain ⟨A, rfl⟩ := Int.eq_ofNat_of_zero_le a0
  obtain ⟨B, rfl⟩ := Int.eq_ofNat_of_zero_le b0
  have h1 := outer_ok A B 62 (by omega)
  rw [Nat.mod_eq_of_lt (show A < 2 ^ 62 from by omega), Nat.mod_eq_of_lt (show B < 2 ^ 62 from by omega)] at h1
  have h2 := carry_ok (s := dg.outer A B 62) ⟨h1.1.1, fun j hj => by have := h1.1.2 j hj; omega⟩ 127 (by omega)
  refine ⟨_, rfl, h2.1.1, ?_, h2.2.trans h1.2⟩
  obtain ⟨hl, hc⟩ := h2.1
  have hv := h2.2.trans h1.2
  generalize dg.carry (dg.outer A B 62) 127 = l at *
  cases l with
  | nil => simp at hl
  | cons d s =>
    rw [dV_cons] at hv
    have hs : s.length = 127 := by simpa using hl
    have h0 := hc 0 (by omega)
    simp only [List.getD_cons_zero] at h0
    have hg : ∀ x ∈ s, x = 0 ∨ x = 1 := by
      intro x hx
      obtain ⟨j, hj, rfl⟩ := List.mem_iff_getElem.1 hx
      have := hc (j + 1) (by omega)
      rw [List.getD_cons_succ] at this
      simp only [List.getD_eq_getElem?_getD, List.getElem?_eq_getElem hj, Option.getD_some] at this
      omega
    have hn := dV_nonneg s (fun x hx => by have := hg x hx; omega)
    have hp : (A : Int) * B ≤ 2305843009213693952 * 2305843009213693952 := Int.mul_le_mul a1 b1 b0 (by omega)
    have d0 : d = 0 := by
      rw [hs] at hv
      by_cases hd : d = 0
      · exact hd
      · have : (1 : Int) * 2 ^ 127 ≤ d * 2 ^ 127 := Int.mul_le_mul_of_nonneg_right (by omega) (by decide)
        have e2 : (2 : Int) ^ 127 = 170141183460469231731687303715884105728 := by decide
        rw [e2] at this hv
        generalize (A : Int) * B = ab at *
        omega
    intro x hx
    rcases List.mem_cons.1 hx with rfl | hx
    · exact .inl d0
    · exact hg x hx

theorem ratio_l0 {c : Int} (c1 : 1 ≤ c) (c2 : c ≤ 2305843009213693952) (l : List Int) (hl : l.length ≤ 1000) (h01 : ∀ d ∈ l, d = 0 ∨ d = 1) (d : Nat) :
    ∀ (k : Nat) (i P : Int), 0 ≤ i → i ≤ l.length → (l.length : Int) - i = d → d < k → 0 ≤ P →
    clepsydraref02_Ratio.l0 k c (clp (P / c)) (P % c) l (l.length : Int) i = some (clp ((l.drop i.toNat).foldl (fun n d => 2 * n + d) P / c), decide ((l.drop i.toNat).foldl (fun n d => 2 * n + d) P % c > 0)) := by
  induction d with
  | zero =>
    intro k i P h0 h1 hd hk hP
    obtain ⟨k, rfl⟩ : ∃ m, k = m + 1 := ⟨k - 1, by omega⟩
    simp only [clepsydraref02_Ratio.l0]
    rw [if_neg (by omega), List.drop_eq_nil_of_le (by omega)]
    rfl
  | succ d ih =>
    intro k i P h0 h1 hd hk hP
    obtain ⟨k, rfl⟩ : ∃ m, k = m + 1 := ⟨k - 1, by omega⟩
    have hlt : i < (l.length : Int) := by omega
    have hm : rd l i ∈ l := by
      have h : i.toNat < l.length := by omega
      simp only [rd, List.getD_eq_getElem?_getD, List.getElem?_eq_getElem h, Option.getD_some]
      exact List.getElem_mem h
    have hx := h01 _ hm
    have hq := clp_b (P / c)
    have q0 : 0 ≤ P / c := Int.ediv_nonneg hP (by omega)
    have m0 := Int.emod_nonneg P (show c ≠ 0 by omega)
    have m1 := Int.emod_lt_of_pos P (show 0 < c by omega)
    have em := Int.emod_add_mul_ediv P c
    have cq : 0 ≤ clp (P / c) := by unfold clp; split <;> (try split) <;> omega
    have ih' := fun P => ih k (i + 1) P (by omega) (by omega) (by omega) (by omega)
    simp only [clepsydraref02_Ratio.l0]
    rw [if_pos hlt, if_pos h0, if_pos hlt, rd_drop h0 hlt]
    simp only [List.foldl_cons]
    generalize rd l i = x at *
    rw [w64 (n := 2 * clp (P / c)) (by omega) (by omega), rclip_eq, Option.bind_some, w64 (n := 2 * (P % c)) (by omega) (by omega), w64 (n := 2 * (P % c) + x) (by omega) (by omega), w64 (n := i + 1) (by omega) (by omega)]
    have e2 : clp (2 * clp (P / c)) = clp (2 * (P / c)) := by unfold clp; (repeat' split) <;> omega
    rw [e2]
    by_cases hc : 2 * (P % c) + x ≥ c
    · have e := (Int.ediv_emod_unique (a := 2 * P + x) (b := c) (q := 2 * (P / c) + 1) (r := 2 * (P % c) + x - c) (by omega)).mpr ⟨by rw [Int.mul_add, Int.mul_left_comm]; omega, by omega, by omega⟩
      have hb := clp_b (2 * (P / c))
      have e3 : clp (clp (2 * (P / c)) + 1) = clp (2 * (P / c) + 1) := by unfold clp; (repeat' split) <;> omega
      rw [if_pos hc, w64 (n := clp (2 * (P / c)) + 1) (by omega) (by omega), rclip_eq, Option.bind_some, w64 (n := 2 * (P % c) + x - c) (by omega) (by omega), e3, ← e.1, ← e.2]
      exact ih' _ (by omega)
    · have e := (Int.ediv_emod_unique (a := 2 * P + x) (b := c) (q := 2 * (P / c)) (r := 2 * (P % c) + x) (by omega)).mpr ⟨by rw [Int.mul_left_comm]; omega, by omega, by omega⟩
      rw [if_neg hc, ← e.1, ← e.2]
      exact ih' _ (by omega)
theorem ratio_eq {k : Nat} {a b c : Int} (a0 : 0 ≤ a) (b0 : 0 ≤ b) (a1 : a ≤ 2305843009213693952) (b1 : b ≤ 2305843009213693952) (c1 : 1 ≤ c) (c2 : c ≤ 2305843009213693952) (hk : 130 < k) :
    clepsydraref02_Ratio.f k a b c = some (clp (a * b / c), decide (a * b % c > 0)) := by
  obtain ⟨l, h1, h2, h3, h4⟩ := digits_eq a0 b0 a1 b1
  unfold clepsydraref02_Ratio.f
  rw [h1, Option.bind_some]
  have h := ratio_l0 c1 c2 l (by omega) h3 128 k 0 0 (by omega) (by omega) (by omega) (by omega) (by omega)
  rw [Int.zero_ediv, Int.zero_emod, clp_id (by omega) (by omega)] at h
  rw [h, ← h4]
  rfl
theorem rmuldiv_eq {k : Nat} (a b c : Int) (hk : 140 < k) : clepsydraref02_MulDiv.f k a b c = some (mdv a b c) := by
  have ha := clp_b a
  have hb := clp_b b
  have hz := mx1_b c
  have key : ∀ x y : Int, 0 ≤ y → y ≤ 2305843009213693952 → -2305843009213693952 ≤ x → x ≤ 2305843009213693952 → x * y = clp a * clp b → clepsydraref02_MulDiv.j0 k x y c = some (mdv a b c) := by
    intro x y y0 y1 x0 x1 e
    obtain ⟨k, rfl⟩ : ∃ m, k = m + 1 := ⟨k - 1, by omega⟩
    unfold mdv
    simp only [clepsydraref02_MulDiv.j0]
    rw [one_eq, Option.bind_some, ← e]
    by_cases h : x ≥ 0
    · rw [if_pos h, ratio_eq h y0 x1 y1 hz.1 hz.2 (by omega), Option.bind_some]
    · have n := neg_ediv (P := -x * y) (z := mx (clp c) 1) (by omega)
      have p0 : 0 ≤ -x * y := Int.mul_nonneg (by omega) y0
      have q0 : 0 ≤ -x * y / mx (clp c) 1 := Int.ediv_nonneg p0 (by omega)
      have m0 := Int.emod_nonneg (-x * y) (show mx (clp c) 1 ≠ 0 by omega)
      have hq := clp_b (-x * y / mx (clp c) 1)
      rw [if_neg h, w64 (n := -x) (by omega) (by omega), Option.bind_some, ratio_eq (by omega) y0 (by omega) y1 hz.1 hz.2 (by omega), Option.bind_some]
      rw [show x * y = -(-x * y) from by rw [Int.neg_mul, Int.neg_neg]]
      simp only []
      by_cases hm : -x * y % mx (clp c) 1 = 0
      · rw [n.1 hm, clp_neg, decide_eq_false (by omega), if_neg (by decide), w64 (by omega) (by omega)]
      · have hq2 := clp_b (clp (-x * y / mx (clp c) 1) + 1)
        rw [n.2 hm, decide_eq_true (by omega), if_pos rfl, w64 (n := clp (-x * y / mx (clp c) 1) + 1) (by omega) (by omega), rclip_eq, Option.bind_some, w64 (by omega) (by omega)]
        rw [show -(-x * y / mx (clp c) 1) - 1 = -(-x * y / mx (clp c) 1 + 1) from by omega, clp_neg]
        congr 2
        generalize -x * y / mx (clp c) 1 = q at *
        unfold clp
        repeat' split
        all_goals omega
  unfold clepsydraref02_MulDiv.f
  rw [rclip_eq, Option.bind_some, rclip_eq, Option.bind_some]
  by_cases h : clp b < 0
  · rw [if_pos h, w64 (n := -clp a) (by omega) (by omega), w64 (n := -clp b) (by omega) (by omega)]
    exact key _ _ (by omega) (by omega) (by omega) (by omega) (by rw [Int.neg_mul_neg])
  · rw [if_neg h]
    exact key _ _ (by omega) (by omega) (by omega) (by omega) rfl

theorem radd_l0 (l : List Int) (hl : l.length ≤ 4611686018427387904) (d : Nat) : ∀ (k : Nat) (n i : Int), -2305843009213693952 ≤ n → n ≤ 2305843009213693952 → 0 ≤ i → i ≤ l.length → (l.length : Int) - i = d → d < k →
    clepsydraref01_Add.l0 k n l (l.length : Int) i = some ((l.drop i.toNat).foldl (fun n x => clp (n + clp x)) n) := by
  induction d with
  | zero =>
    intro k n i _ _ h0 h1 hd hk
    obtain ⟨k, rfl⟩ : ∃ m, k = m + 1 := ⟨k - 1, by omega⟩
    simp only [clepsydraref01_Add.l0]
    rw [if_neg (by omega), List.drop_eq_nil_of_le (by omega)]
    rfl
  | succ d ih =>
    intro k n i n1 n2 h0 h1 hd hk
    obtain ⟨k, rfl⟩ : ∃ m, k = m + 1 := ⟨k - 1, by omega⟩
    have hlt : i < (l.length : Int) := by omega
    have hc := clp_b (rd l i)
    have hs := clp_b (n + clp (rd l i))
    simp only [clepsydraref01_Add.l0]
    rw [if_pos hlt, if_pos h0, if_pos hlt, rclip_eq _, Option.bind_some, w64 (n := n + clp (rd l i)) (by omega) (by omega), rclip_eq _, Option.bind_some, w64 (n := i + 1) (by omega) (by omega)]
    rw [ih k _ (i + 1) hs.1 hs.2 (by omega) (by omega) (by omega) (by omega), rd_drop h0 hlt]
    rfl
theorem radd_eq {k : Nat} (l : List Int) (hl : l.length ≤ 4611686018427387904) (hk : l.length + 1 < k) : clepsydraref01_Add.f k l = some (addL l) := by
  unfold clepsydraref01_Add.f
  rw [radd_l0 l hl l.length k 0 0 (by omega) (by omega) (by omega) (by omega) (by omega) (by omega)]
  rfl

theorem and1 {x : Int} (h0 : 0 ≤ x) (h1 : x ≤ 4611686018427387904) : Go.bits .and .i64 x 1 = x % 2 :=
  Go.bits_mask .i64 63 (by decide) (fun n h0 h1 => by rw [Go.IntKind.wrap_i64]; omega) 1 (by decide) x h0 (by omega)
theorem two_step {z a : Int} (ha : -2305843009213693952 ≤ a ∧ a ≤ 2305843009213693952) (hs : (0 ≤ a ∧ 0 ≤ z) ∨ (a ≤ 0 ∧ z ≤ 0)) : clp (2 * clp z) = clp (2 * z) ∧ clp (clp (2 * clp z) + a) = clp (2 * z + a) := by
  unfold clp
  constructor
  · repeat' split
    all_goals omega
  · repeat' split
    all_goals omega
theorem rmul_l0 (a b : Int) (ha : -2305843009213693952 ≤ a ∧ a ≤ 2305843009213693952) (hb : 0 ≤ b ∧ b ≤ 2305843009213693952) (d : Nat) : ∀ (k : Nat) (n i : Int), d ≤ 62 → i = (d : Int) - 1 → n = clp (a * (b / 2 ^ d)) → d < k →
    clepsydraref01_Mul.l0 k a b n i = some (clp (a * b)) := by
  induction d with
  | zero =>
    intro k n i _ hi hn hk
    obtain ⟨k, rfl⟩ : ∃ m, k = m + 1 := ⟨k - 1, by omega⟩
    simp only [clepsydraref01_Mul.l0]
    rw [if_neg (by omega), hn]
    simp
  | succ d ih =>
    intro k n i hd hi hn hk
    obtain ⟨k, rfl⟩ : ∃ m, k = m + 1 := ⟨k - 1, by omega⟩
    have hi' : i = (d : Int) := by omega
    subst hi'
    have hnb := clp_b (a * (b / 2 ^ (d + 1)))
    rw [← hn] at hnb
    have hq : b / 2 ^ (d + 1) = b / 2 ^ d / 2 := by rw [Int.pow_succ, Int.ediv_ediv_of_nonneg (Int.pow_nonneg (by omega))]
    have hq0 : 0 ≤ b / 2 ^ d := Int.ediv_nonneg hb.1 (Int.pow_nonneg (by omega))
    have hq1 : b / 2 ^ d ≤ b := Int.ediv_le_self _ hb.1
    have hu : IntKind.u64.wrap (d : Int) = (d : Int) := by rw [show IntKind.u64.wrap (d : Int) = (d : Int) % 18446744073709551616 from by simp [IntKind.wrap, IntKind.bits, IntKind.signed]]; omega
    have hsh : shr .i64 b (IntKind.u64.wrap (d : Int)) = b / 2 ^ d := by
      rw [hu]; unfold shr
      rw [show min ((d : Int).toNat) (IntKind.i64).bits = d from by simp [IntKind.bits]; omega]
    simp only [clepsydraref01_Mul.l0]
    rw [if_pos (by omega), w64 (by omega) (by omega), rclip_eq, Option.bind_some, hsh, hu, if_pos (by omega), and1 hq0 (by omega)]
    rw [hq] at hn
    generalize b / 2 ^ d = q at *
    have hs : (0 ≤ a ∧ 0 ≤ a * (q / 2)) ∨ (a ≤ 0 ∧ a * (q / 2) ≤ 0) := by
      have h2 : 0 ≤ q / 2 := by omega
      by_cases h : 0 ≤ a
      · exact .inl ⟨h, Int.mul_nonneg h h2⟩
      · exact .inr ⟨by omega, Int.mul_nonpos_of_nonpos_of_nonneg (by omega) h2⟩
    have st := two_step ha hs
    rw [← hn] at st
    have hc := clp_b (2 * n)
    by_cases hbit : q % 2 = 1
    · rw [if_pos hbit, w64 (by omega) (by omega), rclip_eq, Option.bind_some, w64 (by omega) (by omega)]
      refine ih k _ _ (by omega) rfl ?_ (by omega)
      rw [st.2]
      congr 1
      have : q = 2 * (q / 2) + 1 := by omega
      have e : a * q = a * (2 * (q / 2) + 1) := by rw [← this]
      rw [e, Int.mul_add, Int.mul_left_comm, Int.mul_one]
    · rw [if_neg hbit, w64 (by omega) (by omega)]
      refine ih k _ _ (by omega) rfl ?_ (by omega)
      rw [st.1]
      congr 1
      have : q = 2 * (q / 2) := by omega
      have e : a * q = a * (2 * (q / 2)) := by rw [← this]
      rw [e, Int.mul_left_comm]
theorem rmul_eq {k : Nat} (a b : Int) (hk : 66 < k) : clepsydraref01_Mul.f k a b = some (mulC a b) := by
  have pos : ∀ (k : Nat) (a b : Int), 65 < k → -2305843009213693952 ≤ a → a ≤ 2305843009213693952 → 0 ≤ b → b ≤ 2305843009213693952 → clepsydraref01_Mul.f k a b = some (clp (a * b)) := by
    intro k a b hk h1 h2 h3 h4
    obtain ⟨k, rfl⟩ : ∃ m, k = m + 1 := ⟨k - 1, by omega⟩
    simp only [clepsydraref01_Mul.f]
    rw [rclip_eq, Option.bind_some, rclip_eq, Option.bind_some, clp_id h1 h2, clp_id (x := b) (by omega) h4, if_neg (by omega)]
    exact rmul_l0 a b ⟨h1, h2⟩ ⟨h3, h4⟩ 62 k 0 61 (by omega) (by omega) (by rw [show b / 2 ^ 62 = 0 from Int.ediv_eq_zero_of_lt h3 (by omega)]; simp [clp]) (by omega)
  have ca := clp_b a
  have cb := clp_b b
  by_cases h : clp b < 0
  · obtain ⟨k, rfl⟩ : ∃ m, k = m + 1 := ⟨k - 1, by omega⟩
    have hc := clp_b (clp a * -clp b)
    simp only [clepsydraref01_Mul.f]
    rw [rclip_eq, Option.bind_some, rclip_eq, Option.bind_some, if_pos h, w64 (n := -clp b) (by omega) (by omega), pos k (clp a) (-clp b) (by omega) ca.1 ca.2 (by omega) (by omega), Option.bind_some, w64 (by omega) (by omega), ← clp_neg, mulC]
    rw [Int.mul_neg, Int.neg_neg]
  · obtain ⟨k, rfl⟩ : ∃ m, k = m + 1 := ⟨k - 1, by omega⟩
    have p := pos (k + 1) (clp a) (clp b) (by omega) ca.1 ca.2 (by omega) cb.2
    simp only [clepsydraref01_Mul.f] at p ⊢
    rw [rclip_eq, Option.bind_some, rclip_eq, Option.bind_some] at p ⊢
    rw [clp_id ca.1 ca.2, clp_id cb.1 cb.2] at p
    rw [p]; rfl

theorem rsub_eq (a b : Int) : clepsydraref01_Sub.f a b = some (sub a b) := by
  have h := clp_b a
  have h' := clp_b b
  unfold clepsydraref01_Sub.f sub
  rw [rclip_eq a, Option.bind_some, rclip_eq b, Option.bind_some, w64 (by omega) (by omega), rclip_eq _, Option.bind_some]

theorem ladd_eq {k : Nat} (a b : Int) (hk : 5 < k) : clepsydraref04_add.f k a b = some (addL [a, b]) := by
  unfold clepsydraref04_add.f
  rw [radd_eq [a, b] (by simp) (by simp; omega), Option.bind_some]
theorem rhop_eq {k : Nat} (p0 p1 p2 p3 rho p5 jit eps p8 p9 p10 p11 : Int) (hk : 70 < k) : clepsydraref04_Hop.f k p0 p1 p2 p3 rho p5 jit eps p8 p9 p10 p11 = some (hopV rho jit) := by
  unfold clepsydraref04_Hop.f
  rw [rmul_eq _ _ (by omega), Option.bind_some, ladd_eq _ _ (by omega), Option.bind_some]
  rfl
theorem rgate_eq {k : Nat} (p0 p1 p2 p3 rho p5 jit eps p8 p9 p10 p11 : Int) (hk : 70 < k) : clepsydraref04_Gate.f k p0 p1 p2 p3 rho p5 jit eps p8 p9 p10 p11 = some (gateV rho jit eps) := by
  unfold clepsydraref04_Gate.f
  rw [rmul_eq _ _ (by omega), Option.bind_some, rhop_eq _ _ _ _ _ _ _ _ _ _ _ _ hk, Option.bind_some, ladd_eq _ _ (by omega), Option.bind_some, rmul_eq _ _ (by omega), Option.bind_some]
  rfl
theorem add3_two (a b c : Int) : addL [addL [a, b], c] = addL [a, b, c] := by
  have h := clp_b (clp a + clp b)
  rw [add3, add2, add2, clp_id h.1 h.2]
theorem rwidth_eq {k : Nat} (p0 p1 p2 p3 rho p5 jit eps p8 p9 p10 p11 held hops : Int) (hk : 70 < k) : clepsydraref04_Width.f k p0 p1 p2 p3 rho p5 jit eps p8 p9 p10 p11 held hops = some (widthV rho jit eps held hops) := by
  unfold clepsydraref04_Width.f
  rw [rmul_eq _ _ (by omega), Option.bind_some, rmul_eq _ _ (by omega), Option.bind_some, rgate_eq _ _ _ _ _ _ _ _ _ _ _ _ hk, Option.bind_some, ladd_eq _ _ (by omega), Option.bind_some, ladd_eq _ _ (by omega), Option.bind_some, rhop_eq _ _ _ _ _ _ _ _ _ _ _ _ hk, Option.bind_some, rmul_eq _ _ (by omega), Option.bind_some, ladd_eq _ _ (by omega), Option.bind_some, add3_two]
  rfl
theorem rsettle_eq {k : Nat} (p0 p1 d p3 rho p5 jit eps mu hold p10 p11 : Int) (hk : 160 < k) : clepsydraref04_Settle.f k p0 p1 d p3 rho p5 jit eps mu hold p10 p11 = some (settleV d rho jit eps mu hold) := by
  unfold clepsydraref04_Settle.f settleV mup
  have hm := mulC_b 3 (widthV rho jit eps hold d)
  have hd := mdv_b (-mulC 3 (widthV rho jit eps hold d)) 1 (sub mu rho)
  rw [rwidth_eq _ _ _ _ _ _ _ _ _ _ _ _ _ _ (by omega), Option.bind_some, rmul_eq _ _ (by omega), Option.bind_some, rsub_eq, Option.bind_some, w64 (n := -mulC 3 (widthV rho jit eps hold d)) (by omega) (by omega), rmuldiv_eq _ _ _ (by omega), Option.bind_some, rmul_eq _ _ (by omega), Option.bind_some, ladd_eq _ _ (by omega), Option.bind_some, w64 (by omega) (by omega), ladd_eq _ _ (by omega), Option.bind_some, add3_two, clp_id hm.1 hm.2]

/-- The pure statement of the law. -/
def Pure : Prop := ∀ (a0_0 : Int) (a0_1 : Int) (a0_2 : Int) (a0_3 : Int) (a0_4 : Int) (a0_5 : Int) (a0_6 : Int) (a0_7 : Int) (a0_8 : Int) (a0_9 : Int) (a0_10 : Int) (a0_11 : Int) (a1 : Int) (a2 : Int), (Lit.int .i64 a0_0).wf = true → (Lit.int .i64 a0_1).wf = true → (Lit.int .i64 a0_2).wf = true → (Lit.int .i64 a0_3).wf = true → (Lit.int .i64 a0_4).wf = true → (Lit.int .i64 a0_5).wf = true → (Lit.int .i64 a0_6).wf = true → (Lit.int .i64 a0_7).wf = true → (Lit.int .i64 a0_8).wf = true → (Lit.int .i64 a0_9).wf = true → (Lit.int .i64 a0_10).wf = true → (Lit.int .i64 a0_11).wf = true → (Lit.int .i64 a1).wf = true → (Lit.int .i64 a2).wf = true → ∃ k, clepsydralaw04_LimitBounds.f k a0_0 a0_1 a0_2 a0_3 a0_4 a0_5 a0_6 a0_7 a0_8 a0_9 a0_10 a0_11 a1 a2 = some true

theorem LimitBounds : Pure := by
  intro p0 p1 d beat rho p5 jit eps mu hold p10 p11 held hops
  intros
  refine ⟨200, ?_⟩
  unfold clepsydralaw04_LimitBounds.f
  rw [lalive_eq (by omega), Option.bind_some, if_pos rfl, hop_eq _ _ _ _ _ _ _ _ _ _ _ _ (by omega), Option.bind_some, rhop_eq _ _ _ _ _ _ _ _ _ _ _ _ (by omega), Option.bind_some, if_pos rfl]
  rw [gate_eq _ _ _ _ _ _ _ _ _ _ _ _ (by omega), Option.bind_some, rgate_eq _ _ _ _ _ _ _ _ _ _ _ _ (by omega), Option.bind_some, if_pos rfl]
  rw [width_eq _ _ _ _ _ _ _ _ _ _ _ _ _ _ (by omega), Option.bind_some, rwidth_eq _ _ _ _ _ _ _ _ _ _ _ _ _ _ (by omega), Option.bind_some, if_pos rfl]
  unfold limit_Skew.f clepsydraref04_Skew.f
  rw [width_eq _ _ _ _ _ _ _ _ _ _ _ _ _ _ (by omega), Option.bind_some, mul_eq _ _ (by omega), Option.bind_some, Option.bind_some, rwidth_eq _ _ _ _ _ _ _ _ _ _ _ _ _ _ (by omega), Option.bind_some, rmul_eq _ _ (by omega), Option.bind_some, Option.bind_some, if_pos rfl]
  rw [settle_eq _ _ _ _ _ _ _ _ _ _ _ _ (by omega), Option.bind_some, rsettle_eq _ _ _ _ _ _ _ _ _ _ _ _ (by omega), Option.bind_some]
  simp

end Go.Proofs.Ytopnmlambbimpaa.VLimitBounds
