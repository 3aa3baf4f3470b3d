/- Compare answers what the document says, of all rates; turned round it is the opposite. -/
import Derived.Test.YtidoeplhgckmaaaQx10
import Derived.OpenShut
set_option linter.unusedVariables false
set_option linter.unusedSimpArgs false
namespace Go.Proofs.Ytidoeplhgckmaaa.VWideCompares
open Go.RowKit Go.Proofs.Ytidoeplhgckmaaa.Q Go.Proofs.YtidoeplhgckmaaaW.PrintWords Go.Proofs.YtidoeplhgckmaaaW.PrintLast Go.Proofs.YtidoeplhgckmaaaW.PrintMore

theorem wb {n : Int} (h : (Lit.int .i64 n).wf = true) : -9223372036854775808 ≤ n ∧ n ≤ 9223372036854775807 := Go.bounds_i64 h
theorem w64 {n : Int} (h1 : -9223372036854775808 ≤ n) (h2 : n ≤ 9223372036854775807) : wrap64 n = n := by unfold wrap64; omega
def clp (x : Int) : Int := if x < -2305843009213693952 then -2305843009213693952 else if 2305843009213693952 < x then 2305843009213693952 else x
theorem clp_b (x : Int) : -2305843009213693952 ≤ clp x ∧ clp x ≤ 2305843009213693952 := by unfold clp; split <;> (try split) <;> omega
theorem clp_id {x : Int} (h1 : -2305843009213693952 ≤ x) (h2 : x ≤ 2305843009213693952) : clp x = x := by unfold clp; rw [if_neg (by omega), if_neg (by omega)]
theorem clp_neg (x : Int) : clp (-x) = -clp x := by unfold clp; split <;> (try split) <;> (try split) <;> (try split) <;> omega
def bnd (x lo hi : Int) : Int := if x < lo ∨ hi < lo then lo else if hi < x then hi else x
def addL (l : List Int) : Int := l.foldl (fun n x => clp (n + clp x)) 0
def sub (a b : Int) : Int := clp (clp a - clp b)
def absC (a : Int) : Int := if a < 0 then -clp a else clp a
theorem absC_b (x : Int) : 0 ≤ absC x ∧ absC x ≤ 2305843009213693952 := by have := clp_b x; unfold absC; unfold clp at *; split <;> omega
theorem add2 (a b : Int) : addL [a, b] = clp (clp a + clp b) := by
  have h := clp_b a
  simp only [addL, List.foldl_cons, List.foldl_nil, Int.zero_add]
  rw [clp_id h.1 h.2]
theorem add3 (a b c : Int) : addL [a, b, c] = clp (clp (clp a + clp b) + clp c) := by
  have h := clp_b a
  simp only [addL, List.foldl_cons, List.foldl_nil, Int.zero_add]
  rw [clp_id h.1 h.2]
theorem rd_drop {l : List Int} {i : Int} (h0 : 0 ≤ i) (h1 : i < (l.length : Int)) : l.drop i.toNat = rd l i :: l.drop (i + 1).toNat := by
  have h : i.toNat < l.length := by omega
  rw [List.drop_eq_getElem_cons h, show (i + 1).toNat = i.toNat + 1 from by omega]
  congr 1
  simp [rd, List.getD_eq_getElem?_getD, List.getElem?_eq_getElem h]
def mulC (a b : Int) : Int := clp (clp a * clp b)
theorem mulC_b (a b : Int) : -2305843009213693952 ≤ mulC a b ∧ mulC a b ≤ 2305843009213693952 := clp_b _
theorem sub_b (a b : Int) : -2305843009213693952 ≤ sub a b ∧ sub a b ≤ 2305843009213693952 := clp_b _
theorem addL_b (l : List Int) : -2305843009213693952 ≤ addL l ∧ addL l ≤ 2305843009213693952 := by
  unfold addL
  suffices h : ∀ (l : List Int) (n : Int), -2305843009213693952 ≤ n → n ≤ 2305843009213693952 → -2305843009213693952 ≤ l.foldl (fun n x => clp (n + clp x)) n ∧ l.foldl (fun n x => clp (n + clp x)) n ≤ 2305843009213693952 from h l 0 (by omega) (by omega)
  intro l
  induction l with
  | nil => intro n h1 h2; exact ⟨h1, h2⟩
  | cons x l ih => intro n _ _; exact ih _ (clp_b _).1 (clp_b _).2

theorem bound_eq {k : Nat} (x lo hi : Int) (hk : 0 < k) : sat_Bound.f k x lo hi = some (bnd x lo hi) := by
  obtain ⟨k, rfl⟩ : ∃ m, k = m + 1 := ⟨k - 1, by omega⟩
  unfold sat_Bound.f bnd
  simp only [sat_Bound.j0]
  by_cases h1 : x < lo
  · simp [h1]
  · by_cases h2 : hi < lo
    · simp [h1, h2]
    · simp only [h1, h2, if_false, false_or, decide_false, if_neg]
      by_cases h3 : hi < x
      · simp [h3]
      · simp [h3]
theorem clip_eq {k : Nat} (x : Int) (hk : 0 < k) : sat_Clip.f k x = some (clp x) := by
  unfold sat_Clip.f
  rw [bound_eq x _ _ hk]
  simp only [Option.bind_some, bnd, clp]
  congr 1
  split <;> split <;> (try split) <;> omega

theorem neg_eq {k : Nat} (x : Int) (hk : 0 < k) : sat_Neg.f k x = some (-clp x) := by
  have h := clp_b x
  unfold sat_Neg.f
  rw [clip_eq x hk, Option.bind_some, w64 (by omega) (by omega)]

theorem abs_eq {k : Nat} (x : Int) (hk : 0 < k) : sat_Abs.f k x = some (absC x) := by
  unfold sat_Abs.f absC
  split
  · rw [neg_eq x hk]; rfl
  · rw [clip_eq x hk]; rfl

theorem um (x : Int) : IntKind.u64.wrap x = x % 18446744073709551616 := by
  unfold IntKind.wrap; simp [IntKind.signed, IntKind.bits]
theorem uw {x : Int} (h1 : 0 ≤ x) (h2 : x < 18446744073709551616) : IntKind.u64.wrap x = x := by rw [um]; omega
theorem and_nat (a b : Nat) (ha : a < 18446744073709551616) (hb : b < 18446744073709551616) : Go.bits .and .u64 (a : Int) (b : Int) = ((a &&& b : Nat) : Int) := by
  have h : a &&& b ≤ a := Nat.and_le_left
  show IntKind.u64.wrap ((BitVec.ofInt 64 (a : Int) &&& BitVec.ofInt 64 (b : Int)).toNat : Int) = _
  rw [BitVec.ofInt_natCast, BitVec.ofInt_natCast, BitVec.toNat_and, BitVec.toNat_ofNat, BitVec.toNat_ofNat]
  rw [Nat.mod_eq_of_lt (by omega), Nat.mod_eq_of_lt (by omega), uw (by omega) (by omega)]
theorem or_nat (a b : Nat) (ha : a < 18446744073709551616) (hb : b < 18446744073709551616) : Go.bits .or .u64 (a : Int) (b : Int) = ((a ||| b : Nat) : Int) := by
  have h : a ||| b < 2 ^ 64 := Nat.or_lt_two_pow (by omega) (by omega)
  show IntKind.u64.wrap ((BitVec.ofInt 64 (a : Int) ||| BitVec.ofInt 64 (b : Int)).toNat : Int) = _
  rw [BitVec.ofInt_natCast, BitVec.ofInt_natCast, BitVec.toNat_or, BitVec.toNat_ofNat, BitVec.toNat_ofNat]
  rw [Nat.mod_eq_of_lt (by omega), Nat.mod_eq_of_lt (by omega), uw (by omega) (by omega)]
theorem mask32 {a : Int} (h1 : 0 ≤ a) (h2 : a < 18446744073709551616) : Go.bits .and .u64 a 4294967295 = a % 4294967296 := by
  obtain ⟨n, rfl⟩ := Int.eq_ofNat_of_zero_le h1
  have h := and_nat n 4294967295 (by omega) (by omega)
  have e : n &&& 4294967295 = n % 4294967296 := Nat.and_two_pow_sub_one_eq_mod n 32
  rw [e] at h
  exact h.trans (by omega)
/-- What is put together out of a multiple of a power and less than it. -/
theorem or_sum {a b : Int} (s : Nat) (ha : 0 ≤ a) (hb : 0 ≤ b) (hb2 : b < 2 ^ s) (hs : a * 2 ^ s < 18446744073709551616) (hb3 : b < 18446744073709551616) : Go.bits .or .u64 (a * 2 ^ s) b = a * 2 ^ s + b := by
  obtain ⟨n, rfl⟩ := Int.eq_ofNat_of_zero_le ha
  obtain ⟨m, rfl⟩ := Int.eq_ofNat_of_zero_le hb
  have e : ((n : Int) * 2 ^ s) = ((n * 2 ^ s : Nat) : Int) := by simp
  have hm : m < 2 ^ s := by have : ((2 : Int) ^ s) = ((2 ^ s : Nat) : Int) := by simp
                            omega
  rw [e] at hs ⊢
  have h := or_nat (n * 2 ^ s) m (by omega) (by omega)
  have h2 := Nat.shiftLeft_add_eq_or_of_lt hm n
  rw [Nat.shiftLeft_eq] at h2
  rw [← h2] at h
  exact h.trans (by omega)
theorem mul64_eq {a b : Int} (a0 : 0 ≤ a) (a1 : a < 18446744073709551616) (b0 : 0 ≤ b) (b1 : b < 18446744073709551616) :
    bits_Mul64.f a b = some (a * b / 18446744073709551616, a * b % 18446744073709551616) := by
  unfold bits_Mul64.f
  rw [mask32 a0 a1, mask32 b0 b1]
  have ea : a = a / 4294967296 * 4294967296 + a % 4294967296 := by omega
  have eb : b = b / 4294967296 * 4294967296 + b % 4294967296 := by omega
  have A0 : 0 ≤ a / 4294967296 := by omega
  have A1 : a / 4294967296 ≤ 4294967295 := by omega
  have A2 : 0 ≤ a % 4294967296 := by omega
  have A3 : a % 4294967296 ≤ 4294967295 := by omega
  have B0 : 0 ≤ b / 4294967296 := by omega
  have B1 : b / 4294967296 ≤ 4294967295 := by omega
  have B2 : 0 ≤ b % 4294967296 := by omega
  have B3 : b % 4294967296 ≤ 4294967295 := by omega
  rw [um (a * b)]
  generalize hp : a * b = p
  generalize a / 4294967296 = x1 at *
  generalize a % 4294967296 = x0 at *
  generalize b / 4294967296 = y1 at *
  generalize b % 4294967296 = y0 at *
  have p00 : 0 ≤ x0 * y0 ∧ x0 * y0 ≤ 4294967295 * 4294967295 := ⟨Int.mul_nonneg A2 B2, Int.mul_le_mul A3 B3 B2 (by omega)⟩
  have p10 : 0 ≤ x1 * y0 ∧ x1 * y0 ≤ 4294967295 * 4294967295 := ⟨Int.mul_nonneg A0 B2, Int.mul_le_mul A1 B3 B2 (by omega)⟩
  have p01 : 0 ≤ x0 * y1 ∧ x0 * y1 ≤ 4294967295 * 4294967295 := ⟨Int.mul_nonneg A2 B0, Int.mul_le_mul A3 B1 B0 (by omega)⟩
  have p11 : 0 ≤ x1 * y1 ∧ x1 * y1 ≤ 4294967295 * 4294967295 := ⟨Int.mul_nonneg A0 B0, Int.mul_le_mul A1 B1 B0 (by omega)⟩
  have e : p = x1 * y1 * 18446744073709551616 + (x1 * y0 + x0 * y1) * 4294967296 + x0 * y0 := by
    rw [← hp, ea, eb, Int.add_mul, Int.mul_add, Int.mul_add]
    have e1 : x1 * 4294967296 * (y1 * 4294967296) = x1 * y1 * 18446744073709551616 := by
      rw [Int.mul_assoc, Int.mul_left_comm 4294967296 y1 4294967296, ← Int.mul_assoc]; omega
    have e2 : x1 * 4294967296 * y0 = x1 * y0 * 4294967296 := by rw [Int.mul_assoc, Int.mul_comm 4294967296 y0, ← Int.mul_assoc]
    have e3 : x0 * (y1 * 4294967296) = x0 * y1 * 4294967296 := by rw [Int.mul_assoc]
    rw [e1, e2, e3]; omega
  generalize x1 * y1 = q11 at *
  generalize x1 * y0 = q10 at *
  generalize x0 * y1 = q01 at *
  generalize x0 * y0 = q00 at *
  rw [uw (x := q00) (by omega) (by omega), uw (x := q10) (by omega) (by omega), uw (x := q01) (by omega) (by omega), uw (x := q11) (by omega) (by omega), uw (x := q10 + q00 / 4294967296) (by omega) (by omega), mask32 (by omega) (by omega)]
  rw [uw (x := (q10 + q00 / 4294967296) % 4294967296 + q01) (by omega) (by omega), uw (x := q11 + (q10 + q00 / 4294967296) / 4294967296) (by omega) (by omega), um]
  congr 2
  omega

theorem dm_eq {A c : Int} (hc : 0 < c) : (A.tmod c < 0 → A / c = A.tdiv c - 1 ∧ A % c = A.tmod c + c) ∧ (¬ A.tmod c < 0 → A / c = A.tdiv c ∧ A % c = A.tmod c) := by
  have h1 := Int.tmod_def A c
  have h2 : A.tmod c < c := Int.tmod_lt_of_pos A hc
  have h3 : -c < A.tmod c := by
    rcases Int.le_total 0 A with h | h
    · have := Int.tmod_nonneg c h; omega
    · have := Int.tmod_lt_of_pos (-A) hc; rw [Int.neg_tmod] at this; omega
  constructor
  · intro h; exact (Int.ediv_emod_unique hc).mpr ⟨by rw [Int.mul_sub]; omega, by omega, by omega⟩
  · intro h; exact (Int.ediv_emod_unique hc).mpr ⟨by omega, by omega, by omega⟩
theorem ediv_b {A c : Int} (hc : 0 < c) (h1 : -2305843009213693952 ≤ A) (h2 : A ≤ 2305843009213693952) : -2305843009213693952 ≤ A / c ∧ A / c ≤ 2305843009213693952 := by
  constructor
  · apply Int.le_ediv_of_mul_le hc; omega
  · have : A / c < 2305843009213693953 := Int.ediv_lt_of_lt_mul hc (by omega)
    omega
theorem mx1_b (c : Int) : 1 ≤ mx (clp c) 1 ∧ mx (clp c) 1 ≤ 2305843009213693952 := by
  have := clp_b c; unfold mx; split <;> omega

theorem rclip_eq (x : Int) : clepsydraref01_Clip.f x = some (clp x) := by
  unfold clepsydraref01_Clip.f clp
  by_cases h1 : x > 2305843009213693952
  · rw [if_pos h1, if_neg (by omega), if_pos (by omega)]
  · rw [if_neg h1]
    by_cases h2 : x < -2305843009213693952
    · rw [if_pos h2, if_pos h2]
    · rw [if_neg h2, if_neg h2, if_neg (by omega)]

theorem one_eq (c : Int) : clepsydraref02_one.f c = some (mx (clp c) 1) := by
  unfold clepsydraref02_one.f
  rw [rclip_eq, Option.bind_some]
  unfold mx
  by_cases h : clp c < 1
  · rw [if_pos h, if_pos h]
  · rw [if_neg h, if_neg h]

def dV (s : List Int) : Int := s.foldl (fun n d => 2 * n + d) 0
theorem dV_acc (s : List Int) : ∀ n, s.foldl (fun n d => 2 * n + d) n = n * 2 ^ s.length + dV s := by
  induction s with
  | nil => intro n; simp [dV]
  | cons d s ih =>
    intro n
    simp only [List.foldl_cons, dV, List.length_cons]
    rw [ih, ih (2 * 0 + d), Int.pow_succ]
    generalize (2 : Int) ^ s.length = p
    generalize dV s = v
    rw [Int.add_mul, Int.mul_assoc, ← Int.mul_assoc n p 2, Int.mul_comm (n * p) 2, show (2 * 0 + d) = d from by omega]
    omega
theorem dV_cons (d : Int) (s : List Int) : dV (d :: s) = d * 2 ^ s.length + dV s := by
  have h := dV_acc s (2 * 0 + d)
  rw [show (2 * 0 + d) = d from by omega] at h
  simp only [dV, List.foldl_cons]
  rw [show (2 * 0 + d) = d from by omega]
  exact h
theorem dV_set (s : List Int) : ∀ (j : Nat) (x : Int), j < s.length → dV (s.set j x) = dV s + (x - s.getD j 0) * 2 ^ (s.length - 1 - j) := by
  induction s with
  | nil => intro j x h; simp at h
  | cons d s ih =>
    intro j x h
    cases j with
    | zero =>
      simp only [List.set_cons_zero, dV_cons, List.getD_cons_zero, List.length_cons, Nat.add_sub_cancel, Nat.sub_zero]
      rw [Int.sub_mul]; omega
    | succ j =>
      simp only [List.set_cons_succ, dV_cons, List.getD_cons_succ, List.length_cons, List.length_set]
      rw [ih j x (by simpa using h), show s.length + 1 - 1 - (j + 1) = s.length - 1 - j from by omega]
      omega
theorem getD_set {s : List Int} {j m : Nat} {x : Int} (h : j < s.length) : (s.set j x).getD m 0 = if m = j then x else s.getD m 0 := by
  simp only [List.getD_eq_getElem?_getD]
  by_cases e : m = j
  · subst e; rw [if_pos rfl, List.getElem?_set_self h]; rfl
  · rw [if_neg e, List.getElem?_set_ne (fun z => e z.symm)]
theorem bit_one (n : Int) : Go.bits .and .i64 n 1 = n % 2 := by
  have h1 : (BitVec.ofInt 64 1).toNat = 2 ^ 1 - 1 := by decide
  have key : (BitVec.ofInt 64 n &&& BitVec.ofInt 64 1).toNat = (n % ((2 ^ 64 : Nat) : Int)).toNat % 2 ^ 1 := by
    rw [BitVec.toNat_and, BitVec.toNat_ofInt, h1, Nat.and_two_pow_sub_one_eq_mod]
  show IntKind.i64.wrap ((BitVec.ofInt 64 n &&& BitVec.ofInt 64 1).toNat : Nat) = n % 2
  rw [key, IntKind.wrap_i64]
  omega
theorem dg_bit (A i : Nat) : dg.bit (A : Int) i = ((A / 2 ^ i % 2 : Nat) : Int) := by
  unfold dg.bit
  rw [bit_one]
  simp
theorem dg_bit01 (A i : Nat) : dg.bit (A : Int) i = 0 ∨ dg.bit (A : Int) i = 1 := by rw [dg_bit]; omega
/-- Numbers in a row, none below 0 nor above m. -/
def dOk (m : Int) (s : List Int) : Prop := s.length = 128 ∧ ∀ j, j < 128 → 0 ≤ s.getD j 0 ∧ s.getD j 0 ≤ m
theorem put_ok {A B i k : Nat} {m : Int} {s : List Int} (h : dOk m s) (hi : i < 62) (hk : k < 62) (hm : m ≤ 1000000) :
    dOk (m + 1) (dg.put A B i k s) ∧ dV (dg.put A B i k s) = dV s + dg.bit A i * dg.bit B k * 2 ^ (i + k) := by
  obtain ⟨hl, hc⟩ := h
  have h0 := hc (127 - i - k) (by omega)
  have p01 : dg.bit A i * dg.bit B k = 0 ∨ dg.bit A i * dg.bit B k = 1 := by
    rcases dg_bit01 A i with h | h <;> rcases dg_bit01 B k with h' | h' <;> rw [h, h'] <;> simp
  have e : dg.put A B i k s = s.set (127 - i - k) (s.getD (127 - i - k) 0 + dg.bit A i * dg.bit B k) := by
    unfold dg.put
    rw [w64 (n := dg.bit A i * dg.bit B k) (by omega) (by omega), w64 (by omega) (by omega)]
  rw [e]
  refine ⟨⟨by rw [List.length_set, hl], fun j hj => ?_⟩, ?_⟩
  · rw [getD_set (by omega)]
    have := hc j hj
    split <;> omega
  · rw [dV_set s _ _ (by omega), hl, show 128 - 1 - (127 - i - k) = i + k from by omega]
    congr 2
    omega
theorem pow_cast (n : Nat) : (2 : Int) ^ n = ((2 ^ n : Nat) : Int) := by simp
theorem inner_ok {A B i : Nat} {m : Int} {s : List Int} (h : dOk m s) (hi : i < 62) (hm : m ≤ 900000) : ∀ k : Nat, k ≤ 62 → dOk (m + k) (dg.inner A B i s k) ∧ dV (dg.inner A B i s k) = dV s + dg.bit A i * 2 ^ i * ((B % 2 ^ k : Nat) : Int) := by
  intro k
  induction k with
  | zero => intro _; refine ⟨by simpa [dg.inner] using h, by simp [dg.inner, Nat.mod_one]⟩
  | succ k ih =>
    intro hk
    have h1 := ih (by omega)
    have h2 := put_ok (A := A) (B := B) (i := i) (k := k) h1.1 hi (by omega) (by omega)
    refine ⟨by have := h2.1; simpa [dg.inner, Int.add_assoc] using this, ?_⟩
    simp only [dg.inner]
    rw [h2.2, h1.2, Nat.mod_pow_succ, dg_bit B k, Int.natCast_add, Int.mul_add, Int.natCast_mul, Int.pow_add, pow_cast k, pow_cast i]
    generalize ((2 ^ i : Nat) : Int) = p
    generalize ((2 ^ k : Nat) : Int) = q
    generalize ((B / 2 ^ k % 2 : Nat) : Int) = y
    generalize dg.bit A i = x
    rw [show x * y * (p * q) = x * p * (q * y) from by rw [Int.mul_assoc, Int.mul_assoc, Int.mul_left_comm y p q, Int.mul_comm y q]]
    omega
theorem outer_ok (A B : Nat) : ∀ i : Nat, i ≤ 62 → dOk (62 * i) (dg.outer A B i) ∧ dV (dg.outer A B i) = ((A % 2 ^ i : Nat) : Int) * ((B % 2 ^ 62 : Nat) : Int) := by
  intro i
  induction i with
  | zero => intro _; refine ⟨⟨by simp [dg.outer], fun j hj => ?_⟩, ?_⟩
            · simp only [dg.outer, List.getD_eq_getElem?_getD, List.getElem?_replicate]; split <;> simp
            · simp only [dg.outer, Nat.pow_zero, Nat.mod_one]; simp only [Int.natCast_zero, Int.zero_mul]; decide +kernel
  | succ i ih =>
    intro hi
    have h1 := ih (by omega)
    have h2 := inner_ok (A := A) (B := B) (i := i) h1.1 (by omega) (by omega) 62 (by omega)
    refine ⟨by have := h2.1; rw [show (62 * ((i + 1 : Nat) : Int)) = 62 * (i : Int) + ((62 : Nat) : Int) from by omega]; exact this, ?_⟩
    simp only [dg.outer]
    rw [h2.2, h1.2]
    generalize ((B % 2 ^ 62 : Nat) : Int) = b
    rw [Nat.mod_pow_succ, dg_bit A i, Int.natCast_add, Int.add_mul, Int.natCast_mul, pow_cast i]
    rw [Int.mul_comm ((A / 2 ^ i % 2 : Nat) : Int)]
/-- Behind n rounds from the lowest one up. -/
def cOk (n : Nat) (s : List Int) : Prop := s.length = 128 ∧ ∀ j, j < 128 → 0 ≤ s.getD j 0 ∧ s.getD j 0 ≤ 8000 ∧ (j < 127 - n → s.getD j 0 ≤ 4000) ∧ (127 - n < j → s.getD j 0 ≤ 1)
theorem down_ok {n : Nat} {s : List Int} (h : cOk n s) (hn : n < 127) : cOk (n + 1) (dg.down (127 - n) s) ∧ dV (dg.down (127 - n) s) = dV s := by
  obtain ⟨hl, hc⟩ := h
  obtain ⟨i, hi⟩ : ∃ i, 127 - n = i + 1 := ⟨126 - n, by omega⟩
  rw [hi]
  have h0 := hc i (by omega)
  have h1 := hc (i + 1) (by omega)
  have e : dg.down (i + 1) s = (s.set i (s.getD i 0 + s.getD (i + 1) 0 / 2)).set (i + 1) (s.getD (i + 1) 0 % 2) := by
    unfold dg.down
    rw [Nat.add_sub_cancel, Int.tdiv_eq_ediv_of_nonneg (by omega), Int.tmod_eq_emod_of_nonneg (by omega), w64 (n := s.getD (i + 1) 0 / 2) (by omega) (by omega), w64 (by omega) (by omega)]
  rw [e]
  refine ⟨⟨by rw [List.length_set, List.length_set, hl], fun j hj => ?_⟩, ?_⟩
  · rw [getD_set (by rw [List.length_set]; omega), getD_set (by omega)]
    have := hc j hj
    split
    · omega
    · split
      · omega
      · omega
  · rw [dV_set _ _ _ (by rw [List.length_set]; omega), dV_set _ _ _ (by omega), getD_set (by omega), List.length_set, hl, if_neg (by omega), show 128 - 1 - i = 128 - 1 - (i + 1) + 1 from by omega, Int.pow_succ]
    generalize (2 : Int) ^ (128 - 1 - (i + 1)) = p
    generalize s.getD (i + 1) 0 = y at *
    rw [show s.getD i 0 + y / 2 - s.getD i 0 = y / 2 from by omega, Int.mul_comm p 2, ← Int.mul_assoc, Int.add_assoc, ← Int.add_mul, show y / 2 * 2 + (y % 2 - y) = 0 from by omega]
    simp
theorem carry_ok {s : List Int} (h : cOk 0 s) : ∀ n : Nat, n ≤ 127 → cOk n (dg.carry s n) ∧ dV (dg.carry s n) = dV s := by
  intro n
  induction n with
  | zero => intro _; exact ⟨h, rfl⟩
  | succ n ih =>
    intro hn
    have h1 := ih (by omega)
    have h2 := down_ok h1.1 (by omega)
    exact ⟨h2.1, h2.2.trans h1.2⟩
theorem dV_nonneg (s : List Int) (h : ∀ d ∈ s, 0 ≤ d) : 0 ≤ dV s := by
  induction s with
  | nil => simp [dV]
  | cons d s ih =>
    rw [dV_cons]
    have h1 := ih (fun x hx => h x (List.mem_cons_of_mem _ hx))
    have h2 := Int.mul_nonneg (h d List.mem_cons_self) (show (0 : Int) ≤ 2 ^ s.length from Int.pow_nonneg (by omega))
    omega
theorem digits_eq {a b : Int} (a0 : 0 ≤ a) (b0 : 0 ≤ b) (a1 : a ≤ 2305843009213693952) (b1 : b ≤ 2305843009213693952) :
    ∃ l, clepsydraref02_Digits.f a b = some l ∧ l.length = 128 ∧ (∀ d ∈ l, d = 0 ∨ d = 1) ∧ dV l = a * b := by
  obtain ⟨A, rfl⟩ := Int.eq_ofNat_of_zero_le a0
  obtain ⟨B, rfl⟩ := Int.eq_ofNat_of_zero_le b0
  have h1 := outer_ok A B 62 (by omega)
  rw [Nat.mod_eq_of_lt (show A < 2 ^ 62 from by omega), Nat.mod_eq_of_lt (show B < 2 ^ 62 from by omega)] at h1
  have h2 := carry_ok (s := dg.outer A B 62) ⟨h1.1.1, fun j hj => by have := h1.1.2 j hj; omega⟩ 127 (by omega)
  refine ⟨_, rfl, h2.1.1, ?_, h2.2.trans h1.2⟩
  obtain ⟨hl, hc⟩ := h2.1
  have hv := h2.2.trans h1.2
  generalize dg.carry (dg.outer A B 62) 127 = l at *
  cases l with
  | nil => simp at hl
  | cons d s =>
    rw [dV_cons] at hv
    have hs : s.length = 127 := by simpa using hl
    have h0 := hc 0 (by omega)
    simp only [List.getD_cons_zero] at h0
    have hg : ∀ x ∈ s, x = 0 ∨ x = 1 := by
      intro x hx
      obtain ⟨j, hj, rfl⟩ := List.mem_iff_getElem.1 hx
      have := hc (j + 1) (by omega)
      rw [List.getD_cons_succ] at this
      simp only [List.getD_eq_getElem?_getD, List.getElem?_eq_getElem hj, Option.getD_some] at this
      omega
    have hn := dV_nonneg s (fun x hx => by have := hg x hx; omega)
    have hp : (A : Int) * B ≤ 2305843009213693952 * 2305843009213693952 := Int.mul_le_mul a1 b1 b0 (by omega)
    have d0 : d = 0 := by
      rw [hs] at hv
      by_cases hd : d = 0
      · exact hd
      · have : (1 : Int) * 2 ^ 127 ≤ d * 2 ^ 127 := Int.mul_le_mul_of_nonneg_right (by omega) (by decide)
        have e2 : (2 : Int) ^ 127 = 170141183460469231731687303715884105728 := by decide
        rw [e2] at this hv
        generalize (A : Int) * B = ab at *
        omega
    intro x hx
    rcases List.mem_cons.1 hx with rfl | hx
    · exact .inl d0
    · exact hg x hx

def cmpC (x y : Int) : Int := if x < y then -1 else if x > y then 1 else 0
theorem product_eq {k : Nat} (a b : Int) (hb : 1 ≤ b) (hk : 3 < k) : wide_product.f k a b = some (clp a * clp b / 18446744073709551616, clp a * clp b % 18446744073709551616) := by
  have ca := clp_b a
  have cb := clp_b b
  have cb1 : 1 ≤ clp b := by unfold clp; split <;> (try split) <;> omega
  have xa := absC_b a
  have xb : absC b = clp b := by unfold absC; rw [if_neg (by omega)]
  have p0 : 0 ≤ absC a * clp b := Int.mul_nonneg (by omega) (by omega)
  have p1 : absC a * clp b ≤ 2305843009213693952 * 2305843009213693952 := Int.mul_le_mul (by omega) (by omega) (by omega) (by omega)
  unfold wide_product.f
  rw [abs_eq a (by omega), Option.bind_some, abs_eq b (by omega), Option.bind_some, xb, uw (x := absC a) (by omega) (by omega), uw (x := clp b) (by omega) (by omega), mul64_eq (by omega) (by omega) (by omega) (by omega), Option.bind_some]
  have hd : decide (b < 0) = false := decide_eq_false (by omega)
  rw [hd]
  by_cases h : a < 0
  · have e : absC a = -clp a := by unfold absC; rw [if_pos h]
    have e2 : clp a * clp b = -(absC a * clp b) := by rw [e, Int.neg_mul, Int.neg_neg]
    rw [e2, decide_eq_true h, if_neg (by decide)]
    generalize absC a * clp b = P at *
    unfold sub64.f
    simp only []
    obtain ⟨hi, hhi⟩ : ∃ z, z = P / 18446744073709551616 := ⟨_, rfl⟩
    obtain ⟨lo, hlo⟩ : ∃ z, z = P % 18446744073709551616 := ⟨_, rfl⟩
    rw [← hhi, ← hlo]
    congr 2
    · by_cases hz : lo = 0
      · rw [if_neg (by omega)]; unfold wrap64; omega
      · rw [if_pos (by omega)]; unfold wrap64; omega
    · omega
  · have e : absC a = clp a := by unfold absC; rw [if_neg h]
    rw [e, decide_eq_false h, if_pos (by decide)]
    rw [e] at p0 p1
    generalize clp a * clp b = P at *
    congr 2
    exact w64 (by omega) (by omega)
theorem compare_eq {k : Nat} (an ad bn bd : Int) (hk : 5 < k) : wide_Compare.f k an ad bn bd = some (cmpC (clp an * mx (clp bd) 1) (clp bn * mx (clp ad) 1)) := by
  have h1 : ∀ x : Int, 1 ≤ mx x 1 := by intro x; unfold mx; split <;> omega
  have h2 : ∀ x : Int, clp (mx x 1) = mx (clp x) 1 := by intro x; unfold mx clp; (repeat' split) <;> omega
  unfold wide_Compare.f
  rw [product_eq _ _ (h1 bd) (by omega), Option.bind_some, product_eq _ _ (h1 ad) (by omega), Option.bind_some, h2, h2]
  obtain ⟨k, rfl⟩ : ∃ m, k = m + 1 := ⟨k - 1, by omega⟩
  generalize clp an * mx (clp bd) 1 = X
  generalize clp bn * mx (clp ad) 1 = Y
  unfold cmpC
  by_cases c1 : X / 18446744073709551616 < Y / 18446744073709551616
  · rw [if_pos c1, wide_Compare.j0, if_pos rfl, if_pos (by omega)]
  · rw [if_neg c1]
    by_cases c2 : X / 18446744073709551616 = Y / 18446744073709551616
    · rw [if_pos c2]
      by_cases c3 : X % 18446744073709551616 < Y % 18446744073709551616
      · rw [decide_eq_true c3, wide_Compare.j0, if_pos rfl, if_pos (by omega)]
      · rw [decide_eq_false c3, wide_Compare.j0, if_neg (by decide), if_neg (by omega)]
        by_cases c4 : X % 18446744073709551616 > Y % 18446744073709551616
        · rw [if_pos c4, if_neg (by omega), if_pos (by omega)]
        · rw [if_neg c4, if_neg (by omega), if_neg (by omega)]
    · rw [if_neg c2, wide_Compare.j0, if_neg (by decide), if_pos (by omega), if_neg (by omega), if_pos (by omega)]
theorem dV_lt (s : List Int) (h : ∀ d ∈ s, d = 0 ∨ d = 1) : 0 ≤ dV s ∧ dV s < 2 ^ s.length := by
  induction s with
  | nil => simp [dV]
  | cons d s ih =>
    have h1 := ih (fun x hx => h x (List.mem_cons_of_mem _ hx))
    have h2 := h d List.mem_cons_self
    rw [dV_cons, List.length_cons, Int.pow_succ]
    generalize (2 : Int) ^ s.length = p at *
    rcases h2 with rfl | rfl <;> omega
theorem rcmp_l0 (l m : List Int) (hl : l.length ≤ 1000) (he : m.length = l.length) (hl1 : ∀ d ∈ l, d = 0 ∨ d = 1) (hm1 : ∀ d ∈ m, d = 0 ∨ d = 1) (d : Nat) :
    ∀ (k : Nat) (i : Int), 0 ≤ i → i ≤ l.length → (l.length : Int) - i = d → d < k →
    clepsydraref02_Compare.l0 k l m (l.length : Int) i = some (cmpC (dV (l.drop i.toNat)) (dV (m.drop i.toNat))) := by
  induction d with
  | zero =>
    intro k i h0 h1 hd hk
    obtain ⟨k, rfl⟩ : ∃ m, k = m + 1 := ⟨k - 1, by omega⟩
    simp only [clepsydraref02_Compare.l0]
    rw [if_neg (by omega), List.drop_eq_nil_of_le (by omega), List.drop_eq_nil_of_le (by omega)]
    rfl
  | succ d ih =>
    intro k i h0 h1 hd hk
    obtain ⟨k, rfl⟩ : ∃ m, k = m + 1 := ⟨k - 1, by omega⟩
    have hlt : i < (l.length : Int) := by omega
    have hlt' : i < (m.length : Int) := by omega
    have ih' := ih k (i + 1) (by omega) (by omega) (by omega) (by omega)
    have mem : ∀ l : List Int, i < (l.length : Int) → rd l i ∈ l := by
      intro l hl
      have h : i.toNat < l.length := by omega
      simp only [rd, List.getD_eq_getElem?_getD, List.getElem?_eq_getElem h, Option.getD_some]
      exact List.getElem_mem h
    have x1 := hl1 _ (mem l hlt)
    have x2 := hm1 _ (mem m hlt')
    have b1 := dV_lt (l.drop (i + 1).toNat) (fun x hx => hl1 x (List.mem_of_mem_drop hx))
    have b2 := dV_lt (m.drop (i + 1).toNat) (fun x hx => hm1 x (List.mem_of_mem_drop hx))
    simp only [clepsydraref02_Compare.l0]
    rw [if_pos hlt, if_pos h0, if_pos hlt, if_pos hlt', rd_drop h0 hlt, rd_drop h0 hlt', dV_cons, dV_cons, w64 (n := i + 1) (by omega) (by omega), ih']
    have e : (m.drop (i + 1).toNat).length = (l.drop (i + 1).toNat).length := by rw [List.length_drop, List.length_drop, he]
    rw [e] at b2 ⊢
    generalize (2 : Int) ^ (l.drop (i + 1).toNat).length = p at *
    generalize dV (l.drop (i + 1).toNat) = u at *
    generalize dV (m.drop (i + 1).toNat) = v at *
    generalize rd l i = x at *
    generalize rd m i = y at *
    rcases x1 with rfl | rfl <;> rcases x2 with rfl | rfl
    · rw [if_pos rfl]; simp
    · rw [if_neg (by decide), w64 (by omega) (by omega)]; unfold cmpC; rw [if_pos (by omega)]; rfl
    · rw [if_neg (by decide), w64 (by omega) (by omega)]; unfold cmpC; rw [if_neg (by omega), if_pos (by omega)]; rfl
    · rw [if_pos rfl]; unfold cmpC
      congr 1
      split <;> split <;> (try split) <;> omega
theorem rcompare_eq {k : Nat} (an ad bn bd : Int) (hk : 160 < k) : clepsydraref02_Compare.f k an ad bn bd = some (cmpC (clp an * mx (clp bd) 1) (clp bn * mx (clp ad) 1)) := by
  have ga := mx1_b ad
  have gb := mx1_b bd
  have nn : ∀ (k : Nat) (x y : Int), 0 ≤ x → 0 ≤ y → x ≤ 2305843009213693952 → y ≤ 2305843009213693952 → 150 < k → clepsydraref02_Compare.j1 k x ad y bd false = some (cmpC (x * mx (clp bd) 1) (y * mx (clp ad) 1)) := by
    intro k x y x0 y0 x1 y1 hk
    obtain ⟨k, rfl⟩ : ∃ m, k = m + 1 := ⟨k - 1, by omega⟩
    obtain ⟨l, h1, h2, h3, h4⟩ := digits_eq x0 (by omega) x1 gb.2
    obtain ⟨m, g1, g2, g3, g4⟩ := digits_eq y0 (by omega) y1 ga.2
    simp only [clepsydraref02_Compare.j1]
    rw [if_neg (by decide), one_eq, Option.bind_some, h1, Option.bind_some, one_eq, Option.bind_some, g1, Option.bind_some]
    have h := rcmp_l0 l m (by omega) (by omega) h3 g3 128 k 0 (by omega) (by omega) (by omega) (by omega)
    rw [h, ← h4, ← g4]
    rfl
  have neg : ∀ x : Int, 0 ≤ x → ∀ z : Int, 0 ≤ x * mx (clp z) 1 := fun x hx z => Int.mul_nonneg hx (by have := mx1_b z; omega)
  have pos : ∀ x : Int, x < 0 → ∀ z : Int, x * mx (clp z) 1 < 0 := fun x hx z => Int.mul_neg_of_neg_of_pos hx (by have := mx1_b z; omega)
  have mixed : ∀ (k : Nat) (x y : Int), -2305843009213693952 ≤ x → -2305843009213693952 ≤ y → x ≤ 2305843009213693952 → y ≤ 2305843009213693952 → 155 < k → ¬ (x < 0 ∧ y < 0) → clepsydraref02_Compare.j0 k x ad y bd false = some (cmpC (x * mx (clp bd) 1) (y * mx (clp ad) 1)) := by
    intro k x y x0 y0 x1 y1 hk hn
    obtain ⟨k, rfl⟩ : ∃ m, k = m + 1 := ⟨k - 1, by omega⟩
    simp only [clepsydraref02_Compare.j0]
    rw [if_neg (by decide)]
    by_cases hx : x < 0
    · obtain ⟨k, rfl⟩ : ∃ m, k = m + 1 := ⟨k - 1, by omega⟩
      rw [if_pos hx]
      rw [clepsydraref02_Compare.j1, if_pos rfl, if_pos hx]
      have h1 := pos x hx bd
      have h2 := neg y (by omega) ad
      unfold cmpC; rw [if_pos (by omega)]
    · rw [if_neg hx]
      by_cases hy : y < 0
      · obtain ⟨k, rfl⟩ : ∃ m, k = m + 1 := ⟨k - 1, by omega⟩
        rw [decide_eq_true hy]
        rw [clepsydraref02_Compare.j1, if_pos rfl, if_neg hx]
        have h1 := pos y hy ad
        have h2 := neg x (by omega) bd
        unfold cmpC; rw [if_neg (by omega), if_pos (by omega)]
      · rw [decide_eq_false hy]
        exact nn k x y (by omega) (by omega) x1 y1 (by omega)
  have top : ∀ (k : Nat) (an bn : Int), 157 < k → ¬ (clp an < 0 ∧ clp bn < 0) → clepsydraref02_Compare.f k an ad bn bd = some (cmpC (clp an * mx (clp bd) 1) (clp bn * mx (clp ad) 1)) := by
    intro k an bn hk hn
    obtain ⟨k, rfl⟩ : ∃ m, k = m + 1 := ⟨k - 1, by omega⟩
    have ca := clp_b an
    have cb := clp_b bn
    have hm := mixed k (clp an) (clp bn) ca.1 cb.1 ca.2 cb.2 (by omega) hn
    simp only [clepsydraref02_Compare.f]
    rw [rclip_eq, Option.bind_some, rclip_eq, Option.bind_some]
    by_cases hx : clp an < 0
    · rw [if_pos hx, decide_eq_false (by omega)]; exact hm
    · rw [if_neg hx]; exact hm
  by_cases hn : clp an < 0 ∧ clp bn < 0
  · obtain ⟨k, rfl⟩ : ∃ m, k = m + 2 := ⟨k - 2, by omega⟩
    have ca := clp_b an
    have cb := clp_b bn
    have ht := top k (-clp an) (-clp bn) (by omega) (by rw [clp_neg, clp_neg, clp_id ca.1 ca.2, clp_id cb.1 cb.2]; omega)
    rw [clp_neg, clp_neg, clp_id ca.1 ca.2, clp_id cb.1 cb.2] at ht
    rw [clepsydraref02_Compare.f, rclip_eq, Option.bind_some, rclip_eq, Option.bind_some, if_pos hn.1, decide_eq_true hn.2]
    rw [clepsydraref02_Compare.j0, if_pos rfl, w64 (n := -clp an) (by omega) (by omega), w64 (n := -clp bn) (by omega) (by omega), ht, Option.bind_some, Int.neg_mul, Int.neg_mul]
    generalize clp an * mx (clp bd) 1 = X
    generalize clp bn * mx (clp ad) 1 = Y
    unfold cmpC
    congr 1
    rw [w64 (by (repeat' split) <;> omega) (by (repeat' split) <;> omega)]
    (repeat' split) <;> omega
  · exact top k an bn (by omega) hn

/-- The pure statement of the law. -/
def Pure : Prop := ∀ (a0_0 : Int) (a0_1 : Int) (a1_0 : Int) (a1_1 : Int), (Lit.int .i64 a0_0).wf = true → (Lit.int .i64 a0_1).wf = true → (Lit.int .i64 a1_0).wf = true → (Lit.int .i64 a1_1).wf = true → ∃ k, clepsydralaw02_WideCompares.f k a0_0 a0_1 a1_0 a1_1 = some true

theorem WideCompares : Pure := by
  intro an ad bn bd _ _ _ _
  refine ⟨200, ?_⟩
  unfold clepsydralaw02_WideCompares.f
  have e : cmpC (clp 1 * mx (clp 3) 1) (clp 2 * mx (clp 2) 1) = -1 := by decide
  rw [compare_eq 1 2 2 3 (by omega), Option.bind_some, e, if_pos rfl, compare_eq an ad bn bd (by omega), Option.bind_some, rcompare_eq an ad bn bd (by omega), Option.bind_some, if_pos rfl, compare_eq bn bd an ad (by omega), Option.bind_some, compare_eq an ad an ad (by omega), Option.bind_some]
  have e2 : cmpC (clp bn * mx (clp ad) 1) (clp an * mx (clp bd) 1) = wrap64 (-cmpC (clp an * mx (clp bd) 1) (clp bn * mx (clp ad) 1)) := by
    generalize clp an * mx (clp bd) 1 = X
    generalize clp bn * mx (clp ad) 1 = Y
    unfold cmpC
    rw [w64 (by (repeat' split) <;> omega) (by (repeat' split) <;> omega)]
    (repeat' split) <;> omega
  rw [if_pos e2]
  unfold cmpC
  rw [if_neg (by omega), if_neg (by omega)]
  rfl

end Go.Proofs.Ytidoeplhgckmaaa.VWideCompares
