/- Of a clock that is lost, or was never anchored, nothing is told, whatever else it holds; it is told as soon as it is anchored and near. -/
import Derived.Test.YtigkjbaclpklpaaQx19
import Derived.OpenShut
set_option linter.unusedVariables false
set_option linter.unusedSimpArgs false
namespace Go.Proofs.Ytigkjbaclpklpaa.VHealthBoots
open Go.RowKit Go.Proofs.Ytigkjbaclpklpaa.Q Go.Proofs.YtigkjbaclpklpaaW.PrintWords Go.Proofs.YtigkjbaclpklpaaW.PrintLast Go.Proofs.YtigkjbaclpklpaaW.PrintMore

theorem wb {n : Int} (h : (Lit.int .i64 n).wf = true) : -9223372036854775808 ≤ n ∧ n ≤ 9223372036854775807 := Go.bounds_i64 h
theorem w64 {n : Int} (h1 : -9223372036854775808 ≤ n) (h2 : n ≤ 9223372036854775807) : wrap64 n = n := by unfold wrap64; omega
def clp (x : Int) : Int := if x < -2305843009213693952 then -2305843009213693952 else if 2305843009213693952 < x then 2305843009213693952 else x
theorem clp_b (x : Int) : -2305843009213693952 ≤ clp x ∧ clp x ≤ 2305843009213693952 := by unfold clp; split <;> (try split) <;> omega
theorem clp_id {x : Int} (h1 : -2305843009213693952 ≤ x) (h2 : x ≤ 2305843009213693952) : clp x = x := by unfold clp; rw [if_neg (by omega), if_neg (by omega)]
theorem clp_neg (x : Int) : clp (-x) = -clp x := by unfold clp; split <;> (try split) <;> (try split) <;> (try split) <;> omega
def bnd (x lo hi : Int) : Int := if x < lo ∨ hi < lo then lo else if hi < x then hi else x
def addL (l : List Int) : Int := l.foldl (fun n x => clp (n + clp x)) 0
def sub (a b : Int) : Int := clp (clp a - clp b)
def absC (a : Int) : Int := if a < 0 then -clp a else clp a
theorem absC_b (x : Int) : 0 ≤ absC x ∧ absC x ≤ 2305843009213693952 := by have := clp_b x; unfold absC; unfold clp at *; split <;> omega
theorem add2 (a b : Int) : addL [a, b] = clp (clp a + clp b) := by
  have h := clp_b a
  simp only [addL, List.foldl_cons, List.foldl_nil, Int.zero_add]
  rw [clp_id h.1 h.2]
theorem add3 (a b c : Int) : addL [a, b, c] = clp (clp (clp a + clp b) + clp c) := by
  have h := clp_b a
  simp only [addL, List.foldl_cons, List.foldl_nil, Int.zero_add]
  rw [clp_id h.1 h.2]
theorem rd_drop {l : List Int} {i : Int} (h0 : 0 ≤ i) (h1 : i < (l.length : Int)) : l.drop i.toNat = rd l i :: l.drop (i + 1).toNat := by
  have h : i.toNat < l.length := by omega
  rw [List.drop_eq_getElem_cons h, show (i + 1).toNat = i.toNat + 1 from by omega]
  congr 1
  simp [rd, List.getD_eq_getElem?_getD, List.getElem?_eq_getElem h]
def mulC (a b : Int) : Int := clp (clp a * clp b)
theorem mulC_b (a b : Int) : -2305843009213693952 ≤ mulC a b ∧ mulC a b ≤ 2305843009213693952 := clp_b _
theorem sub_b (a b : Int) : -2305843009213693952 ≤ sub a b ∧ sub a b ≤ 2305843009213693952 := clp_b _
theorem addL_b (l : List Int) : -2305843009213693952 ≤ addL l ∧ addL l ≤ 2305843009213693952 := by
  unfold addL
  suffices h : ∀ (l : List Int) (n : Int), -2305843009213693952 ≤ n → n ≤ 2305843009213693952 → -2305843009213693952 ≤ l.foldl (fun n x => clp (n + clp x)) n ∧ l.foldl (fun n x => clp (n + clp x)) n ≤ 2305843009213693952 from h l 0 (by omega) (by omega)
  intro l
  induction l with
  | nil => intro n h1 h2; exact ⟨h1, h2⟩
  | cons x l ih => intro n _ _; exact ih _ (clp_b _).1 (clp_b _).2

theorem tz {x c : Int} (hc : 0 < c) : x.tmod c = 0 ↔ x % c = 0 := ⟨fun h => Int.emod_eq_zero_of_dvd (Int.dvd_of_tmod_eq_zero h), fun h => Int.tmod_eq_zero_of_dvd (Int.dvd_of_emod_eq_zero h)⟩

theorem bound_eq {k : Nat} (x lo hi : Int) (hk : 0 < k) : sat_Bound.f k x lo hi = some (bnd x lo hi) := by
  obtain ⟨k, rfl⟩ : ∃ m, k = m + 1 := ⟨k - 1, by omega⟩
  unfold sat_Bound.f bnd
  simp only [sat_Bound.j0]
  by_cases h1 : x < lo
  · simp [h1]
  · by_cases h2 : hi < lo
    · simp [h1, h2]
    · simp only [h1, h2, if_false, false_or, decide_false, if_neg]
      by_cases h3 : hi < x
      · simp [h3]
      · simp [h3]
theorem clip_eq {k : Nat} (x : Int) (hk : 0 < k) : sat_Clip.f k x = some (clp x) := by
  unfold sat_Clip.f
  rw [bound_eq x _ _ hk]
  simp only [Option.bind_some, bnd, clp]
  congr 1
  split <;> split <;> (try split) <;> omega

theorem neg_eq {k : Nat} (x : Int) (hk : 0 < k) : sat_Neg.f k x = some (-clp x) := by
  have h := clp_b x
  unfold sat_Neg.f
  rw [clip_eq x hk, Option.bind_some, w64 (by omega) (by omega)]

theorem abs_eq {k : Nat} (x : Int) (hk : 0 < k) : sat_Abs.f k x = some (absC x) := by
  unfold sat_Abs.f absC
  split
  · rw [neg_eq x hk]; rfl
  · rw [clip_eq x hk]; rfl

theorem add_l0 (l : List Int) (hl : l.length ≤ 4611686018427387904) (d : Nat) : ∀ (k : Nat) (n i : Int), -2305843009213693952 ≤ n → n ≤ 2305843009213693952 → 0 ≤ i → i ≤ l.length → (l.length : Int) - i = d → d + 1 < k →
    sat_Add.l0 k n l (l.length : Int) i = some ((l.drop i.toNat).foldl (fun n x => clp (n + clp x)) n) := by
  induction d with
  | zero =>
    intro k n i _ _ h0 h1 hd hk
    obtain ⟨k, rfl⟩ : ∃ m, k = m + 1 := ⟨k - 1, by omega⟩
    simp only [sat_Add.l0]
    rw [if_neg (by omega), List.drop_eq_nil_of_le (by omega)]
    rfl
  | succ d ih =>
    intro k n i n1 n2 h0 h1 hd hk
    obtain ⟨k, rfl⟩ : ∃ m, k = m + 1 := ⟨k - 1, by omega⟩
    have hlt : i < (l.length : Int) := by omega
    have hc := clp_b (rd l i)
    have hs := clp_b (n + clp (rd l i))
    simp only [sat_Add.l0]
    rw [if_pos hlt, if_pos h0, if_pos hlt, clip_eq _ (by omega), Option.bind_some, w64 (n := n + clp (rd l i)) (by omega) (by omega), clip_eq _ (by omega), Option.bind_some, w64 (n := i + 1) (by omega) (by omega)]
    rw [ih k _ (i + 1) hs.1 hs.2 (by omega) (by omega) (by omega) (by omega), rd_drop h0 hlt]
    rfl
theorem add_eq {k : Nat} (l : List Int) (hl : l.length ≤ 4611686018427387904) (hk : l.length + 1 < k) : sat_Add.f k l = some (addL l) := by
  unfold sat_Add.f
  rw [add_l0 l hl l.length k 0 0 (by omega) (by omega) (by omega) (by omega) (by omega) hk]
  rfl

theorem mul_eq {k : Nat} (a b : Int) (hk : 0 < k) : sat_Mul.f k a b = some (mulC a b) := by
  obtain ⟨k, rfl⟩ : ∃ m, k = m + 1 := ⟨k - 1, by omega⟩
  unfold sat_Mul.f
  rw [abs_eq a hk, Option.bind_some, abs_eq b hk, Option.bind_some]
  have hx := absC_b a
  have hy := absC_b b
  have ha : (a < 0 ∧ clp a = -absC a) ∨ (¬ a < 0 ∧ clp a = absC a) := by unfold absC; by_cases h : a < 0 <;> simp [h]
  have hb : (b < 0 ∧ clp b = -absC b) ∨ (¬ b < 0 ∧ clp b = absC b) := by unfold absC; by_cases h : b < 0 <;> simp [h]
  unfold mulC
  generalize absC a = x at *
  generalize absC b = y at *
  have hz : 0 ≤ x * y := Int.mul_nonneg hx.1 hy.1
  have key : ∀ (t : Bool), (t = true → x * y ≤ 2305843009213693952) → (t = false → 2305843009213693952 ≤ x * y) → sat_Mul.j0 (k + 1) a b x y 2305843009213693952 t = some (clp (clp a * clp b)) := by
    intro t h1 h2
    simp only [sat_Mul.j0]
    have e : clp a * clp b = x * y ∧ ((decide (a < 0)) != (decide (b < 0))) = false ∨ clp a * clp b = -(x * y) ∧ ((decide (a < 0)) != (decide (b < 0))) = true := by
      rcases ha with ⟨h3, h4⟩ | ⟨h3, h4⟩ <;> rcases hb with ⟨h5, h6⟩ | ⟨h5, h6⟩ <;> rw [h4, h6]
      · exact .inl ⟨Int.neg_mul_neg x y, by simp [h3, h5]⟩
      · exact .inr ⟨Int.neg_mul x y, by simp [h3, h5]⟩
      · exact .inr ⟨Int.mul_neg x y, by simp [h3, h5]⟩
      · exact .inl ⟨rfl, by simp [h3, h5]⟩
    have c1 : t = true → clp (x * y) = x * y := fun h => clp_id (by omega) (h1 h)
    have c2 : t = false → clp (x * y) = 2305843009213693952 := fun h => by have := h2 h; unfold clp; split <;> (try split) <;> omega
    rcases e with ⟨e1, e2⟩ | ⟨e1, e2⟩ <;> rw [e1, e2] <;> cases t <;> simp only [if_true, if_false, Bool.false_eq_true]
    · rw [c2 rfl]
    · rw [w64 (by omega) (by have := h1 rfl; omega), c1 rfl]
    · rw [clp_neg, c2 rfl, w64 (by omega) (by omega)]
    · rw [w64 (n := x * y) (by omega) (by have := h1 rfl; omega), w64 (by have := h1 rfl; omega) (by have := h1 rfl; omega), clp_neg, c1 rfl]
  by_cases h0 : x = 0
  · rw [if_pos h0]
    exact key true (fun _ => by rw [h0]; simp) (fun h => by cases h)
  · rw [if_neg h0]
    have hx0 : 0 < x := by omega
    have hq1 : 0 ≤ (2305843009213693952 : Int) / x := Int.ediv_nonneg (by omega) hx.1
    have hq2 : (2305843009213693952 : Int) / x ≤ 2305843009213693952 := Int.ediv_le_self _ (by omega)
    rw [w64 (by omega) (by omega)]
    have hiff : y ≤ (2305843009213693952 : Int) / x ↔ y * x ≤ 2305843009213693952 := Int.le_ediv_iff_mul_le hx0
    rw [Int.mul_comm y x] at hiff
    exact key _ (fun h => hiff.1 (of_decide_eq_true h)) (fun h => by have := of_decide_eq_false h; rw [hiff] at this; omega)

def maxL (l : List Int) : Int := l.foldl (fun n x => mx n (clp x)) (-2305843009213693952)
def minL (l : List Int) : Int := l.foldl (fun n x => mn n (clp x)) 2305843009213693952
theorem max_l0 (l : List Int) (hl : l.length ≤ 4611686018427387904) (d : Nat) : ∀ (k : Nat) (n i : Int), 0 ≤ i → i ≤ l.length → (l.length : Int) - i = d → d + 1 < k →
    sat_Max.l0 k n l (l.length : Int) i = some ((l.drop i.toNat).foldl (fun n x => mx n (clp x)) n) := by
  induction d with
  | zero =>
    intro k n i h0 h1 hd hk
    obtain ⟨k, rfl⟩ : ∃ m, k = m + 1 := ⟨k - 1, by omega⟩
    simp only [sat_Max.l0]
    rw [if_neg (by omega), List.drop_eq_nil_of_le (by omega)]
    rfl
  | succ d ih =>
    intro k n i h0 h1 hd hk
    obtain ⟨k, rfl⟩ : ∃ m, k = m + 1 := ⟨k - 1, by omega⟩
    have hlt : i < (l.length : Int) := by omega
    simp only [sat_Max.l0]
    rw [if_pos hlt, if_pos h0, if_pos hlt, clip_eq _ (by omega), Option.bind_some, w64 (n := i + 1) (by omega) (by omega)]
    rw [ih k _ (i + 1) (by omega) (by omega) (by omega) (by omega), rd_drop h0 hlt]
    rfl
theorem max_eq {k : Nat} (l : List Int) (hl : l.length ≤ 4611686018427387904) (hk : l.length + 1 < k) : sat_Max.f k l = some (maxL l) := by
  unfold sat_Max.f
  rw [max_l0 l hl l.length k _ 0 (by omega) (by omega) (by omega) hk]
  rfl

def hopV (rho jit : Int) : Int := addL [jit, mulC 2 rho]
def gateV (rho jit eps : Int) : Int := mulC 2 (addL [mulC 2 eps, hopV rho jit])
def widthV (rho jit eps held hops : Int) : Int := addL [gateV rho jit eps, mulC (mulC 2 rho) held, mulC (addL [hops, 1]) (hopV rho jit)]
theorem hop_eq {k : Nat} (p0 p1 p2 p3 rho p5 jit eps p8 p9 p10 p11 : Int) (hk : 5 < k) : limit_Hop.f k p0 p1 p2 p3 rho p5 jit eps p8 p9 p10 p11 = some (hopV rho jit) := by
  unfold limit_Hop.f
  rw [mul_eq _ _ (by omega), Option.bind_some, add_eq [_, _] (by simp) (by simp; omega), Option.bind_some]
  rfl
theorem gate_eq {k : Nat} (p0 p1 p2 p3 rho p5 jit eps p8 p9 p10 p11 : Int) (hk : 5 < k) : limit_Gate.f k p0 p1 p2 p3 rho p5 jit eps p8 p9 p10 p11 = some (gateV rho jit eps) := by
  unfold limit_Gate.f
  rw [mul_eq _ _ (by omega), Option.bind_some, hop_eq _ _ _ _ _ _ _ _ _ _ _ _ hk, Option.bind_some, add_eq [_, _] (by simp) (by simp; omega), Option.bind_some, mul_eq _ _ (by omega), Option.bind_some]
  rfl
theorem width_eq {k : Nat} (p0 p1 p2 p3 rho p5 jit eps p8 p9 p10 p11 held hops : Int) (hk : 5 < k) : limit_Width.f k p0 p1 p2 p3 rho p5 jit eps p8 p9 p10 p11 held hops = some (widthV rho jit eps held hops) := by
  unfold limit_Width.f
  rw [gate_eq _ _ _ _ _ _ _ _ _ _ _ _ hk, Option.bind_some, mul_eq _ _ (by omega), Option.bind_some, mul_eq _ _ (by omega), Option.bind_some, add_eq [_, _] (by simp) (by simp; omega), Option.bind_some, hop_eq _ _ _ _ _ _ _ _ _ _ _ _ hk, Option.bind_some, mul_eq _ _ (by omega), Option.bind_some, add_eq [_, _, _] (by simp) (by simp; omega), Option.bind_some]
  rfl

theorem of_eq {k : Nat} (a b : Int) (hk : 0 < k) : span_Of.f k a b = some (clp a, clp b) := by
  unfold span_Of.f
  rw [clip_eq a hk, Option.bind_some, clip_eq b hk, Option.bind_some]

abbrev LS := S42
theorem ltdrop {l : List LS} {i : Int} (h0 : 0 ≤ i) (h1 : i < (l.length : Int)) : l.drop i.toNat = rd_T42 l i :: l.drop (i + 1).toNat := by
  have h : i.toNat < l.length := by omega
  rw [List.drop_eq_getElem_cons h, show (i + 1).toNat = i.toNat + 1 from by omega]
  congr 1
  simp [rd_T42, List.getD_eq_getElem?_getD, List.getElem?_eq_getElem h]
def okE (first : Bool) (prev off : Int) (x : LS) : Bool := (decide (0 ≤ x.f0) && decide (x.f0 ≤ 1099511627776)) && ((decide (-32 ≤ x.f1) && decide (x.f1 ≤ 32)) && ((first || decide (prev + 86400 ≤ x.f0)) && (decide (x.f1 = off + 1) || decide (x.f1 = off - 1))))
def tabB (first : Bool) (prev off : Int) : List LS → Bool
  | [] => true
  | x :: xs => okE first prev off x && tabB false x.f0 x.f1 xs
theorem in_one {k : Nat} (a0 a1 x : Int) (hk : 2 < k) : wire_in.f k a0 a1 [x] = some (decide (a0 ≤ x) && decide (x ≤ a1)) := by
  obtain ⟨k, rfl⟩ : ∃ m, k = m + 2 := ⟨k - 2, by omega⟩
  simp only [wire_in.f, wire_in.l0, List.length_singleton]
  rw [if_pos (by decide), if_pos (by decide), if_pos (by decide)]
  have e : rd [x] 0 = x := rfl
  rw [e]
  by_cases h1 : x < a0
  · rw [if_pos h1, decide_eq_false (by omega)]; rfl
  · rw [if_neg h1, decide_eq_true (by omega)]
    by_cases h2 : x > a1
    · rw [if_pos h2, decide_eq_false (by omega)]; rfl
    · rw [if_neg h2, decide_eq_true (by omega), w64 (n := 0 + 1) (by omega) (by omega), if_neg (by decide)]; rfl
theorem wtab_l0 (l : List LS) (hl : l.length ≤ 4611686018427387904) (d : Nat) : ∀ (k : Nat) (i off : Int), 0 ≤ i → i ≤ l.length → i ≤ 32 → (l.length : Int) - i = d → d + 10 < k → -32 ≤ off → off ≤ 32 → (0 < i → 0 ≤ (rd_T42 l (i - 1)).f0 ∧ (rd_T42 l (i - 1)).f0 ≤ 1099511627776) →
    wire_Table.l0 k l off l (l.length : Int) i = some (tabB (decide (i = 0)) (rd_T42 l (i - 1)).f0 off (l.drop i.toNat) && decide (l.length ≤ 32)) := by
  induction d with
  | zero =>
    intro k i off h0 h1 h32 hd hk o1 o2 hp
    obtain ⟨k, rfl⟩ : ∃ m, k = m + 1 := ⟨k - 1, by omega⟩
    rw [wire_Table.l0, if_neg (by omega), List.drop_eq_nil_of_le (by omega), decide_eq_true (show l.length ≤ 32 by omega)]
    rfl
  | succ d ih =>
    intro k i off h0 h1 h32 hd hk o1 o2 hp
    obtain ⟨k, rfl⟩ : ∃ m, k = m + 1 := ⟨k - 1, by omega⟩
    have hlt : i < (l.length : Int) := by omega
    rw [wire_Table.l0, if_pos hlt, if_pos h0, if_pos hlt, ltdrop h0 hlt]
    by_cases h : i ≥ 32
    · rw [if_pos h, decide_eq_false (show ¬ l.length ≤ 32 by omega), Bool.and_false]
    rw [if_neg h, in_one _ _ _ (by omega), Option.bind_some, in_one _ _ _ (by omega)]
    have ih' := ih k (i + 1) (rd_T42 l i).f1 (by omega) (by omega) (by omega) (by omega) (by omega)
    rw [show i + 1 - 1 = i from by omega, decide_eq_false (show ¬ i + 1 = 0 by omega)] at ih'
    simp only [tabB]
    unfold okE
    generalize rd_T42 l i = x at *
    by_cases nb1 : ¬ (0 ≤ x.f0 ∧ x.f0 ≤ 1099511627776)
    · rw [show (decide (0 ≤ x.f0) && decide (x.f0 ≤ 1099511627776)) = false from by simp; omega, if_neg (by decide)]; rfl
    have b1 : 0 ≤ x.f0 ∧ x.f0 ≤ 1099511627776 := by omega
    clear nb1
    rw [show (decide (0 ≤ x.f0) && decide (x.f0 ≤ 1099511627776)) = true from by simp; omega, if_pos rfl, Option.bind_some, Bool.true_and]
    by_cases nb2 : ¬ (-32 ≤ x.f1 ∧ x.f1 ≤ 32)
    · rw [show (decide (-32 ≤ x.f1) && decide (x.f1 ≤ 32)) = false from by simp; omega, if_neg (by decide)]; rfl
    have b2 : -32 ≤ x.f1 ∧ x.f1 ≤ 32 := by omega
    clear nb2
    rw [show (decide (-32 ≤ x.f1) && decide (x.f1 ≤ 32)) = true from by simp; omega, if_pos rfl, Bool.true_and, w64 (n := i + 1) (by omega) (by omega), w64 (n := x.f1 - off) (by omega) (by omega)]
    have ih2 := ih' b2.1 b2.2 (fun _ => b1)
    rw [ih2]
    have last : (if x.f1 - off = 1 then some (tabB false x.f0 x.f1 (l.drop (i + 1).toNat) && decide (l.length ≤ 32)) else if x.f1 - off = -1 then some (tabB false x.f0 x.f1 (l.drop (i + 1).toNat) && decide (l.length ≤ 32)) else some false) = some ((decide (x.f1 = off + 1) || decide (x.f1 = off - 1)) && tabB false x.f0 x.f1 (l.drop (i + 1).toNat) && decide (l.length ≤ 32)) := by
      by_cases q1 : x.f1 - off = 1
      · rw [if_pos q1, decide_eq_true (show x.f1 = off + 1 by omega)]; simp
      · rw [if_neg q1, decide_eq_false (show ¬ x.f1 = off + 1 by omega)]
        by_cases q2 : x.f1 - off = -1
        · rw [if_pos q2, decide_eq_true (show x.f1 = off - 1 by omega)]; simp
        · rw [if_neg q2, decide_eq_false (show ¬ x.f1 = off - 1 by omega)]; simp
    by_cases c : i > 0
    · have hp' := hp (by omega)
      rw [if_pos c, w64 (n := i - 1) (by omega) (by omega), if_pos (by omega), if_pos (by omega), decide_eq_false (show ¬ i = 0 by omega), Bool.false_or]
      generalize rd_T42 l (i - 1) = p at *
      rw [w64 (n := x.f0 - p.f0) (by omega) (by omega)]
      by_cases q : x.f0 - p.f0 < 86400
      · rw [if_pos q, decide_eq_false (show ¬ p.f0 + 86400 ≤ x.f0 by omega)]; simp
      · rw [if_neg q, last, decide_eq_true (show p.f0 + 86400 ≤ x.f0 by omega), Bool.true_and]
    · rw [if_neg c, decide_eq_true (show i = 0 by omega), last, Bool.true_or, Bool.true_and]
def tableV (l : List LS) : Bool := tabB true 0 0 l && decide (l.length ≤ 32)
theorem tabB_prev (p q off : Int) (l : List LS) : tabB true p off l = tabB true q off l := by cases l <;> rfl
theorem wtab_eq {k : Nat} (l : List LS) (hl : l.length ≤ 256) (hk : 300 < k) : wire_Table.f k l = some (tableV l) := by
  unfold wire_Table.f tableV
  rw [wtab_l0 l (by omega) l.length k 0 0 (by omega) (by omega) (by omega) (by omega) (by omega) (by omega) (by omega) (by omega), show decide ((0 : Int) = 0) = true from rfl, tabB_prev _ 0]
  rfl

theorem ok_iff {first : Bool} {prev off : Int} {x : LS} (h : okE first prev off x = true) : 0 ≤ x.f0 ∧ x.f0 ≤ 1099511627776 ∧ -32 ≤ x.f1 ∧ x.f1 ≤ 32 ∧ (first = true ∨ prev + 86400 ≤ x.f0) ∧ (x.f1 = off + 1 ∨ x.f1 = off - 1) := by
  unfold okE at h
  simp only [Bool.and_eq_true, Bool.or_eq_true, decide_eq_true_eq] at h
  obtain ⟨⟨h1, h2⟩, ⟨h3, h4⟩, h5, h6⟩ := h
  exact ⟨h1, h2, h3, h4, h5, h6⟩
theorem tab_cons {first : Bool} {prev off : Int} {x : LS} {xs : List LS} (h : tabB first prev off (x :: xs) = true) : okE first prev off x = true ∧ tabB false x.f0 x.f1 xs = true := by
  simpa [tabB] using h
theorem tab_mem (l : List LS) : ∀ (first : Bool) (prev off : Int), tabB first prev off l = true → ∀ x ∈ l, 0 ≤ x.f0 ∧ x.f0 ≤ 1099511627776 ∧ -32 ≤ x.f1 ∧ x.f1 ≤ 32 := by
  induction l with
  | nil => intro _ _ _ _ x hx; cases hx
  | cons y ys ih =>
    intro first prev off h x hx
    have h2 := tab_cons h
    have h3 := ok_iff h2.1
    rcases List.mem_cons.mp hx with rfl | hx
    · exact ⟨h3.1, h3.2.1, h3.2.2.1, h3.2.2.2.1⟩
    · exact ih _ _ _ h2.2 x hx
theorem tab_gt (l : List LS) : ∀ (prev off : Int), tabB false prev off l = true → ∀ x ∈ l, prev + 86400 ≤ x.f0 := by
  induction l with
  | nil => intro _ _ _ x hx; cases hx
  | cons y ys ih =>
    intro prev off h x hx
    have h2 := tab_cons h
    have h3 := ok_iff h2.1
    rcases List.mem_cons.mp hx with rfl | hx
    · rcases h3.2.2.2.2.1 with h4 | h4
      · cases h4
      · exact h4
    · have := ih _ _ h2.2 x hx
      rcases h3.2.2.2.2.1 with h4 | h4
      · cases h4
      · omega
/-- The offset of a count; whether it is a second more. -/
def mid (x : LS) : Bool := decide ((x.f0 - x.f1) % 86400 = 0)
def goodV (l : List LS) : Bool := tableV l && l.all mid
theorem idx_any (l : List LS) : ∀ i : Int, 0 ≤ i → decide (leap_Good.idx l i ≥ 0) = l.any leap_Good.p := by
  induction l with
  | nil => intro i _; rfl
  | cons x xs ih =>
    intro i hi
    unfold leap_Good.idx
    by_cases h : leap_Good.p x = true
    · rw [if_pos h, List.any_cons, h, decide_eq_true (by omega)]; rfl
    · rw [if_neg h, ih (i + 1) (by omega), List.any_cons, show leap_Good.p x = false from by simpa using h]; rfl
theorem p_mid {x : LS} (h : 0 ≤ x.f0 ∧ x.f0 ≤ 1099511627776 ∧ -32 ≤ x.f1 ∧ x.f1 ≤ 32) : leap_Good.p x = !mid x := by
  unfold leap_Good.p mid
  rw [w64 (n := x.f0 - x.f1) (by omega) (by omega)]
  by_cases q : (x.f0 - x.f1) % 86400 = 0
  · rw [decide_eq_true q, (tz (by omega)).mpr q]; rfl
  · rw [decide_eq_false q]
    have : ¬ Int.tmod (x.f0 - x.f1) 86400 = 0 := fun h => q ((tz (by omega)).mp h)
    simpa using this
theorem good_eq {k : Nat} (l : List LS) (hl : l.length ≤ 256) (hk : 300 < k) : leap_Good.f k l = some (goodV l) := by
  unfold leap_Good.f goodV
  rw [wtab_eq l hl hk, Option.bind_some, idx_any l 0 (by omega)]
  by_cases h : tableV l = true
  · rw [h, Bool.true_and, Bool.true_and]
    congr 1
    have ht : tabB true 0 0 l = true := by unfold tableV at h; simp only [Bool.and_eq_true] at h; exact h.1
    have hm := tab_mem l _ _ _ ht
    clear h ht hl
    induction l with
    | nil => rfl
    | cons x xs ih =>
      rw [List.any_cons, List.all_cons, p_mid (hm x List.mem_cons_self)]
      have := ih (fun y hy => hm y (List.mem_cons_of_mem _ hy))
      rw [← this]
      cases mid x <;> simp
  · rw [show tableV l = false from by simpa using h]; rfl
theorem good_tab {l : List LS} (h : goodV l = true) : tabB true 0 0 l = true ∧ l.length ≤ 32 ∧ ∀ x ∈ l, (x.f0 - x.f1) % 86400 = 0 := by
  unfold goodV tableV at h
  simp only [Bool.and_eq_true, decide_eq_true_eq, List.all_eq_true] at h
  exact ⟨h.1.1, h.1.2, fun x hx => by have := h.2 x hx; unfold mid at this; simpa using this⟩

theorem in_eq (x lo hi : Int) : limit_in.f x lo hi = some (decide (lo ≤ x) && decide (x ≤ hi)) := by
  unfold limit_in.f
  by_cases h : lo ≤ x
  · rw [if_pos h, decide_eq_true h]; rfl
  · rw [if_neg h, decide_eq_false h]; rfl
def okN (n f d : Int) : Bool := (decide (1 ≤ n) && decide (n ≤ 16)) && ((decide (0 ≤ f) && decide (f ≤ wrap64 (Int.tdiv (wrap64 (n - 1)) 3))) && (decide (0 ≤ d) && decide (d ≤ 16)))
def okW (beat rho delay jit : Int) : Bool := (decide (1 ≤ beat) && decide (beat ≤ 1099511627776)) && ((decide (0 ≤ rho) && decide (rho ≤ wrap64 (Int.tdiv beat 8))) && ((decide (0 ≤ delay) && decide (delay ≤ wrap64 (Int.tdiv beat 2))) && (decide (0 ≤ jit) && decide (jit ≤ delay))))
def okR (d beat rho eps mu hold pulse sec : Int) : Bool := (decide (0 ≤ eps) && decide (eps ≤ 1099511627776)) && ((decide (wrap64 (rho + 1) ≤ mu) && decide (mu ≤ wrap64 (Int.tdiv beat 4))) && ((decide (wrap64 (d + 2) ≤ hold) && decide (hold ≤ 1048576)) && ((decide (1 ≤ pulse) && decide (pulse ≤ 1099511627776)) && (decide (1 ≤ sec) && decide (sec ≤ 1099511627776)))))
theorem check_eq {k : Nat} (n f d beat rho delay jit eps mu hold pulse sec : Int) (hk : 2 < k) :
    limit_Check.f k n f d beat rho delay jit eps mu hold pulse sec = some (if (okN n f d && (okW beat rho delay jit && okR d beat rho eps mu hold pulse sec)) = true then 0 else 1) := by
  obtain ⟨k, rfl⟩ : ∃ m, k = m + 2 := ⟨k - 2, by omega⟩
  have j1 : ∀ a b : Bool, limit_Check.j1 (k + 1) a b n f d beat rho delay jit eps mu hold pulse sec = some (if (a && (b && okR d beat rho eps mu hold pulse sec)) = true then 0 else 1) := by
    intro a b
    simp only [limit_Check.j1, in_eq, Option.bind_some]
    unfold okR
    generalize (decide (0 ≤ eps) && decide (eps ≤ 1099511627776)) = b1
    generalize (decide (wrap64 (rho + 1) ≤ mu) && decide (mu ≤ wrap64 (Int.tdiv beat 4))) = b2
    generalize (decide (wrap64 (d + 2) ≤ hold) && decide (hold ≤ 1048576)) = b3
    generalize (decide (1 ≤ pulse) && decide (pulse ≤ 1099511627776)) = b4
    generalize (decide (1 ≤ sec) && decide (sec ≤ 1099511627776)) = b5
    cases a <;> cases b <;> cases b1 <;> cases b2 <;> cases b3 <;> cases b4 <;> cases b5 <;> rfl
  have j0 : ∀ a : Bool, limit_Check.j0 (k + 2) a n f d beat rho delay jit eps mu hold pulse sec = some (if (a && (okW beat rho delay jit && okR d beat rho eps mu hold pulse sec)) = true then 0 else 1) := by
    intro a
    simp only [limit_Check.j0, in_eq, Option.bind_some, j1]
    unfold okW
    generalize (decide (1 ≤ beat) && decide (beat ≤ 1099511627776)) = b1
    generalize (decide (0 ≤ rho) && decide (rho ≤ wrap64 (Int.tdiv beat 8))) = b2
    generalize (decide (0 ≤ delay) && decide (delay ≤ wrap64 (Int.tdiv beat 2))) = b3
    generalize (decide (0 ≤ jit) && decide (jit ≤ delay)) = b4
    generalize okR d beat rho eps mu hold pulse sec = r
    cases a <;> cases b1 <;> cases b2 <;> cases b3 <;> cases b4 <;> cases r <;> rfl
  unfold limit_Check.f
  simp only [in_eq, Option.bind_some, j0]
  unfold okN
  generalize (decide (1 ≤ n) && decide (n ≤ 16)) = b1
  generalize (decide (0 ≤ f) && decide (f ≤ wrap64 (Int.tdiv (wrap64 (n - 1)) 3))) = b2
  generalize (decide (0 ≤ d) && decide (d ≤ 16)) = b3
  generalize (okW beat rho delay jit && okR d beat rho eps mu hold pulse sec) = r
  cases b1 <;> cases b2 <;> cases b3 <;> cases r <;> rfl
structure Ok (n f d beat rho delay jit eps mu hold pulse sec : Int) : Prop where
  n1 : 1 ≤ n
  n2 : n ≤ 16
  f1 : 0 ≤ f
  f2 : 3 * f + 1 ≤ n
  d1 : 0 ≤ d
  d2 : d ≤ 16
  b1 : 1 ≤ beat
  b2 : beat ≤ 1099511627776
  r1 : 0 ≤ rho
  r2 : 8 * rho ≤ beat
  y1 : 0 ≤ delay
  y2 : 2 * delay ≤ beat
  j1 : 0 ≤ jit
  j2 : jit ≤ delay
  e1 : 0 ≤ eps
  e2 : eps ≤ 1099511627776
  m1 : rho + 1 ≤ mu
  m2 : 4 * mu ≤ beat
  h1 : d + 2 ≤ hold
  h2 : hold ≤ 1048576
  p1 : 1 ≤ pulse
  p2 : pulse ≤ 1099511627776
  s1 : 1 ≤ sec
  s2 : sec ≤ 1099511627776
theorem ok_of {n f d beat rho delay jit eps mu hold pulse sec : Int} (h : (okN n f d && (okW beat rho delay jit && okR d beat rho eps mu hold pulse sec)) = true) : Ok n f d beat rho delay jit eps mu hold pulse sec := by
  simp only [okN, okW, okR, Bool.and_eq_true, decide_eq_true_eq] at h
  obtain ⟨⟨⟨a1, a2⟩, ⟨a3, a4⟩, a5, a6⟩, ⟨⟨c1, c2⟩, ⟨c3, c4⟩, ⟨c5, c6⟩, c7, c8⟩, ⟨g1, g2⟩, ⟨g3, g4⟩, ⟨g5, g6⟩, ⟨g7, g8⟩, g9, g10⟩ := h
  have t1 : Int.tdiv (wrap64 (n - 1)) 3 = (n - 1) / 3 := by rw [w64 (by omega) (by omega), Int.tdiv_eq_ediv_of_nonneg (by omega)]
  have t2 : Int.tdiv beat 8 = beat / 8 := Int.tdiv_eq_ediv_of_nonneg (by omega)
  have t3 : Int.tdiv beat 2 = beat / 2 := Int.tdiv_eq_ediv_of_nonneg (by omega)
  have t4 : Int.tdiv beat 4 = beat / 4 := Int.tdiv_eq_ediv_of_nonneg (by omega)
  rw [t1, w64 (by omega) (by omega)] at a4
  rw [t2, w64 (by omega) (by omega)] at c4
  rw [t3, w64 (by omega) (by omega)] at c6
  rw [w64 (by omega) (by omega)] at g3
  rw [t4, w64 (by omega) (by omega)] at g4
  rw [w64 (by omega) (by omega)] at g5
  exact ⟨a1, a2, a3, by omega, a5, a6, c1, c2, c3, by omega, c5, by omega, c7, c8, g1, g2, g3, by omega, g5, g6, g7, g8, g9, g10⟩
theorem check_cases {k : Nat} (n f d beat rho delay jit eps mu hold pulse sec : Int) (hk : 2 < k) :
    (limit_Check.f k n f d beat rho delay jit eps mu hold pulse sec = some 0 ∧ Ok n f d beat rho delay jit eps mu hold pulse sec) ∨ limit_Check.f k n f d beat rho delay jit eps mu hold pulse sec = some 1 := by
  rw [check_eq _ _ _ _ _ _ _ _ _ _ _ _ hk]
  by_cases h : (okN n f d && (okW beat rho delay jit && okR d beat rho eps mu hold pulse sec)) = true
  · exact .inl ⟨by rw [if_pos h], ok_of h⟩
  · exact .inr (by rw [if_neg h])

/-- The health of a state; how far a clock may be; whether a stamp can be. -/
def ofV (d hold hops held : Int) (set good : Bool) : Int := if good = true ∧ set = true ∧ hops ≤ d then (if held > hold then 2 else 1) else 0
def farV (d rho jit eps hold held : Int) : Int := mulC 2 (widthV rho jit eps (maxL [held, hold]) d)
def rightB (t n : Int) : Bool := decide (-2305843009213693952 ≤ t ∧ t ≤ 2305843009213693952 ∧ 0 ≤ n ∧ n ≤ 1073741824)
theorem of_hk {k : Nat} (p0 p1 d p3 p4 p5 p6 p7 p8 hold p10 p11 s0 s1 s2 : Int) (s3 : Bool) (s4 s5 : Int) (s6 : Bool) (sl : List LS) (s8 s9 s10 : Int) (hk : 0 < k) :
    health_Of.f k p0 p1 d p3 p4 p5 p6 p7 p8 hold p10 p11 s0 s1 s2 s3 s4 s5 s6 sl s8 s9 s10 = some (ofV d hold s5 s4 s3 s6) := by
  obtain ⟨k, rfl⟩ : ∃ m, k = m + 1 := ⟨k - 1, by omega⟩
  unfold health_Of.f ofV
  simp only [health_Of.j0]
  cases s6
  · simp
  · cases s3
    · simp
    · by_cases h : s5 > d
      · rw [if_pos rfl, if_pos rfl, decide_eq_true h, if_pos rfl, if_neg (by omega)]
      · have hc : true = true ∧ true = true ∧ s5 ≤ d := ⟨rfl, rfl, by omega⟩
        rw [if_pos rfl, if_pos rfl, decide_eq_false h, if_neg (by decide)]
        by_cases q : s4 > hold
        · rw [if_pos q, if_pos hc, if_pos q]
        · rw [if_neg q, if_pos hc, if_neg q]
theorem far_hk {k : Nat} (p0 p1 d p3 rho p5 jit eps p8 hold p10 p11 held : Int) (hk : 10 < k) :
    health_Far.f k p0 p1 d p3 rho p5 jit eps p8 hold p10 p11 held = some (farV d rho jit eps hold held) := by
  unfold health_Far.f farV
  rw [max_eq [_, _] (by simp) (by simp; omega), Option.bind_some, width_eq _ _ _ _ _ _ _ _ _ _ _ _ _ _ (by omega), Option.bind_some, mul_eq _ _ (by omega), Option.bind_some]
theorem right_hk (t n : Int) : hlc_Right.f t n = some (rightB t n) := by
  unfold hlc_Right.f rightB
  by_cases h1 : t ≥ -2305843009213693952
  · by_cases h2 : t ≤ 2305843009213693952
    · by_cases h3 : n ≥ 0
      · rw [if_pos h1, if_pos h2, if_pos h3]
        congr 1
        by_cases h4 : n ≤ 1073741824
        · rw [decide_eq_true h4, decide_eq_true ⟨by omega, h2, by omega, h4⟩]
        · rw [decide_eq_false h4, decide_eq_false (by omega)]
      · rw [if_pos h1, if_pos h2, if_neg h3, decide_eq_false (by omega)]
    · rw [if_pos h1, if_neg h2, decide_eq_false (by omega)]
  · rw [if_neg h1, decide_eq_false (by omega)]
/-- A state that can be, out of one that may hold whatever it likes. -/
def saneV (d s0 s1 s2 : Int) (s3 : Bool) (s4 s5 : Int) (s6 : Bool) (sl : List LS) (s8 s9 s10 : Int) : Int × Int × Int × Bool × Int × Int × Bool × List LS × Int × Int × Int :=
  (if clp s0 > clp s1 then -2305843009213693952 else clp s0, if clp s0 > clp s1 then 2305843009213693952 else clp s1, clp s2, s3, bnd s4 0 1073741824, bnd s5 0 (addL [d, 1]), if clp s0 > clp s1 then false else s6, if goodV sl = true then sl else [], if rightB s8 s9 = true then s8 else clp s2, if rightB s8 s9 = true then s9 else 0, bnd s10 0 2305843009213693952)
theorem sane_hk {k : Nat} (p0 p1 d p3 p4 p5 p6 p7 p8 p9 p10 p11 s0 s1 s2 : Int) (s3 : Bool) (s4 s5 : Int) (s6 : Bool) (sl : List LS) (s8 s9 s10 : Int) (hl : sl.length ≤ 256) (hk : 400 < k) :
    health_Sane.f k p0 p1 d p3 p4 p5 p6 p7 p8 p9 p10 p11 s0 s1 s2 s3 s4 s5 s6 sl s8 s9 s10 = some (saneV d s0 s1 s2 s3 s4 s5 s6 sl s8 s9 s10) := by
  unfold health_Sane.f
  rw [of_eq _ _ (by omega), Option.bind_some, span_Empty.f, Option.bind_some, clip_eq _ (by omega), Option.bind_some, bound_eq _ _ _ (by omega), Option.bind_some, add_eq [_, _] (by simp) (by simp; omega), Option.bind_some, bound_eq _ _ _ (by omega), Option.bind_some, bound_eq _ _ _ (by omega), Option.bind_some, slices_Clone.f, if_pos (by omega), Option.bind_some, good_eq sl hl (by omega), Option.bind_some, right_hk, Option.bind_some]
  simp only [saneV, decide_eq_true_eq]
theorem bnd_in {x lo hi : Int} (h : lo ≤ hi) : lo ≤ bnd x lo hi ∧ bnd x lo hi ≤ hi := by unfold bnd; split <;> (try split) <;> omega
theorem bnd_id {x lo hi : Int} (h1 : lo ≤ x) (h2 : x ≤ hi) : bnd x lo hi = x := by unfold bnd; rw [if_neg (by omega), if_neg (by omega)]
theorem bnd_low {x lo hi : Int} (h : hi < lo) : bnd x lo hi = lo := by unfold bnd; rw [if_pos (by omega)]

/-- The pure statement of the law. -/
def Pure : Prop := ∀ (a0_0 : Int) (a0_1 : Int) (a0_2 : Int) (a0_3 : Int) (a0_4 : Int) (a0_5 : Int) (a0_6 : Int) (a0_7 : Int) (a0_8 : Int) (a0_9 : Int) (a0_10 : Int) (a0_11 : Int) (a1_0 : Int) (a1_1 : Int) (a1_2 : Int) (a1_3 : Bool) (a1_4 : Int) (a1_5 : Int) (a1_6 : Bool) (l1_7 : List S42) (a1_8 : Int) (a1_9 : Int) (a1_10 : Int), (Lit.int .i64 a0_0).wf = true → (Lit.int .i64 a0_1).wf = true → (Lit.int .i64 a0_2).wf = true → (Lit.int .i64 a0_3).wf = true → (Lit.int .i64 a0_4).wf = true → (Lit.int .i64 a0_5).wf = true → (Lit.int .i64 a0_6).wf = true → (Lit.int .i64 a0_7).wf = true → (Lit.int .i64 a0_8).wf = true → (Lit.int .i64 a0_9).wf = true → (Lit.int .i64 a0_10).wf = true → (Lit.int .i64 a0_11).wf = true → (Lit.int .i64 a1_0).wf = true → (Lit.int .i64 a1_1).wf = true → (Lit.int .i64 a1_2).wf = true → (Lit.int .i64 a1_4).wf = true → (Lit.int .i64 a1_5).wf = true → (∀ x ∈ l1_7, (Lit.int .i64 x.f0).wf = true ∧ (Lit.int .i64 x.f1).wf = true) → (Lit.int .i64 a1_8).wf = true → (Lit.int .i64 a1_9).wf = true → (Lit.int .i64 a1_10).wf = true → ∃ k, clepsydralaw21_HealthBoots.f k a0_0 a0_1 a0_2 a0_3 a0_4 a0_5 a0_6 a0_7 a0_8 a0_9 a0_10 a0_11 a1_0 a1_1 a1_2 a1_3 a1_4 a1_5 a1_6 l1_7 a1_8 a1_9 a1_10 = some true

theorem HealthBoots : Pure := by
  intro p0 p1 d p3 rho p5 jit eps mu hold p10 p11 s0 s1 s2 s3 s4 s5 s6 sl s8 s9 s10 _ _ _ _ _ _ _ _ _ _ _ _ _ _ _ _ _ _ _ _ _
  refine ⟨3000, ?_⟩
  unfold clepsydralaw21_HealthBoots.f clepsydralaw21_long.f
  by_cases hl : (sl.length : Int) > 256
  · rw [if_pos hl, Option.bind_some, if_pos rfl]
  · rw [if_neg hl, decide_eq_false hl, Option.bind_some, if_neg (by decide)]
    rcases check_cases (k := 3000) p0 p1 d p3 rho p5 jit eps mu hold p10 p11 (by omega) with ⟨hc, ok⟩ | hc
    · have d1 := ok.d1
      have d2 := ok.d2
      rw [hc, Option.bind_some, if_neg (by decide), of_hk _ _ _ _ _ _ _ _ _ _ _ _ _ _ _ _ _ _ _ _ _ _ _ (by omega), Option.bind_some, of_hk _ _ _ _ _ _ _ _ _ _ _ _ _ _ _ _ _ _ _ _ _ _ _ (by omega), Option.bind_some, of_hk _ _ _ _ _ _ _ _ _ _ _ _ _ _ _ _ _ _ _ _ _ _ _ (by omega), Option.bind_some, w64 (by omega) (by omega)]
      have e1 : ofV d hold s5 s4 s3 false = 0 := by simp [ofV]
      have e2 : ofV d hold (d + 1) s4 s3 true = 0 := by unfold ofV; rw [if_neg (by omega)]
      have e3 : ofV d hold d hold true true = 1 := by simp [ofV]
      rw [e1, e2, e3]
      rfl
    · rw [hc, Option.bind_some, if_pos (by decide)]

end Go.Proofs.Ytigkjbaclpklpaa.VHealthBoots
