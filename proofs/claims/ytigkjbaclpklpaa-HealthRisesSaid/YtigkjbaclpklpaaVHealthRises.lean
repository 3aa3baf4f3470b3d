/- Behind Step, Stamp and Listen the stamp is later than it was, unless the state's life is one more; a clock that goes back makes it so. -/
import Derived.Test.YtigkjbaclpklpaaQx27
import Derived.OpenShut
set_option linter.unusedVariables false
set_option linter.unusedSimpArgs false
namespace Go.Proofs.Ytigkjbaclpklpaa.VHealthRises
open Go.RowKit Go.Proofs.Ytigkjbaclpklpaa.Q Go.Proofs.YtigkjbaclpklpaaW.PrintWords Go.Proofs.YtigkjbaclpklpaaW.PrintLast Go.Proofs.YtigkjbaclpklpaaW.PrintMore

theorem wb {n : Int} (h : (Lit.int .i64 n).wf = true) : -9223372036854775808 ≤ n ∧ n ≤ 9223372036854775807 := Go.bounds_i64 h
theorem w64 {n : Int} (h1 : -9223372036854775808 ≤ n) (h2 : n ≤ 9223372036854775807) : wrap64 n = n := by unfold wrap64; omega
def clp (x : Int) : Int := if x < -2305843009213693952 then -2305843009213693952 else if 2305843009213693952 < x then 2305843009213693952 else x
theorem clp_b (x : Int) : -2305843009213693952 ≤ clp x ∧ clp x ≤ 2305843009213693952 := by unfold clp; split <;> (try split) <;> omega
theorem clp_id {x : Int} (h1 : -2305843009213693952 ≤ x) (h2 : x ≤ 2305843009213693952) : clp x = x := by unfold clp; rw [if_neg (by omega), if_neg (by omega)]
theorem clp_neg (x : Int) : clp (-x) = -clp x := by unfold clp; split <;> (try split) <;> (try split) <;> (try split) <;> omega
def bnd (x lo hi : Int) : Int := if x < lo ∨ hi < lo then lo else if hi < x then hi else x
def addL (l : List Int) : Int := l.foldl (fun n x => clp (n + clp x)) 0
def sub (a b : Int) : Int := clp (clp a - clp b)
def absC (a : Int) : Int := if a < 0 then -clp a else clp a
theorem absC_b (x : Int) : 0 ≤ absC x ∧ absC x ≤ 2305843009213693952 := by have := clp_b x; unfold absC; unfold clp at *; split <;> omega
theorem add2 (a b : Int) : addL [a, b] = clp (clp a + clp b) := by
  have h := clp_b a
  simp only [addL, List.foldl_cons, List.foldl_nil, Int.zero_add]
  rw [clp_id h.1 h.2]
theorem add3 (a b c : Int) : addL [a, b, c] = clp (clp (clp a + clp b) + clp c) := by
  have h := clp_b a
  simp only [addL, List.foldl_cons, List.foldl_nil, Int.zero_add]
  rw [clp_id h.1 h.2]
theorem rd_drop {l : List Int} {i : Int} (h0 : 0 ≤ i) (h1 : i < (l.length : Int)) : l.drop i.toNat = rd l i :: l.drop (i + 1).toNat := by
  have h : i.toNat < l.length := by omega
  rw [List.drop_eq_getElem_cons h, show (i + 1).toNat = i.toNat + 1 from by omega]
  congr 1
  simp [rd, List.getD_eq_getElem?_getD, List.getElem?_eq_getElem h]
def mulC (a b : Int) : Int := clp (clp a * clp b)
theorem mulC_b (a b : Int) : -2305843009213693952 ≤ mulC a b ∧ mulC a b ≤ 2305843009213693952 := clp_b _
theorem sub_b (a b : Int) : -2305843009213693952 ≤ sub a b ∧ sub a b ≤ 2305843009213693952 := clp_b _
theorem addL_b (l : List Int) : -2305843009213693952 ≤ addL l ∧ addL l ≤ 2305843009213693952 := by
  unfold addL
  suffices h : ∀ (l : List Int) (n : Int), -2305843009213693952 ≤ n → n ≤ 2305843009213693952 → -2305843009213693952 ≤ l.foldl (fun n x => clp (n + clp x)) n ∧ l.foldl (fun n x => clp (n + clp x)) n ≤ 2305843009213693952 from h l 0 (by omega) (by omega)
  intro l
  induction l with
  | nil => intro n h1 h2; exact ⟨h1, h2⟩
  | cons x l ih => intro n _ _; exact ih _ (clp_b _).1 (clp_b _).2

theorem clp_le {x y : Int} (h : x ≤ y) (h2 : -2305843009213693952 ≤ y) : clp x ≤ y := by unfold clp; repeat' split
                                                                                         all_goals omega
theorem le_clp {x y : Int} (h : y ≤ x) (h2 : y ≤ 2305843009213693952) : y ≤ clp x := by unfold clp; repeat' split
                                                                                        all_goals omega
theorem clp_mono {x y : Int} (h : x ≤ y) : clp x ≤ clp y := by unfold clp; repeat' split
                                                               all_goals omega
theorem sub_small {a b : Int} (h1 : -2305843009213693952 ≤ a) (h2 : a ≤ 2305843009213693952) (h3 : -2305843009213693952 ≤ b) (h4 : b ≤ 2305843009213693952) (h5 : -2305843009213693952 ≤ a - b) (h6 : a - b ≤ 2305843009213693952) : sub a b = a - b := by
  unfold sub; rw [clp_id h1 h2, clp_id h3 h4, clp_id h5 h6]
theorem add2_small {a b : Int} (h1 : -2305843009213693952 ≤ a) (h2 : a ≤ 2305843009213693952) (h3 : -2305843009213693952 ≤ b) (h4 : b ≤ 2305843009213693952) (h5 : -2305843009213693952 ≤ a + b) (h6 : a + b ≤ 2305843009213693952) : addL [a, b] = a + b := by
  rw [add2, clp_id h1 h2, clp_id h3 h4, clp_id h5 h6]
theorem add3_small {a b c : Int} (h1 : -2305843009213693952 ≤ a) (h2 : a ≤ 2305843009213693952) (h3 : -2305843009213693952 ≤ b) (h4 : b ≤ 2305843009213693952) (h5 : -2305843009213693952 ≤ c) (h6 : c ≤ 2305843009213693952) (h7 : -2305843009213693952 ≤ a + b) (h8 : a + b ≤ 2305843009213693952) (h9 : -2305843009213693952 ≤ a + b + c) (h10 : a + b + c ≤ 2305843009213693952) : addL [a, b, c] = a + b + c := by
  rw [add3, clp_id h1 h2, clp_id h3 h4, clp_id h7 h8, clp_id h5 h6, clp_id h9 h10]

theorem tz {x c : Int} (hc : 0 < c) : x.tmod c = 0 ↔ x % c = 0 := ⟨fun h => Int.emod_eq_zero_of_dvd (Int.dvd_of_tmod_eq_zero h), fun h => Int.tmod_eq_zero_of_dvd (Int.dvd_of_emod_eq_zero h)⟩

theorem bound_eq {k : Nat} (x lo hi : Int) (hk : 0 < k) : sat_Bound.f k x lo hi = some (bnd x lo hi) := by
  obtain ⟨k, rfl⟩ : ∃ m, k = m + 1 := ⟨k - 1, by omega⟩
  unfold sat_Bound.f bnd
  simp only [sat_Bound.j0]
  by_cases h1 : x < lo
  · simp [h1]
  · by_cases h2 : hi < lo
    · simp [h1, h2]
    · simp only [h1, h2, if_false, false_or, decide_false, if_neg]
      by_cases h3 : hi < x
      · simp [h3]
      · simp [h3]
theorem clip_eq {k : Nat} (x : Int) (hk : 0 < k) : sat_Clip.f k x = some (clp x) := by
  unfold sat_Clip.f
  rw [bound_eq x _ _ hk]
  simp only [Option.bind_some, bnd, clp]
  congr 1
  split <;> split <;> (try split) <;> omega

theorem neg_eq {k : Nat} (x : Int) (hk : 0 < k) : sat_Neg.f k x = some (-clp x) := by
  have h := clp_b x
  unfold sat_Neg.f
  rw [clip_eq x hk, Option.bind_some, w64 (by omega) (by omega)]

theorem abs_eq {k : Nat} (x : Int) (hk : 0 < k) : sat_Abs.f k x = some (absC x) := by
  unfold sat_Abs.f absC
  split
  · rw [neg_eq x hk]; rfl
  · rw [clip_eq x hk]; rfl

theorem add_l0 (l : List Int) (hl : l.length ≤ 4611686018427387904) (d : Nat) : ∀ (k : Nat) (n i : Int), -2305843009213693952 ≤ n → n ≤ 2305843009213693952 → 0 ≤ i → i ≤ l.length → (l.length : Int) - i = d → d + 1 < k →
    sat_Add.l0 k n l (l.length : Int) i = some ((l.drop i.toNat).foldl (fun n x => clp (n + clp x)) n) := by
  induction d with
  | zero =>
    intro k n i _ _ h0 h1 hd hk
    obtain ⟨k, rfl⟩ : ∃ m, k = m + 1 := ⟨k - 1, by omega⟩
    simp only [sat_Add.l0]
    rw [if_neg (by omega), List.drop_eq_nil_of_le (by omega)]
    rfl
  | succ d ih =>
    intro k n i n1 n2 h0 h1 hd hk
    obtain ⟨k, rfl⟩ : ∃ m, k = m + 1 := ⟨k - 1, by omega⟩
    have hlt : i < (l.length : Int) := by omega
    have hc := clp_b (rd l i)
    have hs := clp_b (n + clp (rd l i))
    simp only [sat_Add.l0]
    rw [if_pos hlt, if_pos h0, if_pos hlt, clip_eq _ (by omega), Option.bind_some, w64 (n := n + clp (rd l i)) (by omega) (by omega), clip_eq _ (by omega), Option.bind_some, w64 (n := i + 1) (by omega) (by omega)]
    rw [ih k _ (i + 1) hs.1 hs.2 (by omega) (by omega) (by omega) (by omega), rd_drop h0 hlt]
    rfl
theorem add_eq {k : Nat} (l : List Int) (hl : l.length ≤ 4611686018427387904) (hk : l.length + 1 < k) : sat_Add.f k l = some (addL l) := by
  unfold sat_Add.f
  rw [add_l0 l hl l.length k 0 0 (by omega) (by omega) (by omega) (by omega) (by omega) hk]
  rfl

theorem sub_eq {k : Nat} (a b : Int) (hk : 0 < k) : sat_Sub.f k a b = some (sub a b) := by
  have h := clp_b a
  have h' := clp_b b
  unfold sat_Sub.f sub
  rw [clip_eq a hk, Option.bind_some, clip_eq b hk, Option.bind_some, w64 (by omega) (by omega), clip_eq _ hk, Option.bind_some]

theorem mul_eq {k : Nat} (a b : Int) (hk : 0 < k) : sat_Mul.f k a b = some (mulC a b) := by
  obtain ⟨k, rfl⟩ : ∃ m, k = m + 1 := ⟨k - 1, by omega⟩
  unfold sat_Mul.f
  rw [abs_eq a hk, Option.bind_some, abs_eq b hk, Option.bind_some]
  have hx := absC_b a
  have hy := absC_b b
  have ha : (a < 0 ∧ clp a = -absC a) ∨ (¬ a < 0 ∧ clp a = absC a) := by unfold absC; by_cases h : a < 0 <;> simp [h]
  have hb : (b < 0 ∧ clp b = -absC b) ∨ (¬ b < 0 ∧ clp b = absC b) := by unfold absC; by_cases h : b < 0 <;> simp [h]
  unfold mulC
  generalize absC a = x at *
  generalize absC b = y at *
  have hz : 0 ≤ x * y := Int.mul_nonneg hx.1 hy.1
  have key : ∀ (t : Bool), (t = true → x * y ≤ 2305843009213693952) → (t = false → 2305843009213693952 ≤ x * y) → sat_Mul.j0 (k + 1) a b x y 2305843009213693952 t = some (clp (clp a * clp b)) := by
    intro t h1 h2
    simp only [sat_Mul.j0]
    have e : clp a * clp b = x * y ∧ ((decide (a < 0)) != (decide (b < 0))) = false ∨ clp a * clp b = -(x * y) ∧ ((decide (a < 0)) != (decide (b < 0))) = true := by
      rcases ha with ⟨h3, h4⟩ | ⟨h3, h4⟩ <;> rcases hb with ⟨h5, h6⟩ | ⟨h5, h6⟩ <;> rw [h4, h6]
      · exact .inl ⟨Int.neg_mul_neg x y, by simp [h3, h5]⟩
      · exact .inr ⟨Int.neg_mul x y, by simp [h3, h5]⟩
      · exact .inr ⟨Int.mul_neg x y, by simp [h3, h5]⟩
      · exact .inl ⟨rfl, by simp [h3, h5]⟩
    have c1 : t = true → clp (x * y) = x * y := fun h => clp_id (by omega) (h1 h)
    have c2 : t = false → clp (x * y) = 2305843009213693952 := fun h => by have := h2 h; unfold clp; split <;> (try split) <;> omega
    rcases e with ⟨e1, e2⟩ | ⟨e1, e2⟩ <;> rw [e1, e2] <;> cases t <;> simp only [if_true, if_false, Bool.false_eq_true]
    · rw [c2 rfl]
    · rw [w64 (by omega) (by have := h1 rfl; omega), c1 rfl]
    · rw [clp_neg, c2 rfl, w64 (by omega) (by omega)]
    · rw [w64 (n := x * y) (by omega) (by have := h1 rfl; omega), w64 (by have := h1 rfl; omega) (by have := h1 rfl; omega), clp_neg, c1 rfl]
  by_cases h0 : x = 0
  · rw [if_pos h0]
    exact key true (fun _ => by rw [h0]; simp) (fun h => by cases h)
  · rw [if_neg h0]
    have hx0 : 0 < x := by omega
    have hq1 : 0 ≤ (2305843009213693952 : Int) / x := Int.ediv_nonneg (by omega) hx.1
    have hq2 : (2305843009213693952 : Int) / x ≤ 2305843009213693952 := Int.ediv_le_self _ (by omega)
    rw [w64 (by omega) (by omega)]
    have hiff : y ≤ (2305843009213693952 : Int) / x ↔ y * x ≤ 2305843009213693952 := Int.le_ediv_iff_mul_le hx0
    rw [Int.mul_comm y x] at hiff
    exact key _ (fun h => hiff.1 (of_decide_eq_true h)) (fun h => by have := of_decide_eq_false h; rw [hiff] at this; omega)

def maxL (l : List Int) : Int := l.foldl (fun n x => mx n (clp x)) (-2305843009213693952)
def minL (l : List Int) : Int := l.foldl (fun n x => mn n (clp x)) 2305843009213693952
theorem max_l0 (l : List Int) (hl : l.length ≤ 4611686018427387904) (d : Nat) : ∀ (k : Nat) (n i : Int), 0 ≤ i → i ≤ l.length → (l.length : Int) - i = d → d + 1 < k →
    sat_Max.l0 k n l (l.length : Int) i = some ((l.drop i.toNat).foldl (fun n x => mx n (clp x)) n) := by
  induction d with
  | zero =>
    intro k n i h0 h1 hd hk
    obtain ⟨k, rfl⟩ : ∃ m, k = m + 1 := ⟨k - 1, by omega⟩
    simp only [sat_Max.l0]
    rw [if_neg (by omega), List.drop_eq_nil_of_le (by omega)]
    rfl
  | succ d ih =>
    intro k n i h0 h1 hd hk
    obtain ⟨k, rfl⟩ : ∃ m, k = m + 1 := ⟨k - 1, by omega⟩
    have hlt : i < (l.length : Int) := by omega
    simp only [sat_Max.l0]
    rw [if_pos hlt, if_pos h0, if_pos hlt, clip_eq _ (by omega), Option.bind_some, w64 (n := i + 1) (by omega) (by omega)]
    rw [ih k _ (i + 1) (by omega) (by omega) (by omega) (by omega), rd_drop h0 hlt]
    rfl
theorem max_eq {k : Nat} (l : List Int) (hl : l.length ≤ 4611686018427387904) (hk : l.length + 1 < k) : sat_Max.f k l = some (maxL l) := by
  unfold sat_Max.f
  rw [max_l0 l hl l.length k _ 0 (by omega) (by omega) (by omega) hk]
  rfl

def hopV (rho jit : Int) : Int := addL [jit, mulC 2 rho]
def gateV (rho jit eps : Int) : Int := mulC 2 (addL [mulC 2 eps, hopV rho jit])
def widthV (rho jit eps held hops : Int) : Int := addL [gateV rho jit eps, mulC (mulC 2 rho) held, mulC (addL [hops, 1]) (hopV rho jit)]
theorem hop_eq {k : Nat} (p0 p1 p2 p3 rho p5 jit eps p8 p9 p10 p11 : Int) (hk : 5 < k) : limit_Hop.f k p0 p1 p2 p3 rho p5 jit eps p8 p9 p10 p11 = some (hopV rho jit) := by
  unfold limit_Hop.f
  rw [mul_eq _ _ (by omega), Option.bind_some, add_eq [_, _] (by simp) (by simp; omega), Option.bind_some]
  rfl
theorem gate_eq {k : Nat} (p0 p1 p2 p3 rho p5 jit eps p8 p9 p10 p11 : Int) (hk : 5 < k) : limit_Gate.f k p0 p1 p2 p3 rho p5 jit eps p8 p9 p10 p11 = some (gateV rho jit eps) := by
  unfold limit_Gate.f
  rw [mul_eq _ _ (by omega), Option.bind_some, hop_eq _ _ _ _ _ _ _ _ _ _ _ _ hk, Option.bind_some, add_eq [_, _] (by simp) (by simp; omega), Option.bind_some, mul_eq _ _ (by omega), Option.bind_some]
  rfl
theorem width_eq {k : Nat} (p0 p1 p2 p3 rho p5 jit eps p8 p9 p10 p11 held hops : Int) (hk : 5 < k) : limit_Width.f k p0 p1 p2 p3 rho p5 jit eps p8 p9 p10 p11 held hops = some (widthV rho jit eps held hops) := by
  unfold limit_Width.f
  rw [gate_eq _ _ _ _ _ _ _ _ _ _ _ _ hk, Option.bind_some, mul_eq _ _ (by omega), Option.bind_some, mul_eq _ _ (by omega), Option.bind_some, add_eq [_, _] (by simp) (by simp; omega), Option.bind_some, hop_eq _ _ _ _ _ _ _ _ _ _ _ _ hk, Option.bind_some, mul_eq _ _ (by omega), Option.bind_some, add_eq [_, _, _] (by simp) (by simp; omega), Option.bind_some]
  rfl

theorem of_eq {k : Nat} (a b : Int) (hk : 0 < k) : span_Of.f k a b = some (clp a, clp b) := by
  unfold span_Of.f
  rw [clip_eq a hk, Option.bind_some, clip_eq b hk, Option.bind_some]

def midC (a b : Int) : Int := (clp a + clp b) / 2
theorem mid_eq {k : Nat} (a b : Int) (hk : 0 < k) : span_Mid.f k a b = some (midC a b) := by
  have h := clp_b a
  have h' := clp_b b
  unfold span_Mid.f
  rw [clip_eq a hk, Option.bind_some, clip_eq b hk, Option.bind_some, w64 (by omega) (by omega)]
  rfl

abbrev LS := S42
theorem ltdrop {l : List LS} {i : Int} (h0 : 0 ≤ i) (h1 : i < (l.length : Int)) : l.drop i.toNat = rd_T42 l i :: l.drop (i + 1).toNat := by
  have h : i.toNat < l.length := by omega
  rw [List.drop_eq_getElem_cons h, show (i + 1).toNat = i.toNat + 1 from by omega]
  congr 1
  simp [rd_T42, List.getD_eq_getElem?_getD, List.getElem?_eq_getElem h]
def okE (first : Bool) (prev off : Int) (x : LS) : Bool := (decide (0 ≤ x.f0) && decide (x.f0 ≤ 1099511627776)) && ((decide (-32 ≤ x.f1) && decide (x.f1 ≤ 32)) && ((first || decide (prev + 86400 ≤ x.f0)) && (decide (x.f1 = off + 1) || decide (x.f1 = off - 1))))
def tabB (first : Bool) (prev off : Int) : List LS → Bool
  | [] => true
  | x :: xs => okE first prev off x && tabB false x.f0 x.f1 xs
theorem in_one {k : Nat} (a0 a1 x : Int) (hk : 2 < k) : wire_in.f k a0 a1 [x] = some (decide (a0 ≤ x) && decide (x ≤ a1)) := by
  obtain ⟨k, rfl⟩ : ∃ m, k = m + 2 := ⟨k - 2, by omega⟩
  simp only [wire_in.f, wire_in.l0, List.length_singleton]
  rw [if_pos (by decide), if_pos (by decide), if_pos (by decide)]
  have e : rd [x] 0 = x := rfl
  rw [e]
  by_cases h1 : x < a0
  · rw [if_pos h1, decide_eq_false (by omega)]; rfl
  · rw [if_neg h1, decide_eq_true (by omega)]
    by_cases h2 : x > a1
    · rw [if_pos h2, decide_eq_false (by omega)]; rfl
    · rw [if_neg h2, decide_eq_true (by omega), w64 (n := 0 + 1) (by omega) (by omega), if_neg (by decide)]; rfl
theorem wtab_l0 (l : List LS) (hl : l.length ≤ 4611686018427387904) (d : Nat) : ∀ (k : Nat) (i off : Int), 0 ≤ i → i ≤ l.length → i ≤ 32 → (l.length : Int) - i = d → d + 10 < k → -32 ≤ off → off ≤ 32 → (0 < i → 0 ≤ (rd_T42 l (i - 1)).f0 ∧ (rd_T42 l (i - 1)).f0 ≤ 1099511627776) →
    wire_Table.l0 k l off l (l.length : Int) i = some (tabB (decide (i = 0)) (rd_T42 l (i - 1)).f0 off (l.drop i.toNat) && decide (l.length ≤ 32)) := by
  induction d with
  | zero =>
    intro k i off h0 h1 h32 hd hk o1 o2 hp
    obtain ⟨k, rfl⟩ : ∃ m, k = m + 1 := ⟨k - 1, by omega⟩
    rw [wire_Table.l0, if_neg (by omega), List.drop_eq_nil_of_le (by omega), decide_eq_true (show l.length ≤ 32 by omega)]
    rfl
  | succ d ih =>
    intro k i off h0 h1 h32 hd hk o1 o2 hp
    obtain ⟨k, rfl⟩ : ∃ m, k = m + 1 := ⟨k - 1, by omega⟩
    have hlt : i < (l.length : Int) := by omega
    rw [wire_Table.l0, if_pos hlt, if_pos h0, if_pos hlt, ltdrop h0 hlt]
    by_cases h : i ≥ 32
    · rw [if_pos h, decide_eq_false (show ¬ l.length ≤ 32 by omega), Bool.and_false]
    rw [if_neg h, in_one _ _ _ (by omega), Option.bind_some, in_one _ _ _ (by omega)]
    have ih' := ih k (i + 1) (rd_T42 l i).f1 (by omega) (by omega) (by omega) (by omega) (by omega)
    rw [show i + 1 - 1 = i from by omega, decide_eq_false (show ¬ i + 1 = 0 by omega)] at ih'
    simp only [tabB]
    unfold okE
    generalize rd_T42 l i = x at *
    by_cases nb1 : ¬ (0 ≤ x.f0 ∧ x.f0 ≤ 1099511627776)
    · rw [show (decide (0 ≤ x.f0) && decide (x.f0 ≤ 1099511627776)) = false from by simp; omega, if_neg (by decide)]; rfl
    have b1 : 0 ≤ x.f0 ∧ x.f0 ≤ 1099511627776 := by omega
    clear nb1
    rw [show (decide (0 ≤ x.f0) && decide (x.f0 ≤ 1099511627776)) = true from by simp; omega, if_pos rfl, Option.bind_some, Bool.true_and]
    by_cases nb2 : ¬ (-32 ≤ x.f1 ∧ x.f1 ≤ 32)
    · rw [show (decide (-32 ≤ x.f1) && decide (x.f1 ≤ 32)) = false from by simp; omega, if_neg (by decide)]; rfl
    have b2 : -32 ≤ x.f1 ∧ x.f1 ≤ 32 := by omega
    clear nb2
    rw [show (decide (-32 ≤ x.f1) && decide (x.f1 ≤ 32)) = true from by simp; omega, if_pos rfl, Bool.true_and, w64 (n := i + 1) (by omega) (by omega), w64 (n := x.f1 - off) (by omega) (by omega)]
    have ih2 := ih' b2.1 b2.2 (fun _ => b1)
    rw [ih2]
    have last : (if x.f1 - off = 1 then some (tabB false x.f0 x.f1 (l.drop (i + 1).toNat) && decide (l.length ≤ 32)) else if x.f1 - off = -1 then some (tabB false x.f0 x.f1 (l.drop (i + 1).toNat) && decide (l.length ≤ 32)) else some false) = some ((decide (x.f1 = off + 1) || decide (x.f1 = off - 1)) && tabB false x.f0 x.f1 (l.drop (i + 1).toNat) && decide (l.length ≤ 32)) := by
      by_cases q1 : x.f1 - off = 1
      · rw [if_pos q1, decide_eq_true (show x.f1 = off + 1 by omega)]; simp
      · rw [if_neg q1, decide_eq_false (show ¬ x.f1 = off + 1 by omega)]
        by_cases q2 : x.f1 - off = -1
        · rw [if_pos q2, decide_eq_true (show x.f1 = off - 1 by omega)]; simp
        · rw [if_neg q2, decide_eq_false (show ¬ x.f1 = off - 1 by omega)]; simp
    by_cases c : i > 0
    · have hp' := hp (by omega)
      rw [if_pos c, w64 (n := i - 1) (by omega) (by omega), if_pos (by omega), if_pos (by omega), decide_eq_false (show ¬ i = 0 by omega), Bool.false_or]
      generalize rd_T42 l (i - 1) = p at *
      rw [w64 (n := x.f0 - p.f0) (by omega) (by omega)]
      by_cases q : x.f0 - p.f0 < 86400
      · rw [if_pos q, decide_eq_false (show ¬ p.f0 + 86400 ≤ x.f0 by omega)]; simp
      · rw [if_neg q, last, decide_eq_true (show p.f0 + 86400 ≤ x.f0 by omega), Bool.true_and]
    · rw [if_neg c, decide_eq_true (show i = 0 by omega), last, Bool.true_or, Bool.true_and]
def tableV (l : List LS) : Bool := tabB true 0 0 l && decide (l.length ≤ 32)
theorem tabB_prev (p q off : Int) (l : List LS) : tabB true p off l = tabB true q off l := by cases l <;> rfl
theorem wtab_eq {k : Nat} (l : List LS) (hl : l.length ≤ 256) (hk : 300 < k) : wire_Table.f k l = some (tableV l) := by
  unfold wire_Table.f tableV
  rw [wtab_l0 l (by omega) l.length k 0 0 (by omega) (by omega) (by omega) (by omega) (by omega) (by omega) (by omega) (by omega), show decide ((0 : Int) = 0) = true from rfl, tabB_prev _ 0]
  rfl

theorem ok_iff {first : Bool} {prev off : Int} {x : LS} (h : okE first prev off x = true) : 0 ≤ x.f0 ∧ x.f0 ≤ 1099511627776 ∧ -32 ≤ x.f1 ∧ x.f1 ≤ 32 ∧ (first = true ∨ prev + 86400 ≤ x.f0) ∧ (x.f1 = off + 1 ∨ x.f1 = off - 1) := by
  unfold okE at h
  simp only [Bool.and_eq_true, Bool.or_eq_true, decide_eq_true_eq] at h
  obtain ⟨⟨h1, h2⟩, ⟨h3, h4⟩, h5, h6⟩ := h
  exact ⟨h1, h2, h3, h4, h5, h6⟩
theorem tab_cons {first : Bool} {prev off : Int} {x : LS} {xs : List LS} (h : tabB first prev off (x :: xs) = true) : okE first prev off x = true ∧ tabB false x.f0 x.f1 xs = true := by
  simpa [tabB] using h
theorem tab_mem (l : List LS) : ∀ (first : Bool) (prev off : Int), tabB first prev off l = true → ∀ x ∈ l, 0 ≤ x.f0 ∧ x.f0 ≤ 1099511627776 ∧ -32 ≤ x.f1 ∧ x.f1 ≤ 32 := by
  induction l with
  | nil => intro _ _ _ _ x hx; cases hx
  | cons y ys ih =>
    intro first prev off h x hx
    have h2 := tab_cons h
    have h3 := ok_iff h2.1
    rcases List.mem_cons.mp hx with rfl | hx
    · exact ⟨h3.1, h3.2.1, h3.2.2.1, h3.2.2.2.1⟩
    · exact ih _ _ _ h2.2 x hx
theorem tab_gt (l : List LS) : ∀ (prev off : Int), tabB false prev off l = true → ∀ x ∈ l, prev + 86400 ≤ x.f0 := by
  induction l with
  | nil => intro _ _ _ x hx; cases hx
  | cons y ys ih =>
    intro prev off h x hx
    have h2 := tab_cons h
    have h3 := ok_iff h2.1
    rcases List.mem_cons.mp hx with rfl | hx
    · rcases h3.2.2.2.2.1 with h4 | h4
      · cases h4
      · exact h4
    · have := ih _ _ h2.2 x hx
      rcases h3.2.2.2.2.1 with h4 | h4
      · cases h4
      · omega
/-- The offset of a count; whether it is a second more. -/
def mid (x : LS) : Bool := decide ((x.f0 - x.f1) % 86400 = 0)
def goodV (l : List LS) : Bool := tableV l && l.all mid
theorem idx_any (l : List LS) : ∀ i : Int, 0 ≤ i → decide (leap_Good.idx l i ≥ 0) = l.any leap_Good.p := by
  induction l with
  | nil => intro i _; rfl
  | cons x xs ih =>
    intro i hi
    unfold leap_Good.idx
    by_cases h : leap_Good.p x = true
    · rw [if_pos h, List.any_cons, h, decide_eq_true (by omega)]; rfl
    · rw [if_neg h, ih (i + 1) (by omega), List.any_cons, show leap_Good.p x = false from by simpa using h]; rfl
theorem p_mid {x : LS} (h : 0 ≤ x.f0 ∧ x.f0 ≤ 1099511627776 ∧ -32 ≤ x.f1 ∧ x.f1 ≤ 32) : leap_Good.p x = !mid x := by
  unfold leap_Good.p mid
  rw [w64 (n := x.f0 - x.f1) (by omega) (by omega)]
  by_cases q : (x.f0 - x.f1) % 86400 = 0
  · rw [decide_eq_true q, (tz (by omega)).mpr q]; rfl
  · rw [decide_eq_false q]
    have : ¬ Int.tmod (x.f0 - x.f1) 86400 = 0 := fun h => q ((tz (by omega)).mp h)
    simpa using this
theorem good_eq {k : Nat} (l : List LS) (hl : l.length ≤ 256) (hk : 300 < k) : leap_Good.f k l = some (goodV l) := by
  unfold leap_Good.f goodV
  rw [wtab_eq l hl hk, Option.bind_some, idx_any l 0 (by omega)]
  by_cases h : tableV l = true
  · rw [h, Bool.true_and, Bool.true_and]
    congr 1
    have ht : tabB true 0 0 l = true := by unfold tableV at h; simp only [Bool.and_eq_true] at h; exact h.1
    have hm := tab_mem l _ _ _ ht
    clear h ht hl
    induction l with
    | nil => rfl
    | cons x xs ih =>
      rw [List.any_cons, List.all_cons, p_mid (hm x List.mem_cons_self)]
      have := ih (fun y hy => hm y (List.mem_cons_of_mem _ hy))
      rw [← this]
      cases mid x <;> simp
  · rw [show tableV l = false from by simpa using h]; rfl
theorem good_tab {l : List LS} (h : goodV l = true) : tabB true 0 0 l = true ∧ l.length ≤ 32 ∧ ∀ x ∈ l, (x.f0 - x.f1) % 86400 = 0 := by
  unfold goodV tableV at h
  simp only [Bool.and_eq_true, decide_eq_true_eq, List.all_eq_true] at h
  exact ⟨h.1.1, h.1.2, fun x hx => by have := h.2 x hx; unfold mid at this; simpa using this⟩

theorem in_eq (x lo hi : Int) : limit_in.f x lo hi = some (decide (lo ≤ x) && decide (x ≤ hi)) := by
  unfold limit_in.f
  by_cases h : lo ≤ x
  · rw [if_pos h, decide_eq_true h]; rfl
  · rw [if_neg h, decide_eq_false h]; rfl
def okN (n f d : Int) : Bool := (decide (1 ≤ n) && decide (n ≤ 16)) && ((decide (0 ≤ f) && decide (f ≤ wrap64 (Int.tdiv (wrap64 (n - 1)) 3))) && (decide (0 ≤ d) && decide (d ≤ 16)))
def okW (beat rho delay jit : Int) : Bool := (decide (1 ≤ beat) && decide (beat ≤ 1099511627776)) && ((decide (0 ≤ rho) && decide (rho ≤ wrap64 (Int.tdiv beat 8))) && ((decide (0 ≤ delay) && decide (delay ≤ wrap64 (Int.tdiv beat 2))) && (decide (0 ≤ jit) && decide (jit ≤ delay))))
def okR (d beat rho eps mu hold pulse sec : Int) : Bool := (decide (0 ≤ eps) && decide (eps ≤ 1099511627776)) && ((decide (wrap64 (rho + 1) ≤ mu) && decide (mu ≤ wrap64 (Int.tdiv beat 4))) && ((decide (wrap64 (d + 2) ≤ hold) && decide (hold ≤ 1048576)) && ((decide (1 ≤ pulse) && decide (pulse ≤ 1099511627776)) && (decide (1 ≤ sec) && decide (sec ≤ 1099511627776)))))
theorem check_eq {k : Nat} (n f d beat rho delay jit eps mu hold pulse sec : Int) (hk : 2 < k) :
    limit_Check.f k n f d beat rho delay jit eps mu hold pulse sec = some (if (okN n f d && (okW beat rho delay jit && okR d beat rho eps mu hold pulse sec)) = true then 0 else 1) := by
  obtain ⟨k, rfl⟩ : ∃ m, k = m + 2 := ⟨k - 2, by omega⟩
  have j1 : ∀ a b : Bool, limit_Check.j1 (k + 1) a b n f d beat rho delay jit eps mu hold pulse sec = some (if (a && (b && okR d beat rho eps mu hold pulse sec)) = true then 0 else 1) := by
    intro a b
    simp only [limit_Check.j1, in_eq, Option.bind_some]
    unfold okR
    generalize (decide (0 ≤ eps) && decide (eps ≤ 1099511627776)) = b1
    generalize (decide (wrap64 (rho + 1) ≤ mu) && decide (mu ≤ wrap64 (Int.tdiv beat 4))) = b2
    generalize (decide (wrap64 (d + 2) ≤ hold) && decide (hold ≤ 1048576)) = b3
    generalize (decide (1 ≤ pulse) && decide (pulse ≤ 1099511627776)) = b4
    generalize (decide (1 ≤ sec) && decide (sec ≤ 1099511627776)) = b5
    cases a <;> cases b <;> cases b1 <;> cases b2 <;> cases b3 <;> cases b4 <;> cases b5 <;> rfl
  have j0 : ∀ a : Bool, limit_Check.j0 (k + 2) a n f d beat rho delay jit eps mu hold pulse sec = some (if (a && (okW beat rho delay jit && okR d beat rho eps mu hold pulse sec)) = true then 0 else 1) := by
    intro a
    simp only [limit_Check.j0, in_eq, Option.bind_some, j1]
    unfold okW
    generalize (decide (1 ≤ beat) && decide (beat ≤ 1099511627776)) = b1
    generalize (decide (0 ≤ rho) && decide (rho ≤ wrap64 (Int.tdiv beat 8))) = b2
    generalize (decide (0 ≤ delay) && decide (delay ≤ wrap64 (Int.tdiv beat 2))) = b3
    generalize (decide (0 ≤ jit) && decide (jit ≤ delay)) = b4
    generalize okR d beat rho eps mu hold pulse sec = r
    cases a <;> cases b1 <;> cases b2 <;> cases b3 <;> cases b4 <;> cases r <;> rfl
  unfold limit_Check.f
  simp only [in_eq, Option.bind_some, j0]
  unfold okN
  generalize (decide (1 ≤ n) && decide (n ≤ 16)) = b1
  generalize (decide (0 ≤ f) && decide (f ≤ wrap64 (Int.tdiv (wrap64 (n - 1)) 3))) = b2
  generalize (decide (0 ≤ d) && decide (d ≤ 16)) = b3
  generalize (okW beat rho delay jit && okR d beat rho eps mu hold pulse sec) = r
  cases b1 <;> cases b2 <;> cases b3 <;> cases r <;> rfl
structure Ok (n f d beat rho delay jit eps mu hold pulse sec : Int) : Prop where
  n1 : 1 ≤ n
  n2 : n ≤ 16
  f1 : 0 ≤ f
  f2 : 3 * f + 1 ≤ n
  d1 : 0 ≤ d
  d2 : d ≤ 16
  b1 : 1 ≤ beat
  b2 : beat ≤ 1099511627776
  r1 : 0 ≤ rho
  r2 : 8 * rho ≤ beat
  y1 : 0 ≤ delay
  y2 : 2 * delay ≤ beat
  j1 : 0 ≤ jit
  j2 : jit ≤ delay
  e1 : 0 ≤ eps
  e2 : eps ≤ 1099511627776
  m1 : rho + 1 ≤ mu
  m2 : 4 * mu ≤ beat
  h1 : d + 2 ≤ hold
  h2 : hold ≤ 1048576
  p1 : 1 ≤ pulse
  p2 : pulse ≤ 1099511627776
  s1 : 1 ≤ sec
  s2 : sec ≤ 1099511627776
theorem ok_of {n f d beat rho delay jit eps mu hold pulse sec : Int} (h : (okN n f d && (okW beat rho delay jit && okR d beat rho eps mu hold pulse sec)) = true) : Ok n f d beat rho delay jit eps mu hold pulse sec := by
  simp only [okN, okW, okR, Bool.and_eq_true, decide_eq_true_eq] at h
  obtain ⟨⟨⟨a1, a2⟩, ⟨a3, a4⟩, a5, a6⟩, ⟨⟨c1, c2⟩, ⟨c3, c4⟩, ⟨c5, c6⟩, c7, c8⟩, ⟨g1, g2⟩, ⟨g3, g4⟩, ⟨g5, g6⟩, ⟨g7, g8⟩, g9, g10⟩ := h
  have t1 : Int.tdiv (wrap64 (n - 1)) 3 = (n - 1) / 3 := by rw [w64 (by omega) (by omega), Int.tdiv_eq_ediv_of_nonneg (by omega)]
  have t2 : Int.tdiv beat 8 = beat / 8 := Int.tdiv_eq_ediv_of_nonneg (by omega)
  have t3 : Int.tdiv beat 2 = beat / 2 := Int.tdiv_eq_ediv_of_nonneg (by omega)
  have t4 : Int.tdiv beat 4 = beat / 4 := Int.tdiv_eq_ediv_of_nonneg (by omega)
  rw [t1, w64 (by omega) (by omega)] at a4
  rw [t2, w64 (by omega) (by omega)] at c4
  rw [t3, w64 (by omega) (by omega)] at c6
  rw [w64 (by omega) (by omega)] at g3
  rw [t4, w64 (by omega) (by omega)] at g4
  rw [w64 (by omega) (by omega)] at g5
  exact ⟨a1, a2, a3, by omega, a5, a6, c1, c2, c3, by omega, c5, by omega, c7, c8, g1, g2, g3, by omega, g5, g6, g7, g8, g9, g10⟩
theorem check_cases {k : Nat} (n f d beat rho delay jit eps mu hold pulse sec : Int) (hk : 2 < k) :
    (limit_Check.f k n f d beat rho delay jit eps mu hold pulse sec = some 0 ∧ Ok n f d beat rho delay jit eps mu hold pulse sec) ∨ limit_Check.f k n f d beat rho delay jit eps mu hold pulse sec = some 1 := by
  rw [check_eq _ _ _ _ _ _ _ _ _ _ _ _ hk]
  by_cases h : (okN n f d && (okW beat rho delay jit && okR d beat rho eps mu hold pulse sec)) = true
  · exact .inl ⟨by rw [if_pos h], ok_of h⟩
  · exact .inr (by rw [if_neg h])

/-- The health of a state; how far a clock may be; whether a stamp can be. -/
def ofV (d hold hops held : Int) (set good : Bool) : Int := if good = true ∧ set = true ∧ hops ≤ d then (if held > hold then 2 else 1) else 0
def farV (d rho jit eps hold held : Int) : Int := mulC 2 (widthV rho jit eps (maxL [held, hold]) d)
def rightB (t n : Int) : Bool := decide (-2305843009213693952 ≤ t ∧ t ≤ 2305843009213693952 ∧ 0 ≤ n ∧ n ≤ 1073741824)
theorem of_hk {k : Nat} (p0 p1 d p3 p4 p5 p6 p7 p8 hold p10 p11 s0 s1 s2 : Int) (s3 : Bool) (s4 s5 : Int) (s6 : Bool) (sl : List LS) (s8 s9 s10 : Int) (hk : 0 < k) :
    health_Of.f k p0 p1 d p3 p4 p5 p6 p7 p8 hold p10 p11 s0 s1 s2 s3 s4 s5 s6 sl s8 s9 s10 = some (ofV d hold s5 s4 s3 s6) := by
  obtain ⟨k, rfl⟩ : ∃ m, k = m + 1 := ⟨k - 1, by omega⟩
  unfold health_Of.f ofV
  simp only [health_Of.j0]
  cases s6
  · simp
  · cases s3
    · simp
    · by_cases h : s5 > d
      · rw [if_pos rfl, if_pos rfl, decide_eq_true h, if_pos rfl, if_neg (by omega)]
      · have hc : true = true ∧ true = true ∧ s5 ≤ d := ⟨rfl, rfl, by omega⟩
        rw [if_pos rfl, if_pos rfl, decide_eq_false h, if_neg (by decide)]
        by_cases q : s4 > hold
        · rw [if_pos q, if_pos hc, if_pos q]
        · rw [if_neg q, if_pos hc, if_neg q]
theorem far_hk {k : Nat} (p0 p1 d p3 rho p5 jit eps p8 hold p10 p11 held : Int) (hk : 10 < k) :
    health_Far.f k p0 p1 d p3 rho p5 jit eps p8 hold p10 p11 held = some (farV d rho jit eps hold held) := by
  unfold health_Far.f farV
  rw [max_eq [_, _] (by simp) (by simp; omega), Option.bind_some, width_eq _ _ _ _ _ _ _ _ _ _ _ _ _ _ (by omega), Option.bind_some, mul_eq _ _ (by omega), Option.bind_some]
theorem right_hk (t n : Int) : hlc_Right.f t n = some (rightB t n) := by
  unfold hlc_Right.f rightB
  by_cases h1 : t ≥ -2305843009213693952
  · by_cases h2 : t ≤ 2305843009213693952
    · by_cases h3 : n ≥ 0
      · rw [if_pos h1, if_pos h2, if_pos h3]
        congr 1
        by_cases h4 : n ≤ 1073741824
        · rw [decide_eq_true h4, decide_eq_true ⟨by omega, h2, by omega, h4⟩]
        · rw [decide_eq_false h4, decide_eq_false (by omega)]
      · rw [if_pos h1, if_pos h2, if_neg h3, decide_eq_false (by omega)]
    · rw [if_pos h1, if_neg h2, decide_eq_false (by omega)]
  · rw [if_neg h1, decide_eq_false (by omega)]
/-- A state that can be, out of one that may hold whatever it likes. -/
def saneV (d s0 s1 s2 : Int) (s3 : Bool) (s4 s5 : Int) (s6 : Bool) (sl : List LS) (s8 s9 s10 : Int) : Int × Int × Int × Bool × Int × Int × Bool × List LS × Int × Int × Int :=
  (if clp s0 > clp s1 then -2305843009213693952 else clp s0, if clp s0 > clp s1 then 2305843009213693952 else clp s1, clp s2, s3, bnd s4 0 1073741824, bnd s5 0 (addL [d, 1]), if clp s0 > clp s1 then false else s6, if goodV sl = true then sl else [], if rightB s8 s9 = true then s8 else clp s2, if rightB s8 s9 = true then s9 else 0, bnd s10 0 2305843009213693952)
theorem sane_hk {k : Nat} (p0 p1 d p3 p4 p5 p6 p7 p8 p9 p10 p11 s0 s1 s2 : Int) (s3 : Bool) (s4 s5 : Int) (s6 : Bool) (sl : List LS) (s8 s9 s10 : Int) (hl : sl.length ≤ 256) (hk : 400 < k) :
    health_Sane.f k p0 p1 d p3 p4 p5 p6 p7 p8 p9 p10 p11 s0 s1 s2 s3 s4 s5 s6 sl s8 s9 s10 = some (saneV d s0 s1 s2 s3 s4 s5 s6 sl s8 s9 s10) := by
  unfold health_Sane.f
  rw [of_eq _ _ (by omega), Option.bind_some, span_Empty.f, Option.bind_some, clip_eq _ (by omega), Option.bind_some, bound_eq _ _ _ (by omega), Option.bind_some, add_eq [_, _] (by simp) (by simp; omega), Option.bind_some, bound_eq _ _ _ (by omega), Option.bind_some, bound_eq _ _ _ (by omega), Option.bind_some, slices_Clone.f, if_pos (by omega), Option.bind_some, good_eq sl hl (by omega), Option.bind_some, right_hk, Option.bind_some]
  simp only [saneV, decide_eq_true_eq]
theorem bnd_in {x lo hi : Int} (h : lo ≤ hi) : lo ≤ bnd x lo hi ∧ bnd x lo hi ≤ hi := by unfold bnd; split <;> (try split) <;> omega
theorem bnd_id {x lo hi : Int} (h1 : lo ≤ x) (h2 : x ≤ hi) : bnd x lo hi = x := by unfold bnd; rw [if_neg (by omega), if_neg (by omega)]
theorem bnd_low {x lo hi : Int} (h : hi < lo) : bnd x lo hi = lo := by unfold bnd; rw [if_pos (by omega)]

def stepV (time ticks dst mu : Int) : Int := addL [addL [time, ticks], bnd (sub dst (addL [time, ticks])) (-clp mu) mu]
theorem step_eq {k : Nat} (time : Int) (set : Bool) (p0 p1 p2 p3 p4 p5 p6 p7 mu p9 p10 p11 ticks dst : Int) (jump : Bool) (hk : 10 < k) :
    slew_Clock_Step.f k time set p0 p1 p2 p3 p4 p5 p6 p7 mu p9 p10 p11 ticks dst jump = some (if jump || !set then clp dst else stepV time ticks dst mu, true) := by
  obtain ⟨k, rfl⟩ : ∃ m, k = m + 1 := ⟨k - 1, by omega⟩
  have j0 : ∀ b : Bool, slew_Clock_Step.j0 (k + 1) ticks dst b time set p0 p1 p2 p3 p4 p5 p6 p7 mu p9 p10 p11 = some (if b then clp dst else stepV time ticks dst mu, true) := by
    intro b
    simp only [slew_Clock_Step.j0]
    cases b
    · rw [if_neg (by simp), add_eq [_, _] (by simp) (by simp; omega), Option.bind_some, sub_eq _ _ (by omega), Option.bind_some, neg_eq _ (by omega), Option.bind_some, bound_eq _ _ _ (by omega), Option.bind_some, add_eq [_, _] (by simp) (by simp; omega), Option.bind_some]
      simp [stepV]
    · rw [if_pos rfl, clip_eq _ (by omega), Option.bind_some]
      simp
  unfold slew_Clock_Step.f
  cases jump
  · rw [if_neg (by simp), j0]; simp
  · rw [if_pos rfl, j0]; simp
def near (d mu : Int) : Int := if d < -mu then -mu else if mu < d then mu else d
theorem near_b {d mu : Int} (h : 0 ≤ mu) : -mu ≤ near d mu ∧ near d mu ≤ mu ∧ (0 ≤ d → 0 ≤ near d mu ∧ near d mu ≤ d) ∧ (d ≤ 0 → d ≤ near d mu ∧ near d mu ≤ 0) := by
  unfold near; split <;> (try split) <;> omega
theorem stepV_small {time ticks dst mu : Int} (m0 : 0 ≤ mu) (m1 : mu ≤ 2305843009213693952) (h1 : -576460752303423488 ≤ time) (h2 : time ≤ 576460752303423488) (h3 : -576460752303423488 ≤ ticks) (h4 : ticks ≤ 576460752303423488) (h5 : -576460752303423488 ≤ dst) (h6 : dst ≤ 576460752303423488) :
    stepV time ticks dst mu = time + ticks + near (dst - (time + ticks)) mu := by
  unfold stepV
  rw [add2_small (a := time) (b := ticks) (by omega) (by omega) (by omega) (by omega) (by omega) (by omega), sub_small (by omega) (by omega) (by omega) (by omega) (by omega) (by omega), clp_id (by omega) m1]
  have e : bnd (dst - (time + ticks)) (-mu) mu = near (dst - (time + ticks)) mu := by
    unfold bnd near
    by_cases h : dst - (time + ticks) < -mu
    · rw [if_pos (Or.inl h), if_pos h]
    · rw [if_neg (by omega), if_neg h]
  have b := near_b (d := dst - (time + ticks)) m0
  rw [e, add2_small (by omega) (by omega) (by omega) (by omega) (by omega) (by omega)]
theorem absC_small {x : Int} (h1 : -2305843009213693952 ≤ x) (h2 : x ≤ 2305843009213693952) : absC x = if x < 0 then -x else x := by
  unfold absC; rw [clp_id h1 h2]

theorem rclip_eq (x : Int) : clepsydraref01_Clip.f x = some (clp x) := by
  unfold clepsydraref01_Clip.f clp
  by_cases h1 : x > 2305843009213693952
  · rw [if_pos h1, if_neg (by omega), if_pos (by omega)]
  · rw [if_neg h1]
    by_cases h2 : x < -2305843009213693952
    · rw [if_pos h2, if_pos h2]
    · rw [if_neg h2, if_neg h2, if_neg (by omega)]

def less (a b c d : Int) : Bool := decide (a < c) || (decide (a = c) && decide (b < d))
theorem less_eq (a b c d : Int) : hlc_Less.f a b c d = some (less a b c d) := by
  unfold hlc_Less.f less
  by_cases h : a < c
  · rw [if_pos h, decide_eq_true h]; rfl
  · rw [if_neg h, decide_eq_false h]
    by_cases h2 : a = c
    · rw [if_pos h2, decide_eq_true h2]; simp
    · rw [if_neg h2, decide_eq_false h2]; rfl
theorem later_eq {k : Nat} (a b c d e f : Int) : hlc_later.f (k + 3) [⟨a, b⟩, ⟨c, d⟩, ⟨e, f⟩] = some (if less a b c d = true then (if less c d e f = true then (e, f) else (c, d)) else (if less a b e f = true then (e, f) else (a, b))) := by
  unfold hlc_later.f
  rw [if_pos (by simp), if_pos (by simp), Option.bind_some]
  simp only [hlc_later.l0, List.drop_succ_cons, List.drop_zero]
  have r0 : rd_T28 [(⟨a, b⟩ : S28), ⟨c, d⟩, ⟨e, f⟩] 0 = ⟨a, b⟩ := rfl
  have r1 : rd_T28 [(⟨c, d⟩ : S28), ⟨e, f⟩] 0 = ⟨c, d⟩ := rfl
  have r2 : rd_T28 [(⟨c, d⟩ : S28), ⟨e, f⟩] 1 = ⟨e, f⟩ := rfl
  have w1 : wrap64 (0 + 1) = 1 := by unfold wrap64; omega
  have w2 : wrap64 (1 + 1) = 2 := by unfold wrap64; omega
  simp only [r0, r1, r2, w1, w2, less_eq, Option.bind_some, List.length_cons, List.length_nil]
  rw [if_pos (by omega), if_pos (by omega)]
  have g1 : (0 : Int) < ((0 + 1 + 1 : Nat) : Int) := by omega
  have g2 : (1 : Int) < ((0 + 1 + 1 : Nat) : Int) := by omega
  have g3 : ¬ (2 : Int) < ((0 + 1 + 1 : Nat) : Int) := by omega
  have g4 : (0 : Int) ≤ 1 := by omega
  simp only [if_pos g1, if_pos g2, if_neg g3, if_pos g4]
  cases less a b c d <;> cases less c d e f <;> cases less a b e f <;> rfl

/-- What Front's Step makes of a state, the ticks and the next state. -/
def jumpV (d rho jit eps hold s2 : Int) (s3 : Bool) (s4 s5 : Int) (s6 : Bool) (tk y0 y1 y4 : Int) : Bool := if ofV d hold s5 s4 s3 s6 = 0 then true else decide (farV d rho jit eps hold y4 < absC (sub (midC y0 y1) (addL [s2, tk])))
def timeV (mu s2 : Int) (s3 : Bool) (tk y0 y1 : Int) (j : Bool) : Int := if j || !s3 then clp (midC y0 y1) else stepV s2 tk (midC y0 y1) mu
def mendV (a b t m : Int) : Int × Int × Bool := if rightB a b = true then (if a ≤ m then (a, b, false) else (clp t, 0, true)) else (clp t, 0, true)
def nextV (a b : Int) : Int × Int := if b ≥ 1073741824 then (addL [a, 1], 0) else (clp a, wrap64 (mx b 0 + 1))
def tickV (a b t : Int) : Int × Int := if clp t > a then (clp t, 0) else nextV a b
def lifeV (s10 ct s2 : Int) (an : Bool) : Int := if an = true ∨ ct < s2 then bnd (addL [bnd s10 0 2305843009213693952, 1]) 0 2305843009213693952 else bnd s10 0 2305843009213693952
theorem mend_hk {k : Nat} (a b t m : Int) (hk : 0 < k) : hlc_Clock_Mend.f k a b t m = some (mendV a b t m) := by
  unfold hlc_Clock_Mend.f mendV
  rw [right_hk, Option.bind_some, clip_eq _ hk, Option.bind_some]
  cases rightB a b
  · simp
  · by_cases h : a ≤ m
    · simp [h]
    · simp [h]
theorem next_hk {k : Nat} (a b : Int) (hk : 10 < k) : hlc_Next.f k a b = some (nextV a b) := by
  unfold hlc_Next.f nextV
  rw [add_eq [_, _] (by simp) (by simp; omega), Option.bind_some, clip_eq _ (by omega), Option.bind_some]
  split <;> rfl
theorem tick_hk {k : Nat} (a b t : Int) (hk : 10 < k) : hlc_Clock_Tick.f k a b t = some (tickV a b t) := by
  unfold hlc_Clock_Tick.f tickV
  rw [clip_eq _ (by omega), Option.bind_some, next_hk _ _ hk, Option.bind_some]
  split <;> rfl
theorem jump_hk {k : Nat} (p0 p1 d p3 rho p5 jit eps p8 hold p10 p11 s2 : Int) (s3 : Bool) (s4 s5 : Int) (s6 : Bool) (tk y0 y1 y4 : Int) (hk : 400 < k) : health_Front_Step.j k p0 p1 d p3 rho p5 jit eps p8 hold p10 p11 (ofV d hold s5 s4 s3 s6) (absC (sub (midC y0 y1) (addL [s2, tk]))) y4 = some (jumpV d rho jit eps hold s2 s3 s4 s5 s6 tk y0 y1 y4) := by
  unfold health_Front_Step.j jumpV
  rw [far_hk _ _ _ _ _ _ _ _ _ _ _ _ _ (by omega), Option.bind_some]
  split <;> rfl
theorem life_hk {k : Nat} (s10 ct s2 : Int) (an : Bool) (hk : 400 < k) : health_Front_Step.l k (bnd s10 0 2305843009213693952) ct s2 an = some (lifeV s10 ct s2 an) := by
  unfold health_Front_Step.l lifeV
  rw [add_eq [_, _] (by simp) (by simp; omega), Option.bind_some, bound_eq _ _ _ (by omega)]
  split <;> rfl
def frontV (d rho jit eps mu hold s2 : Int) (s3 : Bool) (s4 s5 : Int) (s6 : Bool) (s8 s9 s10 tk : Int) (y0 y1 y2 : Int) (y3 : Bool) (y4 y5 : Int) (y6 : Bool) (yl : List LS) (y8 y9 y10 : Int) : Int × Int × Int × Bool × Int × Int × Bool × List LS × Int × Int × Int :=
  let m := saneV d y0 y1 y2 y3 y4 y5 y6 yl y8 y9 y10
  let t := timeV mu s2 s3 tk y0 y1 (jumpV d rho jit eps hold s2 s3 s4 s5 s6 tk y0 y1 y4)
  let h := mendV s8 s9 t (addL [m.2.1, farV d rho jit eps hold m.2.2.2.2.1])
  let u := tickV h.1 h.2.1 t
  (m.1, m.2.1, t, true, m.2.2.2.2.1, m.2.2.2.2.2.1, m.2.2.2.2.2.2.1, m.2.2.2.2.2.2.2.1, u.1, u.2, lifeV s10 t s2 h.2.2)
theorem front_hk {k : Nat} (p0 p1 d p3 rho p5 jit eps mu hold p10 p11 s0 s1 s2 : Int) (s3 : Bool) (s4 s5 : Int) (s6 : Bool) (sl : List LS) (s8 s9 s10 tk y0 y1 y2 : Int) (y3 : Bool) (y4 y5 : Int) (y6 : Bool) (yl : List LS) (y8 y9 y10 : Int) (hl : yl.length ≤ 256) (hk : 400 < k) :
    health_Front_Step.f k p0 p1 d p3 rho p5 jit eps mu hold p10 p11 s0 s1 s2 s3 s4 s5 s6 sl s8 s9 s10 tk y0 y1 y2 y3 y4 y5 y6 yl y8 y9 y10 = some (frontV d rho jit eps mu hold s2 s3 s4 s5 s6 s8 s9 s10 tk y0 y1 y2 y3 y4 y5 y6 yl y8 y9 y10) := by
  unfold health_Front_Step.f
  rw [mid_eq _ _ (by omega), Option.bind_some, add_eq [_, _] (by simp) (by simp; omega), Option.bind_some, sub_eq _ _ (by omega), Option.bind_some, abs_eq _ (by omega), Option.bind_some, of_hk _ _ _ _ _ _ _ _ _ _ _ _ _ _ _ _ _ _ _ _ _ _ _ (by omega), Option.bind_some, jump_hk _ _ _ _ _ _ _ _ _ _ _ _ _ _ _ _ _ _ _ _ _ hk, Option.bind_some, step_eq _ _ _ _ _ _ _ _ _ _ _ _ _ _ _ _ _ (by omega), Option.bind_some, sane_hk _ _ _ _ _ _ _ _ _ _ _ _ _ _ _ _ _ _ _ _ _ _ _ hl (by omega), Option.bind_some, bound_eq _ _ _ (by omega), Option.bind_some, far_hk _ _ _ _ _ _ _ _ _ _ _ _ _ (by omega), Option.bind_some, add_eq [_, _] (by simp) (by simp; omega), Option.bind_some, mend_hk _ _ _ _ (by omega), Option.bind_some, tick_hk _ _ _ (by omega), Option.bind_some, life_hk _ _ _ _ hk, Option.bind_some]
  rfl
theorem front_is {d rho jit eps mu hold s2 : Int} {s3 : Bool} {s4 s5 : Int} {s6 : Bool} {s8 s9 s10 tk y0 y1 y2 : Int} {y3 : Bool} {y4 y5 : Int} {y6 : Bool} {yl : List LS} {y8 y9 y10 : Int} {m0 m1 m2 : Int} {m3 : Bool} {m4 m5 : Int} {m6 : Bool} {ml : List LS} {m8 m9 m10 T h0 h1 : Int} {an : Bool} {u0 u1 : Int}
    (hs : saneV d y0 y1 y2 y3 y4 y5 y6 yl y8 y9 y10 = (m0, m1, m2, m3, m4, m5, m6, ml, m8, m9, m10)) (hT : timeV mu s2 s3 tk y0 y1 (jumpV d rho jit eps hold s2 s3 s4 s5 s6 tk y0 y1 y4) = T) (hm : mendV s8 s9 T (addL [m1, farV d rho jit eps hold m4]) = (h0, h1, an)) (hu : tickV h0 h1 T = (u0, u1)) :
    frontV d rho jit eps mu hold s2 s3 s4 s5 s6 s8 s9 s10 tk y0 y1 y2 y3 y4 y5 y6 yl y8 y9 y10 = (m0, m1, T, true, m4, m5, m6, ml, u0, u1, lifeV s10 T s2 an) := by
  simp only [frontV, hs, hT, hm, hu]

/-- The pure statement of the law. -/
def Pure : Prop := ∀ (a0_0 : Int) (a0_1 : Int) (a0_2 : Int) (a0_3 : Int) (a0_4 : Int) (a0_5 : Int) (a0_6 : Int) (a0_7 : Int) (a0_8 : Int) (a0_9 : Int) (a0_10 : Int) (a0_11 : Int) (a1_0 : Int) (a1_1 : Int) (a1_2 : Int) (a1_3 : Bool) (a1_4 : Int) (a1_5 : Int) (a1_6 : Bool) (l1_7 : List S42) (a1_8 : Int) (a1_9 : Int) (a1_10 : Int) (a2 : Int) (a3_0 : Int) (a3_1 : Int) (a3_2 : Int) (a3_3 : Bool) (a3_4 : Int) (a3_5 : Int) (a3_6 : Bool) (l3_7 : List S42) (a3_8 : Int) (a3_9 : Int) (a3_10 : Int) (a4_0 : Int) (a4_1 : Int), (Lit.int .i64 a0_0).wf = true → (Lit.int .i64 a0_1).wf = true → (Lit.int .i64 a0_2).wf = true → (Lit.int .i64 a0_3).wf = true → (Lit.int .i64 a0_4).wf = true → (Lit.int .i64 a0_5).wf = true → (Lit.int .i64 a0_6).wf = true → (Lit.int .i64 a0_7).wf = true → (Lit.int .i64 a0_8).wf = true → (Lit.int .i64 a0_9).wf = true → (Lit.int .i64 a0_10).wf = true → (Lit.int .i64 a0_11).wf = true → (Lit.int .i64 a1_0).wf = true → (Lit.int .i64 a1_1).wf = true → (Lit.int .i64 a1_2).wf = true → (Lit.int .i64 a1_4).wf = true → (Lit.int .i64 a1_5).wf = true → (∀ x ∈ l1_7, (Lit.int .i64 x.f0).wf = true ∧ (Lit.int .i64 x.f1).wf = true) → (Lit.int .i64 a1_8).wf = true → (Lit.int .i64 a1_9).wf = true → (Lit.int .i64 a1_10).wf = true → (Lit.int .i64 a2).wf = true → (Lit.int .i64 a3_0).wf = true → (Lit.int .i64 a3_1).wf = true → (Lit.int .i64 a3_2).wf = true → (Lit.int .i64 a3_4).wf = true → (Lit.int .i64 a3_5).wf = true → (∀ x ∈ l3_7, (Lit.int .i64 x.f0).wf = true ∧ (Lit.int .i64 x.f1).wf = true) → (Lit.int .i64 a3_8).wf = true → (Lit.int .i64 a3_9).wf = true → (Lit.int .i64 a3_10).wf = true → (Lit.int .i64 a4_0).wf = true → (Lit.int .i64 a4_1).wf = true → ∃ k, clepsydralaw21_HealthRises.f k a0_0 a0_1 a0_2 a0_3 a0_4 a0_5 a0_6 a0_7 a0_8 a0_9 a0_10 a0_11 a1_0 a1_1 a1_2 a1_3 a1_4 a1_5 a1_6 l1_7 a1_8 a1_9 a1_10 a2 a3_0 a3_1 a3_2 a3_3 a3_4 a3_5 a3_6 l3_7 a3_8 a3_9 a3_10 a4_0 a4_1 = some true

theorem rright_hk (t n : Int) : clepsydraref20_Right.f t n = some (rightB t n) := by
  unfold clepsydraref20_Right.f rightB
  rw [rclip_eq, Option.bind_some]
  have hc : clp t = t ↔ (-2305843009213693952 ≤ t ∧ t ≤ 2305843009213693952) := ⟨fun h => by have := clp_b t; omega, fun h => clp_id h.1 h.2⟩
  by_cases h1 : clp t = t
  · have h2 := hc.mp h1
    by_cases h3 : n ≥ 0
    · rw [if_pos h1, if_pos h3]
      congr 1
      by_cases h4 : n ≤ 1073741824
      · rw [decide_eq_true h4, decide_eq_true ⟨h2.1, h2.2, by omega, h4⟩]
      · rw [decide_eq_false h4, decide_eq_false (by omega)]
    · rw [if_pos h1, if_neg h3, decide_eq_false (by omega)]
  · rw [if_neg h1, decide_eq_false (fun h => h1 (hc.mpr ⟨h.1, h.2.1⟩))]
theorem rless_ {a b c d : Int} (h : a < c ∨ (a = c ∧ b < d)) : clepsydraref20_Less.f a b c d = some true := by
  unfold clepsydraref20_Less.f
  rcases h with h | ⟨h1, h2⟩
  · rw [if_neg (by omega), decide_eq_true h]
  · rw [if_pos h1, decide_eq_true h2]
theorem rless_some (a b c d : Int) : ∃ l, clepsydraref20_Less.f a b c d = some l := by
  unfold clepsydraref20_Less.f; split <;> exact ⟨_, rfl⟩
structure Inv (j t n : Int) : Prop where
  t0 : -2305843009213693952 ≤ t
  t1 : t ≤ 2305843009213693952
  n0 : 0 ≤ n
  n1 : n ≤ 1073741824
  o : n ≤ j ∨ t ≤ 1152921504606846976 + j
theorem next_up {t n : Int} (t0 : -2305843009213693952 ≤ t) (t1 : t ≤ 2305843009213693952) (n0 : -1 ≤ n) (n1 : n ≤ 1073741824) (o : n < 1073741824 ∨ t < 2305843009213693952) : ∃ a b, nextV t n = (a, b) ∧ (t < a ∨ (t = a ∧ n < b)) ∧ ((b = 0 ∧ a = t + 1 ∧ t < 2305843009213693952) ∨ (a = t ∧ (b = n + 1 ∨ b = 1) ∧ n < 1073741824)) := by
  unfold nextV
  by_cases h : n ≥ 1073741824
  · rw [if_pos h, add2_small (by omega) (by omega) (by omega) (by omega) (by omega) (by omega)]
    exact ⟨_, _, rfl, .inl (by omega), .inl ⟨rfl, rfl, by omega⟩⟩
  · rw [if_neg h, clp_id t0 t1]
    have hm : mx n 0 = n ∨ (mx n 0 = 0 ∧ n ≤ 0) := by unfold mx; split <;> omega
    rw [w64 (by omega) (by omega)]
    exact ⟨_, _, rfl, .inr ⟨rfl, by omega⟩, .inr ⟨rfl, by omega, by omega⟩⟩
theorem tick_up {j t n T : Int} (j0 : 0 ≤ j) (j1 : j ≤ 100) (I : Inv j t n) (T0 : -2305843009213693952 ≤ T) (T1 : T ≤ 2305843009213693952) : ∃ a b, tickV t n T = (a, b) ∧ (t < a ∨ (t = a ∧ n < b)) ∧ Inv (j + 1) a b := by
  obtain ⟨t0, t1, n0, n1, o⟩ := I
  unfold tickV
  rw [clp_id T0 T1]
  by_cases h : T > t
  · rw [if_pos h]
    exact ⟨_, _, rfl, .inl h, ⟨T0, T1, by omega, by omega, by omega⟩⟩
  · rw [if_neg h]
    obtain ⟨a, b, e, u, c⟩ := next_up t0 t1 (by omega) n1 (by omega)
    exact ⟨a, b, e, u, ⟨by omega, by omega, by omega, by omega, by omega⟩⟩
theorem hear_up {k : Nat} {j a b T x0 x1 m : Int} (hk : 20 < k) (j0 : 0 ≤ j) (j1 : j ≤ 100) (I : Inv j a b) (T0 : -2305843009213693952 ≤ T) (T1 : T ≤ 2305843009213693952) (x2 : -1152921504606846976 ≤ x0) (x3 : x0 ≤ 1152921504606846976) : ∃ c d f, hlc_Clock_Hear.f k a b T x0 x1 m = some (c, d, f) ∧ (a < c ∨ (a = c ∧ b < d)) := by
  obtain ⟨k, rfl⟩ : ∃ q, k = q + 5 := ⟨k - 5, by omega⟩
  have hb : ∃ c d f, hlc_Clock_Hear.j0 (k + 5) T true a b x0 x1 = some (c, d, f) ∧ (a < c ∨ (a = c ∧ b < d)) := by
    obtain ⟨c, d, e, u, _⟩ := tick_up j0 j1 I T0 T1
    refine ⟨c, d, false, ?_, u⟩
    simp only [hlc_Clock_Hear.j0, if_true]
    rw [tick_hk _ _ _ (by omega), Option.bind_some, e]
  obtain ⟨t0, t1, n0, n1, o⟩ := I
  unfold hlc_Clock_Hear.f
  rw [right_hk, Option.bind_some]
  cases hr : rightB x0 x1
  · rw [if_neg (by decide)]; exact hb
  · rw [if_pos rfl]
    by_cases hm : x0 > m
    · rw [decide_eq_true hm]; exact hb
    · rw [decide_eq_false hm]
      have hr2 : -2305843009213693952 ≤ x0 ∧ x0 ≤ 2305843009213693952 ∧ 0 ≤ x1 ∧ x1 ≤ 1073741824 := of_decide_eq_true hr
      have key : ∀ u v : Int, -2305843009213693952 ≤ u → u ≤ 2305843009213693952 → -1 ≤ v → v ≤ 1073741824 → (v < 1073741824 ∨ u < 2305843009213693952) → (a < u ∨ (a = u ∧ b ≤ v)) → ∃ c d f, ((hlc_Next.f (k + 4) u v).bind fun bt => some (bt.1, bt.2, true)) = some (c, d, f) ∧ (a < c ∨ (a = c ∧ b < d)) := by
        intro u v u0 u1 v0 v1 o2 w
        obtain ⟨c, d, e, up, _⟩ := next_up u0 u1 v0 v1 o2
        refine ⟨c, d, true, ?_, by omega⟩
        rw [next_hk _ _ (by omega), Option.bind_some, e]
      simp only [hlc_Clock_Hear.j0, if_false, Bool.false_eq_true]
      rw [clip_eq _ (by omega), Option.bind_some, clp_id T0 T1, later_eq, Option.bind_some]
      have li : ∀ p q r s : Int, less p q r s = true ↔ (p < r ∨ (p = r ∧ q < s)) := by intro p q r s; unfold less; simp
      have ln : ∀ p q r s : Int, ¬ less p q r s = true → ¬ (p < r ∨ (p = r ∧ q < s)) := fun p q r s h c => h ((li p q r s).mpr c)
      by_cases c1 : less a b x0 x1 = true
      · rw [if_pos c1]
        have d1 := (li _ _ _ _).mp c1
        by_cases c2 : less x0 x1 T (-1) = true
        · rw [if_pos c2]
          have d2 := (li _ _ _ _).mp c2
          exact key T (-1) T0 T1 (by omega) (by omega) (by omega) (by omega)
        · rw [if_neg c2]
          exact key x0 x1 (by omega) (by omega) (by omega) (by omega) (by omega) (by omega)
      · rw [if_neg c1]
        by_cases c2 : less a b T (-1) = true
        · rw [if_pos c2]
          have d2 := (li _ _ _ _).mp c2
          exact key T (-1) T0 T1 (by omega) (by omega) (by omega) (by omega)
        · rw [if_neg c2]
          exact key a b t0 t1 (by omega) n1 (by omega) (by omega)
theorem time_b (mu s2 : Int) (s3 : Bool) (tk y0 y1 : Int) (j : Bool) : -2305843009213693952 ≤ timeV mu s2 s3 tk y0 y1 j ∧ timeV mu s2 s3 tk y0 y1 j ≤ 2305843009213693952 := by
  unfold timeV
  split
  · exact clp_b _
  · exact addL_b _
theorem HealthRises : Pure := by
  intro p0 p1 d beat rho p5 jit eps mu hold p10 p11 s0 s1 s2 s3 s4 s5 s6 sl s8 s9 s10 tk y0 y1 y2 y3 y4 y5 y6 yl y8 y9 y10 x0 x1
  intros
  obtain ⟨k, hk⟩ : ∃ k : Nat, 2500 < k := ⟨3000, by omega⟩
  refine ⟨k, ?_⟩
  unfold clepsydralaw21_HealthRises.f clepsydralaw21_long.f
  rcases check_cases (k := k) p0 p1 d beat rho p5 jit eps mu hold p10 p11 (by omega) with ⟨hc, ok⟩ | hc
  rotate_left
  · rw [hc, Option.bind_some, if_pos (by decide)]
  rw [hc, Option.bind_some, if_neg (by decide)]
  by_cases hl : (sl.length : Int) > 256
  · rw [if_pos hl, Option.bind_some, if_pos rfl]
  rw [if_neg hl]
  by_cases hy : (yl.length : Int) > 256
  · rw [decide_eq_true hy, Option.bind_some, if_pos rfl]
  rw [decide_eq_false hy, Option.bind_some, if_neg (by decide), rright_hk, Option.bind_some]
  cases hr : rightB s8 s9
  · rw [if_pos rfl]
  have hr2 : -2305843009213693952 ≤ s8 ∧ s8 ≤ 2305843009213693952 ∧ 0 ≤ s9 ∧ s9 ≤ 1073741824 := of_decide_eq_true hr
  rw [if_neg (by decide)]
  by_cases c1 : s10 < 0
  · rw [if_pos c1]
  rw [if_neg c1]
  by_cases c2 : s10 > 1152921504606846976
  · rw [if_pos c2]
  rw [if_neg c2]
  split
  · rfl
  next ha =>
  have ha := Classical.not_not.mp ha
  rw [front_hk _ _ _ _ _ _ _ _ _ _ _ _ _ _ _ _ _ _ _ _ _ _ _ _ _ _ _ _ _ _ _ _ _ _ _ (by omega) (by omega), Option.bind_some]
  have hT := time_b mu s2 s3 tk y0 y1 (jumpV d rho jit eps hold s2 s3 s4 s5 s6 tk y0 y1 y4)
  obtain ⟨T, hTe⟩ : ∃ T, timeV mu s2 s3 tk y0 y1 (jumpV d rho jit eps hold s2 s3 s4 s5 s6 tk y0 y1 y4) = T := ⟨_, rfl⟩
  rw [hTe] at hT
  obtain ⟨m0, m1, m2, m3, m4, m5, m6, ml, m8, m9, m10, hs⟩ : ∃ m0 m1 m2 m3 m4 m5 m6 ml m8 m9 m10, saneV d y0 y1 y2 y3 y4 y5 y6 yl y8 y9 y10 = (m0, m1, m2, m3, m4, m5, m6, ml, m8, m9, m10) := ⟨_, _, _, _, _, _, _, _, _, _, _, rfl⟩
  obtain ⟨h0, h1, an, hm⟩ : ∃ h0 h1 an, mendV s8 s9 T (addL [m1, farV d rho jit eps hold m4]) = (h0, h1, an) := ⟨_, _, _, rfl⟩
  have hI : (an = false → h0 = s8 ∧ h1 = s9) ∧ Inv 0 h0 h1 := by
    unfold mendV at hm
    rw [hr, if_pos rfl] at hm
    split at hm
    · simp only [Prod.mk.injEq] at hm
      obtain ⟨rfl, rfl, rfl⟩ := hm
      exact ⟨fun _ => ⟨rfl, rfl⟩, ⟨by omega, by omega, by omega, by omega, .inr (by omega)⟩⟩
    · rw [clp_id hT.1 hT.2] at hm
      simp only [Prod.mk.injEq] at hm
      obtain ⟨rfl, rfl, rfl⟩ := hm
      exact ⟨fun h => absurd h (by decide), ⟨hT.1, hT.2, by omega, by omega, .inl (by omega)⟩⟩
  obtain ⟨r8, r9, hu, up1, I1⟩ := tick_up (by omega) (by omega) hI.2 hT.1 hT.2
  obtain ⟨a, b, hab, up2, I2⟩ := tick_up (by omega) (by omega) I1 hT.1 hT.2
  rw [front_is hs hTe hm hu]
  dsimp only
  rw [tick_hk _ _ _ (by omega), Option.bind_some, hab, far_hk _ _ _ _ _ _ _ _ _ _ _ _ _ (by omega), Option.bind_some, add_eq [_, _] (by simp) (by simp; omega), Option.bind_some]
  dsimp only
  generalize addL _ = mm
  obtain ⟨c, dd, fl, hh, up3⟩ := hear_up (k := k) (x1 := x1) (m := mm) (by omega) (by omega) (by omega) I2 hT.1 hT.2 (show -1152921504606846976 ≤ x0 by omega) (by omega)
  rw [hh, Option.bind_some]
  obtain ⟨l0, hl0⟩ := rless_some s8 s9 r8 r9
  dsimp only
  rw [hl0, Option.bind_some, rless_ up2, Option.bind_some, rless_ up3, Option.bind_some]
  refine if_pos ⟨?_, rfl, rfl⟩
  have b0 : bnd s10 0 2305843009213693952 = s10 := bnd_id (by omega) (by omega)
  have b1 : addL [s10, 1] = s10 + 1 := add2_small (by omega) (by omega) (by omega) (by omega) (by omega) (by omega)
  have b2 : bnd (s10 + 1) 0 2305843009213693952 = s10 + 1 := bnd_id (by omega) (by omega)
  by_cases q : an = true ∨ T < s2
  · right
    rw [lifeV, if_pos q, b0, b1, b2, w64 (by omega) (by omega)]
    exact ⟨by omega, rfl⟩
  · left
    rw [lifeV, if_neg q, b0]
    have hf : an = false := by simpa using fun e => q (.inl e)
    obtain ⟨e1, e2⟩ := hI.1 hf
    subst e1
    subst e2
    have := rless_ up1
    rw [hl0] at this
    exact ⟨rfl, fun e => q (.inr e), Option.some.inj this⟩

end Go.Proofs.Ytigkjbaclpklpaa.VHealthRises
