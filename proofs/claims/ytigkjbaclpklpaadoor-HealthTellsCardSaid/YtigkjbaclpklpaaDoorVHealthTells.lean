/- Health, Now, Interval, UTC and Pulse answer what the reference answers, for all states with tables of up to 256 entries, and on a nil clock. -/
import Derived.Test.YtigkjbaclpklpaaDoorQx31
import Derived.OpenShut
set_option linter.unusedVariables false
set_option linter.unusedSimpArgs false
namespace Go.Proofs.YtigkjbaclpklpaaDoor.VHealthTells
open Go.RowKit Go.Proofs.YtigkjbaclpklpaaDoor.Q Go.Proofs.YtigkjbaclpklpaaDoorW.PrintWords Go.Proofs.YtigkjbaclpklpaaDoorW.PrintLast Go.Proofs.YtigkjbaclpklpaaDoorW.PrintMore

theorem wb {n : Int} (h : (Lit.int .i64 n).wf = true) : -9223372036854775808 ≤ n ∧ n ≤ 9223372036854775807 := Go.bounds_i64 h
theorem w64 {n : Int} (h1 : -9223372036854775808 ≤ n) (h2 : n ≤ 9223372036854775807) : wrap64 n = n := by unfold wrap64; omega
def clp (x : Int) : Int := if x < -2305843009213693952 then -2305843009213693952 else if 2305843009213693952 < x then 2305843009213693952 else x
theorem clp_b (x : Int) : -2305843009213693952 ≤ clp x ∧ clp x ≤ 2305843009213693952 := by unfold clp; split <;> (try split) <;> omega
theorem clp_id {x : Int} (h1 : -2305843009213693952 ≤ x) (h2 : x ≤ 2305843009213693952) : clp x = x := by unfold clp; rw [if_neg (by omega), if_neg (by omega)]
theorem clp_neg (x : Int) : clp (-x) = -clp x := by unfold clp; split <;> (try split) <;> (try split) <;> (try split) <;> omega
def bnd (x lo hi : Int) : Int := if x < lo ∨ hi < lo then lo else if hi < x then hi else x
def addL (l : List Int) : Int := l.foldl (fun n x => clp (n + clp x)) 0
def sub (a b : Int) : Int := clp (clp a - clp b)
def absC (a : Int) : Int := if a < 0 then -clp a else clp a
theorem absC_b (x : Int) : 0 ≤ absC x ∧ absC x ≤ 2305843009213693952 := by have := clp_b x; unfold absC; unfold clp at *; split <;> omega
theorem add2 (a b : Int) : addL [a, b] = clp (clp a + clp b) := by
  have h := clp_b a
  simp only [addL, List.foldl_cons, List.foldl_nil, Int.zero_add]
  rw [clp_id h.1 h.2]
theorem add3 (a b c : Int) : addL [a, b, c] = clp (clp (clp a + clp b) + clp c) := by
  have h := clp_b a
  simp only [addL, List.foldl_cons, List.foldl_nil, Int.zero_add]
  rw [clp_id h.1 h.2]
theorem rd_drop {l : List Int} {i : Int} (h0 : 0 ≤ i) (h1 : i < (l.length : Int)) : l.drop i.toNat = rd l i :: l.drop (i + 1).toNat := by
  have h : i.toNat < l.length := by omega
  rw [List.drop_eq_getElem_cons h, show (i + 1).toNat = i.toNat + 1 from by omega]
  congr 1
  simp [rd, List.getD_eq_getElem?_getD, List.getElem?_eq_getElem h]
def mulC (a b : Int) : Int := clp (clp a * clp b)
theorem mulC_b (a b : Int) : -2305843009213693952 ≤ mulC a b ∧ mulC a b ≤ 2305843009213693952 := clp_b _
theorem sub_b (a b : Int) : -2305843009213693952 ≤ sub a b ∧ sub a b ≤ 2305843009213693952 := clp_b _
theorem addL_b (l : List Int) : -2305843009213693952 ≤ addL l ∧ addL l ≤ 2305843009213693952 := by
  unfold addL
  suffices h : ∀ (l : List Int) (n : Int), -2305843009213693952 ≤ n → n ≤ 2305843009213693952 → -2305843009213693952 ≤ l.foldl (fun n x => clp (n + clp x)) n ∧ l.foldl (fun n x => clp (n + clp x)) n ≤ 2305843009213693952 from h l 0 (by omega) (by omega)
  intro l
  induction l with
  | nil => intro n h1 h2; exact ⟨h1, h2⟩
  | cons x l ih => intro n _ _; exact ih _ (clp_b _).1 (clp_b _).2

theorem bound_eq {k : Nat} (x lo hi : Int) (hk : 0 < k) : sat_Bound.f k x lo hi = some (bnd x lo hi) := by
  obtain ⟨k, rfl⟩ : ∃ m, k = m + 1 := ⟨k - 1, by omega⟩
  unfold sat_Bound.f bnd
  simp only [sat_Bound.j0]
  by_cases h1 : x < lo
  · simp [h1]
  · by_cases h2 : hi < lo
    · simp [h1, h2]
    · simp only [h1, h2, if_false, false_or, decide_false, if_neg]
      by_cases h3 : hi < x
      · simp [h3]
      · simp [h3]
theorem clip_eq {k : Nat} (x : Int) (hk : 0 < k) : sat_Clip.f k x = some (clp x) := by
  unfold sat_Clip.f
  rw [bound_eq x _ _ hk]
  simp only [Option.bind_some, bnd, clp]
  congr 1
  split <;> split <;> (try split) <;> omega

theorem dm_eq {A c : Int} (hc : 0 < c) : (A.tmod c < 0 → A / c = A.tdiv c - 1 ∧ A % c = A.tmod c + c) ∧ (¬ A.tmod c < 0 → A / c = A.tdiv c ∧ A % c = A.tmod c) := by
  have h1 := Int.tmod_def A c
  have h2 : A.tmod c < c := Int.tmod_lt_of_pos A hc
  have h3 : -c < A.tmod c := by
    rcases Int.le_total 0 A with h | h
    · have := Int.tmod_nonneg c h; omega
    · have := Int.tmod_lt_of_pos (-A) hc; rw [Int.neg_tmod] at this; omega
  constructor
  · intro h; exact (Int.ediv_emod_unique hc).mpr ⟨by rw [Int.mul_sub]; omega, by omega, by omega⟩
  · intro h; exact (Int.ediv_emod_unique hc).mpr ⟨by omega, by omega, by omega⟩
theorem ediv_b {A c : Int} (hc : 0 < c) (h1 : -2305843009213693952 ≤ A) (h2 : A ≤ 2305843009213693952) : -2305843009213693952 ≤ A / c ∧ A / c ≤ 2305843009213693952 := by
  constructor
  · apply Int.le_ediv_of_mul_le hc; omega
  · have : A / c < 2305843009213693953 := Int.ediv_lt_of_lt_mul hc (by omega)
    omega
theorem mx1_b (c : Int) : 1 ≤ mx (clp c) 1 ∧ mx (clp c) 1 ≤ 2305843009213693952 := by
  have := clp_b c; unfold mx; split <;> omega

theorem wdiv_eq {k : Nat} (a c : Int) (hk : 0 < k) : wide_Div.f k a c = some (clp a / mx (clp c) 1, clp a % mx (clp c) 1) := by
  have ha := clp_b a
  have hm := mx1_b c
  unfold wide_Div.f
  rw [clip_eq a hk, Option.bind_some, clip_eq c hk, Option.bind_some, if_neg (by omega)]
  generalize clp a = A at *
  generalize mx (clp c) 1 = z at *
  have d := dm_eq (A := A) (c := z) (by omega)
  have b := ediv_b (A := A) (c := z) (by omega) ha.1 ha.2
  have m0 := Int.emod_nonneg A (show z ≠ 0 by omega)
  have m1 := Int.emod_lt_of_pos A (show 0 < z by omega)
  by_cases h : A.tmod z < 0
  · have e := d.1 h
    rw [if_pos h, w64 (n := Int.tdiv A z) (by omega) (by omega), w64 (n := Int.tdiv A z - 1) (by omega) (by omega), w64 (by omega) (by omega), e.1, e.2]
  · have e := d.2 h
    rw [if_neg h, w64 (n := Int.tdiv A z) (by omega) (by omega), e.1, e.2]

theorem tmod_gt {x c : Int} (hc : 0 < c) : -c < x.tmod c := by
  rcases Int.le_total 0 x with h | h
  · have := Int.tmod_nonneg c h; omega
  · have := Int.tmod_lt_of_pos (-x) hc; rw [Int.neg_tmod] at this; omega
theorem tz {x c : Int} (hc : 0 < c) : x.tmod c = 0 ↔ x % c = 0 := by
  have d := dm_eq (A := x) hc
  have g := tmod_gt (x := x) hc
  by_cases h : x.tmod c < 0
  · have := (d.1 h).2; omega
  · have := (d.2 h).2; omega
def lp (y : Int) : Bool := y % 4 == 0 && (y % 100 != 0 || y % 400 == 0)
theorem lp_iff (y : Int) : lp y = true ↔ (y % 4 = 0 ∧ (y % 100 ≠ 0 ∨ y % 400 = 0)) := by simp [lp]
theorem leap_eq (y : Int) : civil_Leap.f y = some (lp y) := by
  have t4 := tz (x := y) (c := 4) (by omega)
  have t100 := tz (x := y) (c := 100) (by omega)
  have t400 := tz (x := y) (c := 400) (by omega)
  unfold civil_Leap.f lp
  by_cases a : y % 4 = 0
  · rw [if_pos (t4.mpr a)]
    by_cases b : y % 100 = 0
    · rw [if_pos (t100.mpr b)]
      congr 1
      rw [show (y % 4 == 0) = true from by simp [a], show (y % 100 != 0) = false from by simp [b], Bool.true_and, Bool.false_or, Bool.eq_iff_iff, beq_iff_eq, beq_iff_eq]
      exact t400
    · rw [if_neg (fun h => b (t100.mp h))]; simp [a, b]
  · rw [if_neg (fun h => a (t4.mp h))]; simp [a]
def mo (m : Int) : Int := monthsL.getD (m.toNat - 1) 0
def ahv (y m : Int) : Int := mo m + (if 2 < m ∧ lp y = true then 1 else 0)
def dyv (y m : Int) : Int := if m = 2 then (if lp y = true then 29 else 28) else if m = 4 ∨ m = 6 ∨ m = 9 ∨ m = 11 then 30 else 31
theorem m12 {m : Int} (h1 : 1 ≤ m) (h2 : m ≤ 12) : m = 1 ∨ m = 2 ∨ m = 3 ∨ m = 4 ∨ m = 5 ∨ m = 6 ∨ m = 7 ∨ m = 8 ∨ m = 9 ∨ m = 10 ∨ m = 11 ∨ m = 12 := by omega
theorem mo_b {m : Int} (h1 : 1 ≤ m) (h2 : m ≤ 13) : 0 ≤ mo m ∧ mo m ≤ 365 := by
  have : m = 1 ∨ m = 2 ∨ m = 3 ∨ m = 4 ∨ m = 5 ∨ m = 6 ∨ m = 7 ∨ m = 8 ∨ m = 9 ∨ m = 10 ∨ m = 11 ∨ m = 12 ∨ m = 13 := by omega
  rcases this with rfl | rfl | rfl | rfl | rfl | rfl | rfl | rfl | rfl | rfl | rfl | rfl | rfl <;> decide
theorem ahv_b {y m : Int} (h1 : 1 ≤ m) (h2 : m ≤ 13) : 0 ≤ ahv y m ∧ ahv y m ≤ 366 := by
  have := mo_b h1 h2; unfold ahv; split <;> omega
theorem ahead_eq {y m : Int} (h1 : 1 ≤ m) (h2 : m ≤ 13) : civil_ahead.f y m = some (ahv y m) := by
  have hb := mo_b h1 h2
  unfold civil_ahead.f
  rw [if_pos ⟨h1, h2⟩]
  by_cases c : m > 2
  · rw [if_pos c, leap_eq, Option.bind_some]
    unfold ahv
    cases hl : lp y
    · simp [mo]
    · have hw : wrap64 (mo m + 1) = mo m + 1 := w64 (by omega) (by omega)
      simp [c]
      exact hw
  · rw [if_neg c]
    unfold ahv
    rw [if_neg (by omega)]; simp [mo]
theorem ah1 (y : Int) : ahv y 1 = 0 := by unfold ahv; rw [if_neg (by omega)]; decide
theorem ah_step {y m : Int} (h1 : 1 ≤ m) (h2 : m ≤ 12) : ahv y (m + 1) = ahv y m + dyv y m := by
  rcases m12 h1 h2 with rfl | rfl | rfl | rfl | rfl | rfl | rfl | rfl | rfl | rfl | rfl | rfl <;> unfold ahv dyv <;> cases lp y <;> decide
def yl (y : Int) : Int := if lp y = true then 366 else 365
theorem ah13 (y : Int) : ahv y 13 = yl y := by unfold ahv yl; cases lp y <;> decide
theorem dyv_b (y m : Int) : 28 ≤ dyv y m ∧ dyv y m ≤ 31 := by unfold dyv; split <;> (try split) <;> omega

def fst_ (y : Int) : Int := 365 * (y - 1) + (y - 1) / 4 - (y - 1) / 100 + (y - 1) / 400 - 719162
theorem fst_step (y : Int) : fst_ (y + 1) = fst_ y + yl y := by
  have h := lp_iff y
  unfold fst_ yl
  by_cases c : lp y = true
  · have := h.mp c; rw [if_pos c]; omega
  · have : ¬ (y % 4 = 0 ∧ (y % 100 ≠ 0 ∨ y % 400 = 0)) := fun x => c (h.mpr x)
    rw [if_neg c]; omega
theorem yl_b (y : Int) : 365 ≤ yl y ∧ yl y ≤ 366 := by unfold yl; split <;> omega
theorem fst_add (y : Int) (j : Nat) : fst_ y + 365 * j ≤ fst_ (y + j) ∧ fst_ (y + j) ≤ fst_ y + 366 * j := by
  induction j with
  | zero => simp
  | succ j ih =>
    have s := fst_step (y + j)
    have b := yl_b (y + j)
    rw [show y + ((j + 1 : Nat) : Int) = y + j + 1 from by omega]; omega
theorem fst_mono {a b : Int} (h : a ≤ b) : fst_ a + 365 * (b - a) ≤ fst_ b ∧ fst_ b ≤ fst_ a + 366 * (b - a) := by
  have := fst_add a (b - a).toNat
  rw [show a + ((b - a).toNat : Int) = b from by omega] at this; omega
theorem fst_1970 : fst_ 1970 = 0 := by decide
theorem fst_cycle (y q : Int) : fst_ (y + 400 * q) = fst_ y + 146097 * q := by unfold fst_; omega
theorem lp_cycle (y q : Int) : lp (y + 400 * q) = lp y := by
  have a := lp_iff (y + 400 * q)
  have b := lp_iff y
  have : ((y + 400 * q) % 4 = 0 ∧ ((y + 400 * q) % 100 ≠ 0 ∨ (y + 400 * q) % 400 = 0)) ↔ (y % 4 = 0 ∧ (y % 100 ≠ 0 ∨ y % 400 = 0)) := by omega
  cases h : lp y <;> cases h2 : lp (y + 400 * q) <;> simp_all
theorem fst_b (y : Int) : 365 * y - 4 * 1000000 - (if y < 0 then -y else 0) ≤ fst_ y ∧ fst_ y ≤ 365 * y + (if y < 0 then 0 else y) := by unfold fst_; split <;> omega
theorem first_eq {k : Nat} {y : Int} (h1 : -1000000000 ≤ y) (h2 : y ≤ 1000000000) (hk : 0 < k) : civil_first.f k y = some (fst_ y) := by
  have b := fst_b y
  unfold civil_first.f
  rw [w64 (n := y - 1) (by omega) (by omega), wdiv_eq _ _ hk, Option.bind_some, wdiv_eq _ _ hk, Option.bind_some, wdiv_eq _ _ hk, Option.bind_some, clp_id (x := y - 1) (by omega) (by omega)]
  rw [show mx (clp 4) 1 = 4 from by decide, show mx (clp 100) 1 = 100 from by decide, show mx (clp 400) 1 = 400 from by decide]
  dsimp only
  rw [w64 (n := 365 * (y - 1)) (by omega) (by omega), w64 (n := 365 * (y - 1) + (y - 1) / 4) (by omega) (by omega), w64 (n := 365 * (y - 1) + (y - 1) / 4 - (y - 1) / 100) (by omega) (by omega), w64 (n := 365 * (y - 1) + (y - 1) / 4 - (y - 1) / 100 + (y - 1) / 400) (by omega) (by omega), w64 (by omega) (by omega)]
  rfl
/-- A year, month and day that are the n-th day. -/
structure IsDate (n y m d : Int) : Prop where
  m1 : 1 ≤ m
  m2 : m ≤ 12
  d1 : 1 ≤ d
  d2 : d ≤ dyv y m
  hn : n = fst_ y + ahv y m + d - 1
theorem ah_mono {y m m' : Int} (h1 : 1 ≤ m) (h : m < m') (h2 : m' ≤ 13) : ahv y m + dyv y m ≤ ahv y m' := by
  obtain ⟨j, hj⟩ : ∃ j : Nat, m' = m + 1 + j := ⟨(m' - m - 1).toNat, by omega⟩
  subst hj
  induction j with
  | zero => have := ah_step (y := y) h1 (by omega); simpa using Int.le_of_eq this.symm
  | succ j ih =>
    have i := ih (by omega) (by omega)
    have s := ah_step (y := y) (m := m + 1 + j) (by omega) (by omega)
    have b := dyv_b y (m + 1 + j)
    rw [show m + 1 + ((j + 1 : Nat) : Int) = m + 1 + j + 1 from by omega]; omega
theorem date_in {n y m d : Int} (h : IsDate n y m d) : fst_ y ≤ n ∧ n < fst_ (y + 1) := by
  have m1 := h.m1; have m2 := h.m2; have d1 := h.d1; have d2 := h.d2; have hn := h.hn
  have a := ahv_b (y := y) (m := m) m1 (by omega)
  have b := ah_mono (y := y) m1 (show m < 13 by omega) (by omega)
  rw [ah13] at b
  have s := fst_step y
  omega
theorem date_unique {n y m d y' m' d' : Int} (h : IsDate n y m d) (h' : IsDate n y' m' d') : y = y' ∧ m = m' ∧ d = d' := by
  have i := date_in h
  have i' := date_in h'
  have hy : y = y' := by
    rcases Int.lt_trichotomy y y' with c | c | c
    · have := (fst_mono (show y + 1 ≤ y' by omega)).1; omega
    · exact c
    · have := (fst_mono (show y' + 1 ≤ y by omega)).1; omega
  subst hy
  have m1 := h.m1; have m2 := h.m2; have d1 := h.d1; have d2 := h.d2; have hn := h.hn
  have m1' := h'.m1; have m2' := h'.m2; have d1' := h'.d1; have d2' := h'.d2; have hn' := h'.hn
  have hm : m = m' := by
    rcases Int.lt_trichotomy m m' with c | c | c
    · have := ah_mono (y := y) m1 c (by omega); omega
    · exact c
    · have := ah_mono (y := y) m1' c (by omega); omega
  subst hm
  exact ⟨rfl, rfl, by omega⟩
def dayV (y m d : Int) : Int × Bool := if y > 11767033 ∨ y < -11767033 ∨ d < 1 ∨ (if 1 ≤ m ∧ m ≤ 12 then dyv y m else 0) < d ∨ fst_ y + ahv y m + d - 1 < -4294967296 ∨ 4294967296 < fst_ y + ahv y m + d - 1 then (0, false) else (fst_ y + ahv y m + d - 1, true)
theorem day_is {y m d : Int} (h : (dayV y m d).2 = true) : IsDate (dayV y m d).1 y m d ∧ -4294967296 ≤ (dayV y m d).1 ∧ (dayV y m d).1 ≤ 4294967296 := by
  unfold dayV at *
  by_cases c : y > 11767033 ∨ y < -11767033 ∨ d < 1 ∨ (if 1 ≤ m ∧ m ≤ 12 then dyv y m else 0) < d ∨ fst_ y + ahv y m + d - 1 < -4294967296 ∨ 4294967296 < fst_ y + ahv y m + d - 1
  · rw [if_pos c] at h; exact absurd h (by simp)
  · rw [if_neg c]
    have hm : 1 ≤ m ∧ m ≤ 12 := by
      by_cases hm : 1 ≤ m ∧ m ≤ 12
      · exact hm
      · rw [if_neg hm] at c; omega
    rw [if_pos hm] at c
    exact ⟨⟨hm.1, hm.2, by omega, by omega, rfl⟩, by dsimp only; omega, by dsimp only; omega⟩
theorem day_of {n y m d : Int} (h : IsDate n y m d) (n1 : -4294967296 ≤ n) (n2 : n ≤ 4294967296) : dayV y m d = (n, true) := by
  have i := date_in h
  have b := fst_b y
  have b2 := fst_b (y + 1)
  have hn := h.hn
  unfold dayV
  have yb : y ≤ 11767033 ∧ -11767033 ≤ y := by unfold fst_ at i; omega
  have d1 := h.d1
  have d2 := h.d2
  have hc : (if 1 ≤ m ∧ m ≤ 12 then dyv y m else 0) = dyv y m := if_pos ⟨h.m1, h.m2⟩
  rw [hc, ← hn, if_neg (by omega)]
theorem day_no {y m d : Int} (h : ¬ (dayV y m d).2 = true) : (dayV y m d).1 = 0 := by
  unfold dayV at *
  by_cases c : y > 11767033 ∨ y < -11767033 ∨ d < 1 ∨ (if 1 ≤ m ∧ m ≤ 12 then dyv y m else 0) < d ∨ fst_ y + ahv y m + d - 1 < -4294967296 ∨ 4294967296 < fst_ y + ahv y m + d - 1
  · rw [if_pos c]
  · rw [if_neg c] at h; exact absurd rfl h

theorem dt_l2 {n y : Int} (hy : fst_ y ≤ n ∧ n < fst_ (y + 1)) (e : Nat) : ∀ (k : Nat) (m : Int), 1 ≤ m → m ≤ 12 → 12 - m = e → ahv y m ≤ n - fst_ y → e + 1 < k → ∃ m' d', IsDate n y m' d' ∧ civil_Date.l2 k y (n - fst_ y) m = some (y, m', d', true) := by
  have s := fst_step y
  have a13 := ah13 y
  have yb := yl_b y
  induction e with
  | zero =>
    intro k m h1 h2 he ha hk
    obtain ⟨k, rfl⟩ : ∃ j, k = j + 1 := ⟨k - 1, by omega⟩
    obtain rfl : m = 12 := by omega
    have st := ah_step (y := y) (m := 12) (by omega) (by omega)
    have ab := ahv_b (y := y) (m := 12) (by omega) (by omega)
    rw [show (12 : Int) + 1 = 13 from rfl] at st
    rw [civil_Date.l2, w64 (n := 12 + 1) (by omega) (by omega), show (12 : Int) + 1 = 13 from rfl, ahead_eq (by omega) (by omega), Option.bind_some, if_neg (by omega), ahead_eq (by omega) (by omega), Option.bind_some, w64 (n := n - fst_ y - ahv y 12) (by omega) (by omega), w64 (by omega) (by omega)]
    exact ⟨12, _, ⟨by omega, by omega, by omega, by omega, by omega⟩, rfl⟩
  | succ e ih =>
    intro k m h1 h2 he ha hk
    obtain ⟨k, rfl⟩ : ∃ j, k = j + 1 := ⟨k - 1, by omega⟩
    have st := ah_step (y := y) (m := m) (by omega) (by omega)
    have ab := ahv_b (y := y) (m := m) (by omega) (by omega)
    rw [civil_Date.l2, w64 (n := m + 1) (by omega) (by omega), ahead_eq (by omega) (by omega), Option.bind_some]
    by_cases c : n - fst_ y ≥ ahv y (m + 1)
    · rw [if_pos c]
      exact ih k (m + 1) (by omega) (by omega) (by omega) c (by omega)
    · rw [if_neg c, ahead_eq (by omega) (by omega), Option.bind_some, w64 (n := n - fst_ y - ahv y m) (by omega) (by omega), w64 (by omega) (by omega)]
      exact ⟨m, _, ⟨by omega, by omega, by omega, by omega, by omega⟩, rfl⟩
theorem dt_l1 {n : Int} (n1 : -4294967296 ≤ n) (n2 : n ≤ 4294967296) (e : Nat) : ∀ (k : Nat) (y : Int), -20000000 ≤ y → y ≤ 20000000 → n < fst_ (y + 1) → fst_ y - n ≤ e → e + 20 < k → ∃ y' m' d', IsDate n y' m' d' ∧ civil_Date.l1 k n y = some (y', m', d', true) := by
  induction e with
  | zero =>
    intro k y y1 y2 hy he hk
    obtain ⟨k, rfl⟩ : ∃ j, k = j + 1 := ⟨k - 1, by omega⟩
    have fb := fst_b y
    rw [civil_Date.l1, first_eq (by omega) (by omega) (by omega), Option.bind_some, if_neg (by omega), Option.bind_some, w64 (by omega) (by omega)]
    obtain ⟨m', d', h1, h2⟩ := dt_l2 ⟨by omega, hy⟩ 11 k 1 (by omega) (by omega) (by omega) (by rw [ah1]; omega) (by omega)
    exact ⟨y, m', d', h1, h2⟩
  | succ e ih =>
    intro k y y1 y2 hy he hk
    obtain ⟨k, rfl⟩ : ∃ j, k = j + 1 := ⟨k - 1, by omega⟩
    have fb := fst_b y
    rw [civil_Date.l1, first_eq (by omega) (by omega) (by omega), Option.bind_some]
    by_cases c : fst_ y > n
    · have s := fst_step (y - 1)
      rw [show y - 1 + 1 = y from by omega] at s
      have yb := yl_b (y - 1)
      have y3 : -20000000 ≤ y - 1 := by unfold fst_ at c; omega
      rw [if_pos c, w64 (n := y - 1) (by omega) (by omega)]
      exact ih k (y - 1) y3 (by omega) (by rw [show y - 1 + 1 = y from by omega]; omega) (by omega) (by omega)
    · rw [if_neg c, Option.bind_some, w64 (by omega) (by omega)]
      obtain ⟨m', d', h1, h2⟩ := dt_l2 ⟨by omega, hy⟩ 11 k 1 (by omega) (by omega) (by omega) (by rw [ah1]; omega) (by omega)
      exact ⟨y, m', d', h1, h2⟩
theorem dt_l0 {n : Int} (n1 : -4294967296 ≤ n) (n2 : n ≤ 4294967296) (e : Nat) : ∀ (k : Nat) (y : Int), -20000000 ≤ y → y ≤ 20000000 → n - fst_ (y + 1) < e → e + 40000000000 < k → ∃ y' m' d', IsDate n y' m' d' ∧ civil_Date.l0 k n y = some (y', m', d', true) := by
  have fin : ∀ (k : Nat) (y : Int), -20000000 ≤ y → y ≤ 20000000 → n < fst_ (y + 1) → 30000000000 < k → ∃ y' m' d', IsDate n y' m' d' ∧ civil_Date.l1 k n y = some (y', m', d', true) := by
    intro k y y1 y2 hy hk
    have fb := fst_b y
    exact dt_l1 n1 n2 20000000000 k y y1 y2 hy (by omega) (by omega)
  induction e with
  | zero =>
    intro k y y1 y2 he hk
    obtain ⟨k, rfl⟩ : ∃ j, k = j + 1 := ⟨k - 1, by omega⟩
    rw [civil_Date.l0, w64 (n := y + 1) (by omega) (by omega), first_eq (by omega) (by omega) (by omega), Option.bind_some, if_neg (by omega)]
    exact fin k y y1 y2 (by omega) (by omega)
  | succ e ih =>
    intro k y y1 y2 he hk
    obtain ⟨k, rfl⟩ : ∃ j, k = j + 1 := ⟨k - 1, by omega⟩
    rw [civil_Date.l0, w64 (n := y + 1) (by omega) (by omega), first_eq (by omega) (by omega) (by omega), Option.bind_some]
    by_cases c : fst_ (y + 1) ≤ n
    · have s := fst_step y
      have yb := yl_b y
      have fb := fst_b y
      have fb1 := fst_b (y + 1)
      rw [if_pos c, first_eq (by omega) (by omega) (by omega), Option.bind_some, w64 (n := n - fst_ y) (by omega) (by omega), wdiv_eq _ _ (by omega), Option.bind_some, clp_id (x := n - fst_ y) (by omega) (by omega), show mx (clp 366) 1 = 366 from by decide]
      dsimp only
      generalize hq : (n - fst_ y) / 366 = q
      have q0 : 0 ≤ q := by omega
      have hx : 1 ≤ mx q 1 ∧ (mx q 1 = q ∨ mx q 1 = 1) := by unfold mx; split <;> omega
      generalize mx q 1 = x at hx
      have f1 := fst_mono (show y ≤ y + x by omega)
      have f2 := fst_mono (show y + 1 ≤ y + x + 1 by omega)
      have f3 : fst_ (y + x) ≤ n := by
        rcases hx.2 with h | h
        · omega
        · subst h; exact c
      have y3 : y + x ≤ 20000000 := by unfold fst_ at f3; omega
      rw [w64 (n := y + x) (by omega) (by omega)]
      exact ih k (y + x) (by omega) y3 (by omega) (by omega)
    · rw [if_neg c]
      exact fin k y y1 y2 (by omega) (by omega)
theorem date_eq {k : Nat} {n : Int} (n1 : -4294967296 ≤ n) (n2 : n ≤ 4294967296) (hk : 100000000000 < k) : ∃ y m d, IsDate n y m d ∧ civil_Date.f k n = some (y, m, d, true) := by
  obtain ⟨k, rfl⟩ : ∃ j, k = j + 1 := ⟨k - 1, by omega⟩
  unfold civil_Date.f
  rw [if_neg (by omega), decide_eq_false (by omega), civil_Date.j0, if_neg (by simp), wdiv_eq _ _ (by omega), Option.bind_some, clp_id (x := n) (by omega) (by omega), show mx (clp 366) 1 = 366 from by decide]
  dsimp only
  rw [w64 (n := n / 366 + 1970) (by omega) (by omega)]
  have fb := fst_b (n / 366 + 1970 + 1)
  exact dt_l0 n1 n2 30000000000 k _ (by omega) (by omega) (by omega) (by omega)
theorem date_out {k : Nat} {n : Int} (h : n < -4294967296 ∨ 4294967296 < n) (hk : 0 < k) : civil_Date.f k n = some (0, 0, 0, false) := by
  obtain ⟨k, rfl⟩ : ∃ j, k = j + 1 := ⟨k - 1, by omega⟩
  unfold civil_Date.f
  by_cases c : n < -4294967296
  · rw [if_pos c, civil_Date.j0, if_pos rfl]
  · rw [if_neg c, decide_eq_true (by omega), civil_Date.j0, if_pos rfl]

theorem rleap_eq (y : Int) : clepsydraref17_Leap.f y = some (lp y) := by
  have t4 := tz (x := y) (c := 4) (by omega)
  have t100 := tz (x := y) (c := 100) (by omega)
  have t400 := tz (x := y) (c := 400) (by omega)
  unfold clepsydraref17_Leap.f lp
  by_cases c : y % 400 = 0
  · have a : y % 4 = 0 := by omega
    rw [if_pos (t400.mpr c)]; simp [a, c]
  · rw [if_neg (fun h => c (t400.mp h))]
    by_cases a : y % 4 = 0
    · rw [if_pos (t4.mpr a)]
      congr 1
      rw [show (y % 4 == 0) = true from by simp [a], show (y % 400 == 0) = false from by simp [c], Bool.true_and, Bool.or_false, Bool.eq_iff_iff, bne_iff_ne, bne_iff_ne]
      exact not_congr t100
    · rw [if_neg (fun h => a (t4.mp h))]; simp [a]
theorem rdays_eq {k : Nat} (y m : Int) (hk : 2 < k) : clepsydraref17_Days.f k y m = some (if 1 ≤ m ∧ m ≤ 12 then dyv y m else 0) := by
  obtain ⟨k, rfl⟩ : ∃ j, k = j + 1 := ⟨k - 1, by omega⟩
  unfold clepsydraref17_Days.f
  by_cases c1 : m < 1
  · rw [if_pos c1, if_neg (by omega), clepsydraref17_Days.j0, if_pos rfl]
  · rw [if_neg c1]
    by_cases c2 : m > 12
    · rw [decide_eq_true c2, if_neg (by omega), clepsydraref17_Days.j0, if_pos rfl]
    · rw [decide_eq_false c2, if_pos (by omega), clepsydraref17_Days.j0, if_neg (by simp), rleap_eq]
      rcases m12 (m := m) (by omega) (by omega) with rfl | rfl | rfl | rfl | rfl | rfl | rfl | rfl | rfl | rfl | rfl | rfl <;> unfold dyv <;> cases lp y <;> rfl

theorem ryear_eq (y : Int) : clepsydraref17_Year.f y = some (yl y) := by
  unfold clepsydraref17_Year.f yl
  rw [rleap_eq, Option.bind_some]
  cases lp y <;> rfl

theorem rdt_l2 {n y : Int} (hy : fst_ y ≤ n ∧ n < fst_ (y + 1)) (e : Nat) : ∀ (k : Nat) (m : Int), 1 ≤ m → m ≤ 12 → 12 - m = e → ahv y m ≤ n - fst_ y → e + 10 < k → ∃ m' d', IsDate n y m' d' ∧ clepsydraref17_Date.l2 k (n - fst_ y - ahv y m) y m = some (y, m', d', true) := by
  have s := fst_step y
  have a13 := ah13 y
  have yb := yl_b y
  induction e with
  | zero =>
    intro k m h1 h2 he ha hk
    obtain ⟨k, rfl⟩ : ∃ j, k = j + 1 := ⟨k - 1, by omega⟩
    obtain rfl : m = 12 := by omega
    have st := ah_step (y := y) (m := 12) (by omega) (by omega)
    have ab := ahv_b (y := y) (m := 12) (by omega) (by omega)
    rw [show (12 : Int) + 1 = 13 from rfl] at st
    rw [clepsydraref17_Date.l2, rdays_eq _ _ (by omega), Option.bind_some, show (if 1 ≤ (12 : Int) ∧ (12 : Int) ≤ 12 then dyv y 12 else 0) = dyv y 12 from if_pos (by omega), if_neg (by omega), w64 (by omega) (by omega)]
    exact ⟨12, _, ⟨by omega, by omega, by omega, by omega, by omega⟩, rfl⟩
  | succ e ih =>
    intro k m h1 h2 he ha hk
    obtain ⟨k, rfl⟩ : ∃ j, k = j + 1 := ⟨k - 1, by omega⟩
    have st := ah_step (y := y) (m := m) (by omega) (by omega)
    have ab := ahv_b (y := y) (m := m) (by omega) (by omega)
    have db := dyv_b y m
    rw [clepsydraref17_Date.l2, rdays_eq _ _ (by omega), Option.bind_some, show (if 1 ≤ m ∧ m ≤ 12 then dyv y m else 0) = dyv y m from if_pos (by omega)]
    by_cases c : n - fst_ y - ahv y m ≥ dyv y m
    · rw [if_pos c, Option.bind_some, w64 (n := m + 1) (by omega) (by omega), w64 (n := n - fst_ y - ahv y m - dyv y m) (by omega) (by omega), show n - fst_ y - ahv y m - dyv y m = n - fst_ y - ahv y (m + 1) from by omega]
      exact ih k (m + 1) (by omega) (by omega) (by omega) (by omega) (by omega)
    · rw [if_neg c, w64 (by omega) (by omega)]
      exact ⟨m, _, ⟨by omega, by omega, by omega, by omega, by omega⟩, rfl⟩
theorem rdt_l1 {n : Int} (n1 : -4294967296 ≤ n) (n2 : n ≤ 4294967296) (e : Nat) : ∀ (k : Nat) (y : Int), -20000000 ≤ y → y ≤ 20000000 → fst_ y ≤ n → n - fst_ y < e → e + 30 < k → ∃ y' m' d', IsDate n y' m' d' ∧ clepsydraref17_Date.l1 k (n - fst_ y) y = some (y', m', d', true) := by
  induction e with
  | zero => intro k y y1 y2 hy he hk; omega
  | succ e ih =>
    intro k y y1 y2 hy he hk
    obtain ⟨k, rfl⟩ : ∃ j, k = j + 1 := ⟨k - 1, by omega⟩
    have fb := fst_b y
    have s := fst_step y
    have yb := yl_b y
    rw [clepsydraref17_Date.l1, ryear_eq, Option.bind_some]
    by_cases c : n - fst_ y ≥ yl y
    · have y3 : y + 1 ≤ 20000000 := by
        have : fst_ (y + 1) ≤ n := by omega
        unfold fst_ at this; omega
      rw [if_pos c, Option.bind_some, w64 (n := y + 1) (by omega) (by omega), w64 (n := n - fst_ y - yl y) (by omega) (by omega), show n - fst_ y - yl y = n - fst_ (y + 1) from by omega]
      exact ih k (y + 1) (by omega) y3 (by omega) (by omega) (by omega)
    · rw [if_neg c]
      obtain ⟨m', d', h1, h2⟩ := rdt_l2 (n := n) (y := y) ⟨hy, by omega⟩ 11 k 1 (by omega) (by omega) (by omega) (by rw [ah1]; omega) (by omega)
      rw [ah1, Int.sub_zero] at h2
      exact ⟨y, m', d', h1, h2⟩
theorem rdt_pos {n : Int} (n1 : -4294967296 ≤ n) (n2 : n ≤ 4294967296) {k : Nat} {q : Int} (q1 : -40000 ≤ q) (q2 : q ≤ 0) (h : 0 ≤ n - 146097 * q) (hk : 1000000 < k) : ∃ y' m' d', IsDate n y' m' d' ∧ clepsydraref17_Date.l0 k (n - 146097 * q) (1970 + 400 * q) = some (y', m', d', true) := by
  obtain ⟨k, rfl⟩ : ∃ j, k = j + 1 := ⟨k - 1, by omega⟩
  have c := fst_cycle 1970 (q + (n - 146097 * q) / 146097)
  rw [fst_1970] at c
  rw [clepsydraref17_Date.l0, if_neg (by omega), Int.tmod_eq_emod_of_nonneg h, Int.tdiv_eq_ediv_of_nonneg h, w64 (n := (n - 146097 * q) / 146097) (by omega) (by omega), w64 (n := (n - 146097 * q) / 146097 * 400) (by omega) (by omega), w64 (by omega) (by omega)]
  rw [show 1970 + 400 * q + (n - 146097 * q) / 146097 * 400 = 1970 + 400 * (q + (n - 146097 * q) / 146097) from by omega, show (n - 146097 * q) % 146097 = n - fst_ (1970 + 400 * (q + (n - 146097 * q) / 146097)) from by omega]
  exact rdt_l1 n1 n2 200000 k _ (by omega) (by omega) (by omega) (by omega) (by omega)
theorem rdate_eq {k : Nat} {n : Int} (n1 : -4294967296 ≤ n) (n2 : n ≤ 4294967296) (hk : 2000000 < k) : ∃ y m d, IsDate n y m d ∧ clepsydraref17_Date.f k n = some (y, m, d, true) := by
  obtain ⟨k, rfl⟩ : ∃ j, k = j + 2 := ⟨k - 2, by omega⟩
  unfold clepsydraref17_Date.f
  rw [if_neg (by omega), decide_eq_false (by omega), clepsydraref17_Date.j0, if_neg (by simp)]
  by_cases c : n < 0
  · rw [clepsydraref17_Date.l0, if_pos c, w64 (n := -n) (by omega) (by omega), w64 (n := -n + 146096) (by omega) (by omega), Int.tdiv_eq_ediv_of_nonneg (by omega)]
    have e : (-n + 146096) / 146097 = -(-((-n + 146096) / 146097)) := by omega
    generalize hq : -((-n + 146096) / 146097) = q at e
    rw [e, w64 (n := -q) (by omega) (by omega), w64 (n := -q * 146097) (by omega) (by omega), w64 (n := n + -q * 146097) (by omega) (by omega), w64 (n := 400 * -q) (by omega) (by omega), w64 (n := 1970 - 400 * -q) (by omega) (by omega), show n + -q * 146097 = n - 146097 * q from by omega, show 1970 - 400 * -q = 1970 + 400 * q from by omega]
    exact rdt_pos n1 n2 (by omega) (by omega) (by omega) (by omega)
  · have := rdt_pos n1 n2 (k := k + 1) (q := 0) (by omega) (by omega) (by omega) (by omega)
    simpa using this
theorem rdate_out {k : Nat} {n : Int} (h : n < -4294967296 ∨ 4294967296 < n) (hk : 0 < k) : clepsydraref17_Date.f k n = some (0, 0, 0, false) := by
  obtain ⟨k, rfl⟩ : ∃ j, k = j + 1 := ⟨k - 1, by omega⟩
  unfold clepsydraref17_Date.f
  by_cases c : n > 4294967296
  · rw [if_pos c, clepsydraref17_Date.j0, if_pos rfl]
  · rw [if_neg c, decide_eq_true (by omega), clepsydraref17_Date.j0, if_pos rfl]

theorem rclip_eq (x : Int) : clepsydraref01_Clip.f x = some (clp x) := by
  unfold clepsydraref01_Clip.f clp
  by_cases h1 : x > 2305843009213693952
  · rw [if_pos h1, if_neg (by omega), if_pos (by omega)]
  · rw [if_neg h1]
    by_cases h2 : x < -2305843009213693952
    · rw [if_pos h2, if_pos h2]
    · rw [if_neg h2, if_neg h2, if_neg (by omega)]

theorem one_eq (c : Int) : clepsydraref02_one.f c = some (mx (clp c) 1) := by
  unfold clepsydraref02_one.f
  rw [rclip_eq, Option.bind_some]
  unfold mx
  by_cases h : clp c < 1
  · rw [if_pos h, if_pos h]
  · rw [if_neg h, if_neg h]

theorem rdiv_eq (a c : Int) : clepsydraref02_Div.f a c = some (clp a / mx (clp c) 1, clp a % mx (clp c) 1) := by
  have ha := clp_b a
  have hm := mx1_b c
  unfold clepsydraref02_Div.f
  rw [rclip_eq, Option.bind_some, one_eq, Option.bind_some, if_neg (by omega)]
  generalize clp a = A at *
  generalize mx (clp c) 1 = z at *
  have d := dm_eq (A := A) (c := z) (by omega)
  have b := ediv_b (A := A) (c := z) (by omega) ha.1 ha.2
  have m0 := Int.emod_nonneg A (show z ≠ 0 by omega)
  have m1 := Int.emod_lt_of_pos A (show 0 < z by omega)
  have hd := Int.tmod_def A z
  by_cases h : A.tmod z < 0
  · have e := d.1 h
    have hq : A - (A.tmod z + z) = A / z * z := by rw [e.1, Int.sub_mul, Int.mul_comm (A.tdiv z) z]; omega
    rw [if_pos h, w64 (n := A.tmod z + z) (by omega) (by omega), w64 (n := A - (A.tmod z + z)) (by omega) (by omega), hq, Int.mul_tdiv_cancel _ (by omega), w64 (by omega) (by omega), e.2]
  · have e := d.2 h
    have hq : A - A.tmod z = A / z * z := by rw [e.1, Int.mul_comm (A.tdiv z) z]; omega
    rw [if_neg h, w64 (n := A - A.tmod z) (by omega) (by omega), hq, Int.mul_tdiv_cancel _ (by omega), w64 (by omega) (by omega), e.2]

abbrev LS := S82
theorem ltdrop {l : List LS} {i : Int} (h0 : 0 ≤ i) (h1 : i < (l.length : Int)) : l.drop i.toNat = rd_T82 l i :: l.drop (i + 1).toNat := by
  have h : i.toNat < l.length := by omega
  rw [List.drop_eq_getElem_cons h, show (i + 1).toNat = i.toNat + 1 from by omega]
  congr 1
  simp [rd_T82, List.getD_eq_getElem?_getD, List.getElem?_eq_getElem h]
def okE (first : Bool) (prev off : Int) (x : LS) : Bool := (decide (0 ≤ x.f0) && decide (x.f0 ≤ 1099511627776)) && ((decide (-32 ≤ x.f1) && decide (x.f1 ≤ 32)) && ((first || decide (prev + 86400 ≤ x.f0)) && (decide (x.f1 = off + 1) || decide (x.f1 = off - 1))))
def tabB (first : Bool) (prev off : Int) : List LS → Bool
  | [] => true
  | x :: xs => okE first prev off x && tabB false x.f0 x.f1 xs
theorem in_one {k : Nat} (a0 a1 x : Int) (hk : 2 < k) : wire_in.f k a0 a1 [x] = some (decide (a0 ≤ x) && decide (x ≤ a1)) := by
  obtain ⟨k, rfl⟩ : ∃ m, k = m + 2 := ⟨k - 2, by omega⟩
  simp only [wire_in.f, wire_in.l0, List.length_singleton]
  rw [if_pos (by decide), if_pos (by decide), if_pos (by decide)]
  have e : rd [x] 0 = x := rfl
  rw [e]
  by_cases h1 : x < a0
  · rw [if_pos h1, decide_eq_false (by omega)]; rfl
  · rw [if_neg h1, decide_eq_true (by omega)]
    by_cases h2 : x > a1
    · rw [if_pos h2, decide_eq_false (by omega)]; rfl
    · rw [if_neg h2, decide_eq_true (by omega), w64 (n := 0 + 1) (by omega) (by omega), if_neg (by decide)]; rfl
theorem wtab_l0 (l : List LS) (hl : l.length ≤ 4611686018427387904) (d : Nat) : ∀ (k : Nat) (i off : Int), 0 ≤ i → i ≤ l.length → i ≤ 32 → (l.length : Int) - i = d → d + 10 < k → -32 ≤ off → off ≤ 32 → (0 < i → 0 ≤ (rd_T82 l (i - 1)).f0 ∧ (rd_T82 l (i - 1)).f0 ≤ 1099511627776) →
    wire_Table.l0 k l off l (l.length : Int) i = some (tabB (decide (i = 0)) (rd_T82 l (i - 1)).f0 off (l.drop i.toNat) && decide (l.length ≤ 32)) := by
  induction d with
  | zero =>
    intro k i off h0 h1 h32 hd hk o1 o2 hp
    obtain ⟨k, rfl⟩ : ∃ m, k = m + 1 := ⟨k - 1, by omega⟩
    rw [wire_Table.l0, if_neg (by omega), List.drop_eq_nil_of_le (by omega), decide_eq_true (show l.length ≤ 32 by omega)]
    rfl
  | succ d ih =>
    intro k i off h0 h1 h32 hd hk o1 o2 hp
    obtain ⟨k, rfl⟩ : ∃ m, k = m + 1 := ⟨k - 1, by omega⟩
    have hlt : i < (l.length : Int) := by omega
    rw [wire_Table.l0, if_pos hlt, if_pos h0, if_pos hlt, ltdrop h0 hlt]
    by_cases h : i ≥ 32
    · rw [if_pos h, decide_eq_false (show ¬ l.length ≤ 32 by omega), Bool.and_false]
    rw [if_neg h, in_one _ _ _ (by omega), Option.bind_some, in_one _ _ _ (by omega)]
    have ih' := ih k (i + 1) (rd_T82 l i).f1 (by omega) (by omega) (by omega) (by omega) (by omega)
    rw [show i + 1 - 1 = i from by omega, decide_eq_false (show ¬ i + 1 = 0 by omega)] at ih'
    simp only [tabB]
    unfold okE
    generalize rd_T82 l i = x at *
    by_cases nb1 : ¬ (0 ≤ x.f0 ∧ x.f0 ≤ 1099511627776)
    · rw [show (decide (0 ≤ x.f0) && decide (x.f0 ≤ 1099511627776)) = false from by simp; omega, if_neg (by decide)]; rfl
    have b1 : 0 ≤ x.f0 ∧ x.f0 ≤ 1099511627776 := by omega
    clear nb1
    rw [show (decide (0 ≤ x.f0) && decide (x.f0 ≤ 1099511627776)) = true from by simp; omega, if_pos rfl, Option.bind_some, Bool.true_and]
    by_cases nb2 : ¬ (-32 ≤ x.f1 ∧ x.f1 ≤ 32)
    · rw [show (decide (-32 ≤ x.f1) && decide (x.f1 ≤ 32)) = false from by simp; omega, if_neg (by decide)]; rfl
    have b2 : -32 ≤ x.f1 ∧ x.f1 ≤ 32 := by omega
    clear nb2
    rw [show (decide (-32 ≤ x.f1) && decide (x.f1 ≤ 32)) = true from by simp; omega, if_pos rfl, Bool.true_and, w64 (n := i + 1) (by omega) (by omega), w64 (n := x.f1 - off) (by omega) (by omega)]
    have ih2 := ih' b2.1 b2.2 (fun _ => b1)
    rw [ih2]
    have last : (if x.f1 - off = 1 then some (tabB false x.f0 x.f1 (l.drop (i + 1).toNat) && decide (l.length ≤ 32)) else if x.f1 - off = -1 then some (tabB false x.f0 x.f1 (l.drop (i + 1).toNat) && decide (l.length ≤ 32)) else some false) = some ((decide (x.f1 = off + 1) || decide (x.f1 = off - 1)) && tabB false x.f0 x.f1 (l.drop (i + 1).toNat) && decide (l.length ≤ 32)) := by
      by_cases q1 : x.f1 - off = 1
      · rw [if_pos q1, decide_eq_true (show x.f1 = off + 1 by omega)]; simp
      · rw [if_neg q1, decide_eq_false (show ¬ x.f1 = off + 1 by omega)]
        by_cases q2 : x.f1 - off = -1
        · rw [if_pos q2, decide_eq_true (show x.f1 = off - 1 by omega)]; simp
        · rw [if_neg q2, decide_eq_false (show ¬ x.f1 = off - 1 by omega)]; simp
    by_cases c : i > 0
    · have hp' := hp (by omega)
      rw [if_pos c, w64 (n := i - 1) (by omega) (by omega), if_pos (by omega), if_pos (by omega), decide_eq_false (show ¬ i = 0 by omega), Bool.false_or]
      generalize rd_T82 l (i - 1) = p at *
      rw [w64 (n := x.f0 - p.f0) (by omega) (by omega)]
      by_cases q : x.f0 - p.f0 < 86400
      · rw [if_pos q, decide_eq_false (show ¬ p.f0 + 86400 ≤ x.f0 by omega)]; simp
      · rw [if_neg q, last, decide_eq_true (show p.f0 + 86400 ≤ x.f0 by omega), Bool.true_and]
    · rw [if_neg c, decide_eq_true (show i = 0 by omega), last, Bool.true_or, Bool.true_and]
def tableV (l : List LS) : Bool := tabB true 0 0 l && decide (l.length ≤ 32)
theorem tabB_prev (p q off : Int) (l : List LS) : tabB true p off l = tabB true q off l := by cases l <;> rfl
theorem wtab_eq {k : Nat} (l : List LS) (hl : l.length ≤ 256) (hk : 300 < k) : wire_Table.f k l = some (tableV l) := by
  unfold wire_Table.f tableV
  rw [wtab_l0 l (by omega) l.length k 0 0 (by omega) (by omega) (by omega) (by omega) (by omega) (by omega) (by omega) (by omega), show decide ((0 : Int) = 0) = true from rfl, tabB_prev _ 0]
  rfl

theorem rtab_l0 (l : List LS) (hl : l.length ≤ 4611686018427387904) (d : Nat) : ∀ (k : Nat) (i off : Int), 0 ≤ i → i ≤ l.length → (l.length : Int) - i = d → 4 * d + 10 < k → -32 ≤ off → off ≤ 32 → (0 < i → 0 ≤ (rd_T82 l (i - 1)).f0 ∧ (rd_T82 l (i - 1)).f0 ≤ 1099511627776) →
    clepsydraref06_Table.l0 k l off l (l.length : Int) i = some (tabB (decide (i = 0)) (rd_T82 l (i - 1)).f0 off (l.drop i.toNat)) := by
  induction d with
  | zero =>
    intro k i off h0 h1 hd hk o1 o2 hp
    obtain ⟨k, rfl⟩ : ∃ m, k = m + 1 := ⟨k - 1, by omega⟩
    rw [clepsydraref06_Table.l0, if_neg (by omega), List.drop_eq_nil_of_le (by omega)]
    rfl
  | succ d ih =>
    intro k i off h0 h1 hd hk o1 o2 hp
    obtain ⟨k, rfl⟩ : ∃ m, k = m + 3 := ⟨k - 3, by omega⟩
    have hlt : i < (l.length : Int) := by omega
    rw [clepsydraref06_Table.l0, if_pos hlt, if_pos h0, if_pos hlt, ltdrop h0 hlt]
    have ih' := ih k (i + 1) (rd_T82 l i).f1 (by omega) (by omega) (by omega) (by omega)
    rw [show i + 1 - 1 = i from by omega, decide_eq_false (show ¬ i + 1 = 0 by omega)] at ih'
    simp only [tabB]
    unfold okE
    generalize rd_T82 l i = x at *
    have jt : clepsydraref06_Table.j1 (k + 2) l off i l (l.length : Int) i true x.f0 x.f1 = some false := by rw [clepsydraref06_Table.j1, if_pos rfl]
    by_cases q1 : x.f0 < 0
    · rw [if_pos q1, jt, decide_eq_false (show ¬ 0 ≤ x.f0 by omega)]; rfl
    rw [if_neg q1]
    by_cases q2 : x.f0 > 1099511627776
    · rw [if_pos q2, jt, decide_eq_false (show ¬ x.f0 ≤ 1099511627776 by omega), Bool.and_false]; rfl
    rw [if_neg q2]
    by_cases q3 : x.f1 < -32
    · rw [if_pos q3, jt, decide_eq_false (show ¬ -32 ≤ x.f1 by omega)]; simp
    rw [if_neg q3, decide_eq_true (show 0 ≤ x.f0 by omega), decide_eq_true (show x.f0 ≤ 1099511627776 by omega), decide_eq_true (show -32 ≤ x.f1 by omega)]
    by_cases q4 : x.f1 > 32
    · rw [decide_eq_true q4, jt, decide_eq_false (show ¬ x.f1 ≤ 32 by omega)]; simp
    rw [decide_eq_false q4, decide_eq_true (show x.f1 ≤ 32 by omega), clepsydraref06_Table.j1, if_neg (by decide)]
    have ih2 := ih' (by omega) (by omega) (fun _ => ⟨by omega, by omega⟩)
    have j2 : ∀ b : Bool, clepsydraref06_Table.j2 (k + 1) l off l (l.length : Int) i b x.f0 x.f1 = some (!b && ((decide (x.f1 = off + 1) || decide (x.f1 = off - 1)) && tabB false x.f0 x.f1 (l.drop (i + 1).toNat))) := by
      intro b
      rw [clepsydraref06_Table.j2, w64 (n := off + 1) (by omega) (by omega), w64 (n := off - 1) (by omega) (by omega), w64 (n := i + 1) (by omega) (by omega), ih2]
      cases b
      · rw [if_neg (by decide)]
        by_cases z1 : x.f1 = off + 1
        · rw [if_pos z1, decide_eq_true z1]; rfl
        · rw [if_neg z1, decide_eq_false z1]
          by_cases z2 : x.f1 = off - 1
          · rw [if_pos z2, decide_eq_true z2]; rfl
          · rw [if_neg z2, decide_eq_false z2]; rfl
      · rw [if_pos rfl]; rfl
    by_cases c : i > 0
    · have hp' := hp (by omega)
      rw [if_pos c, w64 (n := i - 1) (by omega) (by omega), if_pos (by omega), if_pos (by omega), decide_eq_false (show ¬ i = 0 by omega), j2]
      generalize rd_T82 l (i - 1) = p at *
      rw [w64 (n := p.f0 + 86400) (by omega) (by omega)]
      by_cases q : x.f0 < p.f0 + 86400
      · rw [decide_eq_true q, decide_eq_false (show ¬ p.f0 + 86400 ≤ x.f0 by omega)]; simp
      · rw [decide_eq_false q, decide_eq_true (show p.f0 + 86400 ≤ x.f0 by omega)]; simp
    · rw [if_neg c, j2, decide_eq_true (show i = 0 by omega)]; simp
theorem rtab_eq {k : Nat} (l : List LS) (hl : l.length ≤ 256) (hk : 200 < k) : clepsydraref06_Table.f k l = some (tableV l) := by
  unfold clepsydraref06_Table.f tableV
  by_cases h : (l.length : Int) > 32
  · rw [if_pos h, decide_eq_false (show ¬ l.length ≤ 32 by omega), Bool.and_false]
  · rw [if_neg h, rtab_l0 l (by omega) l.length k 0 0 (by omega) (by omega) (by omega) (by omega) (by omega) (by omega) (by omega), show decide ((0 : Int) = 0) = true from rfl, tabB_prev _ 0, decide_eq_true (show l.length ≤ 32 by omega), Bool.and_true]
    rfl

theorem ok_iff {first : Bool} {prev off : Int} {x : LS} (h : okE first prev off x = true) : 0 ≤ x.f0 ∧ x.f0 ≤ 1099511627776 ∧ -32 ≤ x.f1 ∧ x.f1 ≤ 32 ∧ (first = true ∨ prev + 86400 ≤ x.f0) ∧ (x.f1 = off + 1 ∨ x.f1 = off - 1) := by
  unfold okE at h
  simp only [Bool.and_eq_true, Bool.or_eq_true, decide_eq_true_eq] at h
  obtain ⟨⟨h1, h2⟩, ⟨h3, h4⟩, h5, h6⟩ := h
  exact ⟨h1, h2, h3, h4, h5, h6⟩
theorem tab_cons {first : Bool} {prev off : Int} {x : LS} {xs : List LS} (h : tabB first prev off (x :: xs) = true) : okE first prev off x = true ∧ tabB false x.f0 x.f1 xs = true := by
  simpa [tabB] using h
theorem tab_mem (l : List LS) : ∀ (first : Bool) (prev off : Int), tabB first prev off l = true → ∀ x ∈ l, 0 ≤ x.f0 ∧ x.f0 ≤ 1099511627776 ∧ -32 ≤ x.f1 ∧ x.f1 ≤ 32 := by
  induction l with
  | nil => intro _ _ _ _ x hx; cases hx
  | cons y ys ih =>
    intro first prev off h x hx
    have h2 := tab_cons h
    have h3 := ok_iff h2.1
    rcases List.mem_cons.mp hx with rfl | hx
    · exact ⟨h3.1, h3.2.1, h3.2.2.1, h3.2.2.2.1⟩
    · exact ih _ _ _ h2.2 x hx
theorem tab_gt (l : List LS) : ∀ (prev off : Int), tabB false prev off l = true → ∀ x ∈ l, prev + 86400 ≤ x.f0 := by
  induction l with
  | nil => intro _ _ _ x hx; cases hx
  | cons y ys ih =>
    intro prev off h x hx
    have h2 := tab_cons h
    have h3 := ok_iff h2.1
    rcases List.mem_cons.mp hx with rfl | hx
    · rcases h3.2.2.2.2.1 with h4 | h4
      · cases h4
      · exact h4
    · have := ih _ _ h2.2 x hx
      rcases h3.2.2.2.2.1 with h4 | h4
      · cases h4
      · omega
/-- The offset of a count; whether it is a second more. -/
def lO (o : Int) : List LS → Int → Int
  | [], _ => o
  | x :: xs, c => if x.f0 ≤ c then lO x.f1 xs c else o
def lM (o : Int) : List LS → Int → Bool
  | [], _ => false
  | x :: xs, c => if x.f0 ≤ c then lM x.f1 xs c else decide (c = x.f0 - 1) && decide (o < x.f1)
def mid (x : LS) : Bool := decide ((x.f0 - x.f1) % 86400 = 0)
def goodV (l : List LS) : Bool := tableV l && l.all mid
theorem lO_b (l : List LS) : ∀ (first : Bool) (prev o c : Int), tabB first prev o l = true → -32 ≤ o → o ≤ 32 → -32 ≤ lO o l c ∧ lO o l c ≤ 32 := by
  induction l with
  | nil => intro _ _ o c _ h1 h2; exact ⟨h1, h2⟩
  | cons x xs ih =>
    intro first prev o c h h1 h2
    have h3 := tab_cons h
    have h4 := ok_iff h3.1
    unfold lO
    split
    · exact ih _ _ _ c h3.2 h4.2.2.1 h4.2.2.2.1
    · exact ⟨h1, h2⟩
theorem at_l0 (c : Int) (l : List LS) (hl : l.length ≤ 4611686018427387904) (d : Nat) : ∀ (k : Nat) (i off : Int) (first : Bool) (prev : Int), 0 ≤ i → i ≤ l.length → (l.length : Int) - i = d → d + 10 < k → tabB first prev off (l.drop i.toNat) = true →
    leap_at.l0 k c off l (l.length : Int) i = some (lO off (l.drop i.toNat) c, lM off (l.drop i.toNat) c) := by
  induction d with
  | zero =>
    intro k i off first prev h0 h1 hd hk ht
    obtain ⟨k, rfl⟩ : ∃ m, k = m + 1 := ⟨k - 1, by omega⟩
    rw [leap_at.l0, if_neg (by omega), List.drop_eq_nil_of_le (by omega)]
    rfl
  | succ d ih =>
    intro k i off first prev h0 h1 hd hk ht
    obtain ⟨k, rfl⟩ : ∃ m, k = m + 1 := ⟨k - 1, by omega⟩
    have hlt : i < (l.length : Int) := by omega
    rw [ltdrop h0 hlt] at ht
    have h3 := tab_cons ht
    have h4 := ok_iff h3.1
    have ih' := ih k (i + 1) (rd_T82 l i).f1 _ _ (by omega) (by omega) (by omega) (by omega) h3.2
    rw [leap_at.l0, if_pos hlt, if_pos h0, if_pos hlt, ltdrop h0 hlt, w64 (n := i + 1) (by omega) (by omega), ih']
    simp only [lO, lM]
    generalize rd_T82 l i = x at *
    by_cases q : c ≥ x.f0
    · rw [if_pos q, if_pos (show x.f0 ≤ c by omega), if_pos (show x.f0 ≤ c by omega)]
    · rw [if_neg q, if_neg (show ¬ x.f0 ≤ c by omega), if_neg (show ¬ x.f0 ≤ c by omega), w64 (n := x.f0 - 1) (by omega) (by omega)]
      by_cases q2 : c = x.f0 - 1
      · rw [if_pos q2, decide_eq_true q2, Bool.true_and]
      · rw [if_neg q2, decide_eq_false q2, Bool.false_and]
theorem at_eq {k : Nat} (l : List LS) (c : Int) (hl : l.length ≤ 256) (ht : tabB true 0 0 l = true) (hk : 300 < k) : leap_at.f k l c = some (lO 0 l c, lM 0 l c) := by
  unfold leap_at.f
  rw [at_l0 c l (by omega) l.length k 0 0 true 0 (by omega) (by omega) (by omega) (by omega) ht]
  rfl
theorem idx_any (l : List LS) : ∀ i : Int, 0 ≤ i → decide (leap_Good.idx l i ≥ 0) = l.any leap_Good.p := by
  induction l with
  | nil => intro i _; rfl
  | cons x xs ih =>
    intro i hi
    unfold leap_Good.idx
    by_cases h : leap_Good.p x = true
    · rw [if_pos h, List.any_cons, h, decide_eq_true (by omega)]; rfl
    · rw [if_neg h, ih (i + 1) (by omega), List.any_cons, show leap_Good.p x = false from by simpa using h]; rfl
theorem p_mid {x : LS} (h : 0 ≤ x.f0 ∧ x.f0 ≤ 1099511627776 ∧ -32 ≤ x.f1 ∧ x.f1 ≤ 32) : leap_Good.p x = !mid x := by
  unfold leap_Good.p mid
  rw [w64 (n := x.f0 - x.f1) (by omega) (by omega)]
  by_cases q : (x.f0 - x.f1) % 86400 = 0
  · rw [decide_eq_true q, (tz (by omega)).mpr q]; rfl
  · rw [decide_eq_false q]
    have : ¬ Int.tmod (x.f0 - x.f1) 86400 = 0 := fun h => q ((tz (by omega)).mp h)
    simpa using this
theorem good_eq {k : Nat} (l : List LS) (hl : l.length ≤ 256) (hk : 300 < k) : leap_Good.f k l = some (goodV l) := by
  unfold leap_Good.f goodV
  rw [wtab_eq l hl hk, Option.bind_some, idx_any l 0 (by omega)]
  by_cases h : tableV l = true
  · rw [h, Bool.true_and, Bool.true_and]
    congr 1
    have ht : tabB true 0 0 l = true := by unfold tableV at h; simp only [Bool.and_eq_true] at h; exact h.1
    have hm := tab_mem l _ _ _ ht
    clear h ht hl
    induction l with
    | nil => rfl
    | cons x xs ih =>
      rw [List.any_cons, List.all_cons, p_mid (hm x List.mem_cons_self)]
      have := ih (fun y hy => hm y (List.mem_cons_of_mem _ hy))
      rw [← this]
      cases mid x <;> simp
  · rw [show tableV l = false from by simpa using h]; rfl
theorem good_tab {l : List LS} (h : goodV l = true) : tabB true 0 0 l = true ∧ l.length ≤ 32 ∧ ∀ x ∈ l, (x.f0 - x.f1) % 86400 = 0 := by
  unfold goodV tableV at h
  simp only [Bool.and_eq_true, decide_eq_true_eq, List.all_eq_true] at h
  exact ⟨h.1.1, h.1.2, fun x hx => by have := h.2 x hx; unfold mid at this; simpa using this⟩

theorem ofs_all (c : Int) (l : List LS) (hl : l.length ≤ 4611686018427387904) (d : Nat) : ∀ (k : Nat) (i off : Int), 0 ≤ i → i ≤ l.length → (l.length : Int) - i = d → d < k → (∀ x ∈ l.drop i.toNat, c < x.f0) →
    clepsydraref18_Offset.l0 k c off l (l.length : Int) i = some off := by
  induction d with
  | zero =>
    intro k i off h0 h1 hd hk _
    obtain ⟨k, rfl⟩ : ∃ m, k = m + 1 := ⟨k - 1, by omega⟩
    rw [clepsydraref18_Offset.l0, if_neg (by omega)]
  | succ d ih =>
    intro k i off h0 h1 hd hk h
    obtain ⟨k, rfl⟩ : ∃ m, k = m + 1 := ⟨k - 1, by omega⟩
    have hlt : i < (l.length : Int) := by omega
    rw [ltdrop h0 hlt] at h
    have h2 := h _ List.mem_cons_self
    rw [clepsydraref18_Offset.l0, if_pos hlt, if_pos h0, if_pos hlt, if_neg (by omega), w64 (n := i + 1) (by omega) (by omega)]
    exact ih k (i + 1) off (by omega) (by omega) (by omega) (by omega) (fun x hx => h x (List.mem_cons_of_mem _ hx))
theorem ofs_l0 (c : Int) (l : List LS) (hl : l.length ≤ 4611686018427387904) (d : Nat) : ∀ (k : Nat) (i off : Int) (first : Bool) (prev : Int), 0 ≤ i → i ≤ l.length → (l.length : Int) - i = d → d < k → tabB first prev off (l.drop i.toNat) = true →
    clepsydraref18_Offset.l0 k c off l (l.length : Int) i = some (lO off (l.drop i.toNat) c) := by
  induction d with
  | zero =>
    intro k i off first prev h0 h1 hd hk ht
    obtain ⟨k, rfl⟩ : ∃ m, k = m + 1 := ⟨k - 1, by omega⟩
    rw [clepsydraref18_Offset.l0, if_neg (by omega), List.drop_eq_nil_of_le (by omega)]
    rfl
  | succ d ih =>
    intro k i off first prev h0 h1 hd hk ht
    obtain ⟨k, rfl⟩ : ∃ m, k = m + 1 := ⟨k - 1, by omega⟩
    have hlt : i < (l.length : Int) := by omega
    rw [ltdrop h0 hlt] at ht
    have h3 := tab_cons ht
    have h4 := ok_iff h3.1
    rw [clepsydraref18_Offset.l0, if_pos hlt, if_pos h0, if_pos hlt, ltdrop h0 hlt, w64 (n := i + 1) (by omega) (by omega)]
    simp only [lO]
    by_cases q : (rd_T82 l i).f0 ≤ c
    · rw [if_pos q, if_pos q]
      exact ih k (i + 1) _ _ _ (by omega) (by omega) (by omega) (by omega) h3.2
    · rw [if_neg q, if_neg q]
      exact ofs_all c l hl d k (i + 1) off (by omega) (by omega) (by omega) (by omega) (fun x hx => by have := tab_gt _ _ _ h3.2 x hx; omega)
theorem ofs_eq {k : Nat} (l : List LS) (c : Int) (hl : l.length ≤ 256) (ht : tabB true 0 0 l = true) (hk : 300 < k) : clepsydraref18_Offset.f k l c = some (lO 0 l c) := by
  unfold clepsydraref18_Offset.f
  rw [ofs_l0 c l (by omega) l.length k 0 0 true 0 (by omega) (by omega) (by omega) (by omega) ht]
  rfl

theorem more_none (c : Int) (L l : List LS) (hl : l.length ≤ 4611686018427387904) (d : Nat) : ∀ (k : Nat) (i : Int), 0 ≤ i → i ≤ l.length → (l.length : Int) - i = d → d < k → (∀ x ∈ l.drop i.toNat, 0 ≤ x.f0 ∧ x.f0 ≤ 1099511627776 ∧ c < x.f0 - 1) →
    clepsydraref18_More.l0 k L c l (l.length : Int) i = some false := by
  induction d with
  | zero =>
    intro k i h0 h1 hd hk _
    obtain ⟨k, rfl⟩ : ∃ m, k = m + 1 := ⟨k - 1, by omega⟩
    rw [clepsydraref18_More.l0, if_neg (by omega)]
  | succ d ih =>
    intro k i h0 h1 hd hk h
    obtain ⟨k, rfl⟩ : ∃ m, k = m + 1 := ⟨k - 1, by omega⟩
    have hlt : i < (l.length : Int) := by omega
    rw [ltdrop h0 hlt] at h
    have h2 := h _ List.mem_cons_self
    rw [clepsydraref18_More.l0, if_pos hlt, if_pos h0, if_pos hlt, w64 (n := (rd_T82 l i).f0 - 1) (by omega) (by omega), if_neg (by omega), w64 (n := i + 1) (by omega) (by omega)]
    exact ih k (i + 1) (by omega) (by omega) (by omega) (by omega) (fun x hx => h x (List.mem_cons_of_mem _ hx))
theorem more_l0 (c : Int) (L l : List LS) (hl : l.length ≤ 4611686018427387904) (d : Nat) : ∀ (k : Nat) (i off : Int) (first : Bool) (prev : Int), 0 ≤ i → i ≤ l.length → (l.length : Int) - i = d → d + 400 < k → tabB first prev off (l.drop i.toNat) = true → (∀ k, 300 < k → clepsydraref18_Offset.f k L c = some (lO off (l.drop i.toNat) c)) →
    clepsydraref18_More.l0 k L c l (l.length : Int) i = some (lM off (l.drop i.toNat) c) := by
  induction d with
  | zero =>
    intro k i off first prev h0 h1 hd hk ht _
    obtain ⟨k, rfl⟩ : ∃ m, k = m + 1 := ⟨k - 1, by omega⟩
    rw [clepsydraref18_More.l0, if_neg (by omega), List.drop_eq_nil_of_le (by omega)]
    rfl
  | succ d ih =>
    intro k i off first prev h0 h1 hd hk ht ho
    obtain ⟨k, rfl⟩ : ∃ m, k = m + 1 := ⟨k - 1, by omega⟩
    have hlt : i < (l.length : Int) := by omega
    rw [ltdrop h0 hlt] at ht ho
    have h3 := tab_cons ht
    have h4 := ok_iff h3.1
    rw [clepsydraref18_More.l0, if_pos hlt, if_pos h0, if_pos hlt, ltdrop h0 hlt, w64 (n := (rd_T82 l i).f0 - 1) (by omega) (by omega), w64 (n := i + 1) (by omega) (by omega)]
    simp only [lM]
    simp only [lO] at ho
    by_cases q : (rd_T82 l i).f0 ≤ c
    · rw [if_neg (by omega), if_pos q]
      simp only [if_pos q] at ho
      exact ih k (i + 1) _ _ _ (by omega) (by omega) (by omega) (by omega) h3.2 ho
    · rw [if_neg q]
      simp only [if_neg q] at ho
      by_cases q2 : (rd_T82 l i).f0 - 1 = c
      · rw [if_pos q2, ho k (by omega), Option.bind_some, decide_eq_true (show c = (rd_T82 l i).f0 - 1 by omega), Bool.true_and]
        by_cases q3 : (rd_T82 l i).f1 > off
        · rw [if_pos q3, decide_eq_true (show off < (rd_T82 l i).f1 by omega)]
        · rw [if_neg q3, decide_eq_false (show ¬ off < (rd_T82 l i).f1 by omega)]
          refine more_none c L l hl d k (i + 1) (by omega) (by omega) (by omega) (by omega) (fun x hx => ?_)
          have h5 := tab_gt _ _ _ h3.2 x hx
          have h6 := tab_mem _ _ _ _ h3.2 x hx
          omega
      · rw [if_neg q2, decide_eq_false (show ¬ c = (rd_T82 l i).f0 - 1 by omega), Bool.false_and]
        refine more_none c L l hl d k (i + 1) (by omega) (by omega) (by omega) (by omega) (fun x hx => ?_)
        have h5 := tab_gt _ _ _ h3.2 x hx
        have h6 := tab_mem _ _ _ _ h3.2 x hx
        omega
theorem more_eq {k : Nat} (l : List LS) (c : Int) (hl : l.length ≤ 256) (ht : tabB true 0 0 l = true) (hk : 900 < k) : clepsydraref18_More.f k l c = some (lM 0 l c) := by
  unfold clepsydraref18_More.f
  rw [more_l0 c l l (by omega) l.length k 0 0 true 0 (by omega) (by omega) (by omega) (by omega) ht (fun k hk => ofs_eq l c hl ht hk)]
  rfl

theorem rgood_l0 (l : List LS) (hl : l.length ≤ 4611686018427387904) (d : Nat) : ∀ (k : Nat) (i : Int), 0 ≤ i → i ≤ l.length → (l.length : Int) - i = d → d < k → (∀ x ∈ l.drop i.toNat, 0 ≤ x.f0 ∧ x.f0 ≤ 1099511627776 ∧ -32 ≤ x.f1 ∧ x.f1 ≤ 32) →
    clepsydraref18_Good.l0 k l (l.length : Int) i = some ((l.drop i.toNat).all mid) := by
  induction d with
  | zero =>
    intro k i h0 h1 hd hk _
    obtain ⟨k, rfl⟩ : ∃ m, k = m + 1 := ⟨k - 1, by omega⟩
    rw [clepsydraref18_Good.l0, if_neg (by omega), List.drop_eq_nil_of_le (by omega)]
    rfl
  | succ d ih =>
    intro k i h0 h1 hd hk h
    obtain ⟨k, rfl⟩ : ∃ m, k = m + 1 := ⟨k - 1, by omega⟩
    have hlt : i < (l.length : Int) := by omega
    rw [ltdrop h0 hlt] at h
    have h2 := h _ List.mem_cons_self
    rw [clepsydraref18_Good.l0, if_pos hlt, if_pos h0, if_pos hlt, ltdrop h0 hlt, List.all_cons, w64 (n := i + 1) (by omega) (by omega), w64 (n := (rd_T82 l i).f0 - (rd_T82 l i).f1) (by omega) (by omega)]
    unfold mid
    by_cases q : ((rd_T82 l i).f0 - (rd_T82 l i).f1) % 86400 = 0
    · rw [decide_eq_true q, if_pos ((tz (by omega)).mpr q), Bool.true_and]
      exact ih k (i + 1) (by omega) (by omega) (by omega) (by omega) (fun x hx => h x (List.mem_cons_of_mem _ hx))
    · rw [decide_eq_false q, if_neg (fun h => q ((tz (by omega)).mp h)), Bool.false_and]
theorem rgood_eq {k : Nat} (l : List LS) (hl : l.length ≤ 256) (hk : 2000 < k) : clepsydraref18_Good.f k l = some (goodV l) := by
  unfold clepsydraref18_Good.f goodV
  rw [rtab_eq l hl (by omega), Option.bind_some]
  by_cases h : tableV l = true
  · have ht : tabB true 0 0 l = true := by unfold tableV at h; simp only [Bool.and_eq_true] at h; exact h.1
    rw [if_pos h, h, Bool.true_and, rgood_l0 l (by omega) l.length k 0 (by omega) (by omega) (by omega) (by omega) (tab_mem l _ _ _ ht)]
    rfl
  · rw [if_neg h, show tableV l = false from by simpa using h]; rfl

theorem lO_le {x : LS} {xs : List LS} {o c : Int} (h : x.f0 ≤ c) : lO o (x :: xs) c = lO x.f1 xs c := by rw [lO, if_pos h]
theorem lO_gt {x : LS} {xs : List LS} {o c : Int} (h : c < x.f0) : lO o (x :: xs) c = o := by rw [lO, if_neg (by omega)]
theorem lM_le {x : LS} {xs : List LS} {o c : Int} (h : x.f0 ≤ c) : lM o (x :: xs) c = lM x.f1 xs c := by rw [lM, if_pos h]
theorem lM_gt {x : LS} {xs : List LS} {o c : Int} (h : c < x.f0) : lM o (x :: xs) c = (decide (c = x.f0 - 1) && decide (o < x.f1)) := by rw [lM, if_neg (by omega)]
theorem lO_all (l : List LS) (o c : Int) (h : ∀ x ∈ l, c < x.f0) : lO o l c = o := by
  cases l with
  | nil => rfl
  | cons x xs => have := h x List.mem_cons_self; unfold lO; rw [if_neg (by omega)]
theorem lM_all (l : List LS) (o c : Int) (h : ∀ x ∈ l, c + 1 < x.f0) : lM o l c = false := by
  cases l with
  | nil => rfl
  | cons x xs => have := h x List.mem_cons_self; unfold lM; rw [if_neg (by omega), decide_eq_false (by omega), Bool.false_and]
/-- Around an entry of a table. -/
theorem at_leap (l : List LS) : ∀ (first : Bool) (prev o : Int), tabB first prev o l = true → ∀ x ∈ l, lO o l x.f0 = x.f1 ∧ lM o l x.f0 = false ∧ (x.f1 = lO o l (x.f0 - 1) + 1 ∨ x.f1 = lO o l (x.f0 - 1) - 1) ∧ lM o l (x.f0 - 1) = decide (lO o l (x.f0 - 1) < x.f1) ∧ lO o l (x.f0 - 2) = lO o l (x.f0 - 1) ∧ lM o l (x.f0 - 2) = false := by
  induction l with
  | nil => intro _ _ _ _ x hx; cases hx
  | cons y ys ih =>
    intro first prev o h x hx
    have h2 := tab_cons h
    have h3 := ok_iff h2.1
    have g := tab_gt _ _ _ h2.2
    rcases List.mem_cons.mp hx with rfl | hx
    · rw [lO_le (Int.le_refl _), lM_le (Int.le_refl _), lO_gt (c := x.f0 - 1) (by omega), lO_gt (c := x.f0 - 2) (by omega), lM_gt (c := x.f0 - 1) (by omega), lM_gt (c := x.f0 - 2) (by omega), lO_all ys x.f1 x.f0 (fun z hz => by have := g z hz; omega), lM_all ys x.f1 x.f0 (fun z hz => by have := g z hz; omega), decide_eq_true (rfl : x.f0 - 1 = x.f0 - 1), decide_eq_false (show ¬ x.f0 - 2 = x.f0 - 1 by omega)]
      exact ⟨rfl, rfl, h3.2.2.2.2.2, by simp, rfl, by simp⟩
    · have := g x hx
      have i := ih _ _ _ h2.2 x hx
      rw [lO_le (c := x.f0) (by omega), lM_le (c := x.f0) (by omega), lO_le (c := x.f0 - 1) (by omega), lO_le (c := x.f0 - 2) (by omega), lM_le (c := x.f0 - 1) (by omega), lM_le (c := x.f0 - 2) (by omega)]
      exact i
/-- Where no entry begins at the next count, the offset stays and no second is more. -/
theorem at_rest (l : List LS) : ∀ (o c : Int), (∀ x ∈ l, x.f0 ≠ c + 1) → lO o l (c + 1) = lO o l c ∧ lM o l c = false := by
  induction l with
  | nil => intro o c _; exact ⟨rfl, rfl⟩
  | cons y ys ih =>
    intro o c h
    have hy := h y List.mem_cons_self
    have i := ih y.f1 c (fun x hx => h x (List.mem_cons_of_mem _ hx))
    simp only [lO, lM]
    by_cases q : y.f0 ≤ c
    · rw [if_pos (by omega), if_pos q, if_pos q]; exact i
    · rw [if_neg (by omega), if_neg q, if_neg q, decide_eq_false (by omega), Bool.false_and]; exact ⟨rfl, rfl⟩
def bI (b : Bool) : Int := if b = true then 1 else 0
theorem bI_t : bI true = 1 := rfl
theorem bI_f : bI false = 0 := rfl
/-- The second a count's label is of. -/
def lU (l : List LS) (c : Int) : Int := c - lO 0 l c - bI (lM 0 l c)
def lK (l : List LS) (c : Int) : Int := 2 * lU l c + bI (lM 0 l c)
theorem lstep {l : List LS} (hg : goodV l = true) (c : Int) :
    (lM 0 l c = false ∧ lO 0 l (c + 1) = lO 0 l c) ∨
    (lM 0 l c = true ∧ lM 0 l (c + 1) = false ∧ lO 0 l (c + 1) = lO 0 l c + 1 ∧ (c - lO 0 l c) % 86400 = 0) ∨
    (lM 0 l c = false ∧ lM 0 l (c + 1) = false ∧ lO 0 l (c + 1) = lO 0 l c - 1 ∧ (c + 2 - lO 0 l c) % 86400 = 0) := by
  have ht := good_tab hg
  by_cases q : ∃ x ∈ l, x.f0 = c + 1
  · obtain ⟨x, hx, e⟩ := q
    have a := at_leap l _ _ _ ht.1 x hx
    have m := ht.2.2 x hx
    rw [e, show c + 1 - 1 = c from by omega] at a
    rw [e] at m
    obtain ⟨a1, a2, a3, a4, -, -⟩ := a
    right
    rcases a3 with a3 | a3
    · left
      exact ⟨by rw [a4, decide_eq_true (by omega)], a2, by omega, by omega⟩
    · right
      exact ⟨by rw [a4, decide_eq_false (by omega)], a2, by omega, by omega⟩
  · left
    have := at_rest l 0 c (fun x hx e => q ⟨x, hx, e⟩)
    exact ⟨this.2, this.1⟩
theorem lM_mid {l : List LS} (hg : goodV l = true) {c : Int} (h : lM 0 l c = true) : (c - lO 0 l c) % 86400 = 0 := by
  rcases lstep hg c with a | a | a
  · rw [a.1] at h; cases h
  · exact a.2.2.2
  · rw [a.1] at h; cases h
theorem lM_back {l : List LS} (hg : goodV l = true) {c : Int} (h : lM 0 l c = true) : lM 0 l (c - 1) = false ∧ lO 0 l (c - 1) = lO 0 l c := by
  have s := lstep hg (c - 1)
  rw [show c - 1 + 1 = c from by omega] at s
  rcases s with a | a | a
  · exact ⟨a.1, a.2.symm⟩
  · rw [a.2.1] at h; cases h
  · rw [a.2.1] at h; cases h
theorem lK_step {l : List LS} (hg : goodV l = true) (c : Int) : lK l c < lK l (c + 1) := by
  unfold lK lU
  rcases lstep hg c with a | a | a
  · rw [a.1, a.2, bI_f]
    cases lM 0 l (c + 1)
    · rw [bI_f]; omega
    · rw [bI_t]; omega
  · rw [a.1, a.2.1, a.2.2.1, bI_t, bI_f]; omega
  · rw [a.1, a.2.1, a.2.2.1, bI_f]; omega
theorem lK_mono {l : List LS} (hg : goodV l = true) {c c' : Int} (h : c < c') : lK l c < lK l c' := by
  obtain ⟨j, rfl⟩ : ∃ j : Nat, c' = c + 1 + j := ⟨(c' - c - 1).toNat, by omega⟩
  clear h
  induction j with
  | zero => have := lK_step hg c; simpa using this
  | succ j ih =>
    have := lK_step hg (c + 1 + j)
    rw [show c + 1 + ((j + 1 : Nat) : Int) = c + 1 + j + 1 from by omega]; omega
theorem lO_mem (l : List LS) : ∀ (o c : Int), lO o l c ∈ (o :: l.map (fun x => x.f1)) := by
  induction l with
  | nil => intro o c; exact List.mem_cons_self
  | cons x xs ih =>
    intro o c
    unfold lO
    split
    · exact List.mem_cons_of_mem _ (ih x.f1 c)
    · exact List.mem_cons_self

/-- The date of a number, whole. -/
noncomputable def dateD (n : Int) : Int × Int × Int := open Classical in if h : ∃ p : Int × Int × Int, IsDate n p.1 p.2.1 p.2.2 then Classical.choose h else (0, 0, 0)
theorem dateD_is {n y m d : Int} (h : IsDate n y m d) : dateD n = (y, m, d) := by
  have ex : ∃ p : Int × Int × Int, IsDate n p.1 p.2.1 p.2.2 := ⟨(y, m, d), h⟩
  unfold dateD
  rw [dif_pos ex]
  obtain ⟨a, b, c⟩ := date_unique h (Classical.choose_spec ex)
  exact Prod.ext a.symm (Prod.ext b.symm c.symm)
theorem dateD_eq {k : Nat} {n : Int} (n1 : -4294967296 ≤ n) (n2 : n ≤ 4294967296) (hk : 100000000000 < k) : IsDate n (dateD n).1 (dateD n).2.1 (dateD n).2.2 ∧ civil_Date.f k n = some ((dateD n).1, (dateD n).2.1, (dateD n).2.2, true) := by
  obtain ⟨y, m, d, h, e⟩ := date_eq n1 n2 hk
  rw [dateD_is h]
  exact ⟨h, e⟩
abbrev L6 := Int × Int × Int × Int × Int × Int
noncomputable def labD (u : Int) (m : Bool) : L6 := ((dateD (u / 86400)).1, (dateD (u / 86400)).2.1, (dateD (u / 86400)).2.2, u % 86400 / 3600, u % 86400 / 60 % 60, u % 86400 % 60 + bI m)
noncomputable def labC (l : List LS) (c : Int) : L6 := labD (lU l c) (lM 0 l c)
theorem lU_b {l : List LS} (hg : goodV l = true) {c : Int} (h1 : -4398046511110 ≤ c) (h2 : c ≤ 4398046511110) : -4398046511143 ≤ lU l c ∧ lU l c ≤ 4398046511143 := by
  have := lO_b l _ _ 0 c (good_tab hg).1 (by omega) (by omega)
  unfold lU
  cases lM 0 l c
  · rw [bI_f]; omega
  · rw [bI_t]; omega
/-- A count's second is in range, and a second more follows a day's last. -/
structure Sec (u : Int) (m : Bool) : Prop where
  d1 : -4294967296 ≤ u / 86400
  d2 : u / 86400 ≤ 4294967296
  hm : m = true → u % 86400 = 86399
theorem sec_of {l : List LS} (hg : goodV l = true) {c : Int} (h1 : -4398046511110 ≤ c) (h2 : c ≤ 4398046511110) : Sec (lU l c) (lM 0 l c) := by
  have := lU_b hg h1 h2
  refine ⟨by omega, by omega, fun hm => ?_⟩
  have := lM_mid hg hm
  unfold lU
  rw [hm, bI_t]; omega
theorem j1_eq {k : Nat} {c o : Int} (m : Bool) (c1 : -4398046511110 ≤ c) (c2 : c ≤ 4398046511110) (o1 : -32 ≤ o) (o2 : o ≤ 32) (hk : 100000000001 < k) : leap_ToLabel.j1 k c o m = some ((labD (c - o) m).1, (labD (c - o) m).2.1, (labD (c - o) m).2.2.1, (labD (c - o) m).2.2.2.1, (labD (c - o) m).2.2.2.2.1, (labD (c - o) m).2.2.2.2.2, 0) := by
  obtain ⟨k, rfl⟩ : ∃ j, k = j + 1 := ⟨k - 1, by omega⟩
  rw [leap_ToLabel.j1, w64 (n := c - o) (by omega) (by omega), wdiv_eq _ _ (by omega), Option.bind_some, clp_id (x := c - o) (by omega) (by omega), show mx (clp 86400) 1 = 86400 from by decide]
  have r1 : 0 ≤ (c - o) % 86400 := by omega
  have r2 : (c - o) % 86400 < 86400 := by omega
  dsimp only
  rw [(dateD_eq (k := k) (n := (c - o) / 86400) (by omega) (by omega) (by omega)).2, Option.bind_some]
  dsimp only
  unfold labD
  dsimp only
  generalize (c - o) % 86400 = r at *
  rw [Int.tdiv_eq_ediv_of_nonneg r1, Int.tdiv_eq_ediv_of_nonneg r1, Int.tmod_eq_emod_of_nonneg r1, w64 (n := r / 3600) (by omega) (by omega), w64 (n := r / 60) (by omega) (by omega), Int.tmod_eq_emod_of_nonneg (show 0 ≤ r / 60 by omega), w64 (n := r % 60 + 1) (by omega) (by omega)]
  cases m
  · rw [if_neg (by decide), bI_f, Int.add_zero]
  · rw [if_pos rfl, bI_t]
/-- What ToLabel answers. -/
theorem lab_eq {k : Nat} {l : List LS} (hl : l.length ≤ 256) (hg : goodV l = true) {c : Int} (c1 : -4398046511104 ≤ c) (c2 : c ≤ 4398046511104) (hk : 100000000002 < k) : leap_ToLabel.f k l c = some ((labC l c).1, (labC l c).2.1, (labC l c).2.2.1, (labC l c).2.2.2.1, (labC l c).2.2.2.2.1, (labC l c).2.2.2.2.2, 0) := by
  obtain ⟨k, rfl⟩ : ∃ j, k = j + 1 := ⟨k - 1, by omega⟩
  have ht := (good_tab hg).1
  have ob := lO_b l _ _ 0 c ht (by omega) (by omega)
  unfold leap_ToLabel.f
  rw [good_eq l hl (by omega), Option.bind_some, hg, if_pos rfl, if_neg (by omega), decide_eq_false (by omega), leap_ToLabel.j0, if_neg (by decide), at_eq l c hl ht (by omega), Option.bind_some]
  dsimp only
  unfold labC lU
  cases h : lM 0 l c
  · rw [if_neg (by decide), j1_eq false (by omega) (by omega) ob.1 ob.2 (by omega), bI_f, Int.sub_zero]
  · rw [if_pos rfl, w64 (n := c - 1) (by omega) (by omega), j1_eq true (by omega) (by omega) ob.1 ob.2 (by omega), bI_t, show c - lO 0 l c - 1 = c - 1 - lO 0 l c from by omega]
theorem lab_out {k : Nat} {l : List LS} (hl : l.length ≤ 256) (hg : goodV l = true) {c : Int} (h : c < -4398046511104 ∨ 4398046511104 < c) (hk : 1000 < k) : leap_ToLabel.f k l c = some (0, 0, 0, 0, 0, 0, 30) := by
  obtain ⟨k, rfl⟩ : ∃ j, k = j + 1 := ⟨k - 1, by omega⟩
  unfold leap_ToLabel.f
  rw [good_eq l hl (by omega), Option.bind_some, hg, if_pos rfl]
  by_cases q : c > 4398046511104
  · rw [if_pos q, leap_ToLabel.j0, if_pos rfl]
  · rw [if_neg q, decide_eq_true (by omega), leap_ToLabel.j0, if_pos rfl]
theorem lab_bad {k : Nat} {l : List LS} (hl : l.length ≤ 256) (hg : ¬ goodV l = true) (c : Int) (hk : 1000 < k) : leap_ToLabel.f k l c = some (0, 0, 0, 0, 0, 0, 31) := by
  unfold leap_ToLabel.f
  rw [good_eq l hl (by omega), Option.bind_some, if_neg hg]
theorem date_lt {n y m d n' y' m' d' : Int} (h : IsDate n y m d) (h' : IsDate n' y' m' d') (hn : n < n') : y < y' ∨ (y = y' ∧ (m < m' ∨ (m = m' ∧ d < d'))) := by
  have i := date_in h
  have i' := date_in h'
  rcases Int.lt_trichotomy y y' with c | c | c
  · exact .inl c
  · right
    subst c
    refine ⟨rfl, ?_⟩
    have m1 := h.m1; have m2 := h.m2; have d1 := h.d1; have d2 := h.d2; have hn1 := h.hn
    have m1' := h'.m1; have m2' := h'.m2; have d1' := h'.d1; have d2' := h'.d2; have hn' := h'.hn
    rcases Int.lt_trichotomy m m' with c | c | c
    · exact .inl c
    · right; subst c; exact ⟨rfl, by omega⟩
    · have := ah_mono (y := y) m1' c (by omega); omega
  · have := (fst_mono (show y' + 1 ≤ y by omega)).1; omega
/-- The first list's first other number is less. -/
def bef : List Int → List Int → Bool
  | x :: xs, y :: ys => if x = y then bef xs ys else decide (x < y)
  | _, _ => false
theorem bef_cons (x y : Int) (xs ys : List Int) : bef (x :: xs) (y :: ys) = if x = y then bef xs ys else decide (x < y) := rfl
theorem bef_irr : ∀ l : List Int, bef l l = false
  | [] => rfl
  | x :: xs => by rw [bef_cons, if_pos rfl]; exact bef_irr xs
theorem bef_asym : ∀ l l' : List Int, bef l l' = true → bef l' l = false
  | [], l', h => by cases l' <;> cases h
  | x :: xs, [], h => by cases h
  | x :: xs, y :: ys, h => by
    rw [bef_cons] at h ⊢
    by_cases c : x = y
    · rw [if_pos c] at h; rw [if_pos c.symm]; exact bef_asym xs ys h
    · rw [if_neg c] at h; rw [if_neg (fun e => c e.symm)]
      have := of_decide_eq_true h
      exact decide_eq_false (by omega)
theorem bef_trans : ∀ a b c : List Int, bef a b = true → bef b c = true → bef a c = true
  | [], b, c, h, _ => by cases b <;> cases h
  | x :: xs, [], c, h, _ => by cases h
  | x :: xs, y :: ys, [], _, h => by cases h
  | x :: xs, y :: ys, z :: zs, h, h2 => by
    rw [bef_cons] at h h2 ⊢
    by_cases c1 : x = y
    · subst c1
      rw [if_pos rfl] at h
      by_cases c2 : x = z
      · subst c2; rw [if_pos rfl] at h2 ⊢; exact bef_trans xs ys zs h h2
      · rw [if_neg c2] at h2 ⊢; exact h2
    · rw [if_neg c1] at h
      have o := of_decide_eq_true h
      by_cases c2 : y = z
      · subst c2; rw [if_neg c1]; exact h
      · rw [if_neg c2] at h2
        have o2 := of_decide_eq_true h2
        rw [if_neg (by omega)]; exact decide_eq_true (by omega)
def l6 (x : L6) : List Int := [x.1, x.2.1, x.2.2.1, x.2.2.2.1, x.2.2.2.2.1, x.2.2.2.2.2]
theorem bef_lt {u u' : Int} {m m' : Bool} (s : Sec u m) (s' : Sec u' m') (h : 2 * u + bI m < 2 * u' + bI m') : bef (l6 (labD u m)) (l6 (labD u' m')) = true := by
  have bm : bI m = 0 ∨ (bI m = 1 ∧ u % 86400 = 86399) := by
    cases hm : m
    · left; rfl
    · right; exact ⟨rfl, s.hm hm⟩
  have bm' : bI m' = 0 ∨ (bI m' = 1 ∧ u' % 86400 = 86399) := by
    cases hm : m'
    · left; rfl
    · right; exact ⟨rfl, s'.hm hm⟩
  unfold l6 labD
  dsimp only
  have i := (dateD_eq (k := 200000000000) s.d1 s.d2 (by omega)).1
  have i' := (dateD_eq (k := 200000000000) s'.d1 s'.d2 (by omega)).1
  by_cases q : u / 86400 < u' / 86400
  · have o := date_lt i i' q
    generalize dateD (u / 86400) = D at *
    generalize dateD (u' / 86400) = D' at *
    rcases o with o | ⟨o1, o | ⟨o2, o⟩⟩
    · rw [bef_cons, if_neg (by omega)]; exact decide_eq_true o
    · rw [bef_cons, if_pos o1, bef_cons, if_neg (by omega)]; exact decide_eq_true o
    · rw [bef_cons, if_pos o1, bef_cons, if_pos o2, bef_cons, if_neg (by omega)]; exact decide_eq_true o
  · have e : u / 86400 = u' / 86400 := by omega
    rw [← e, bef_cons, if_pos rfl, bef_cons, if_pos rfl, bef_cons, if_pos rfl, bef_cons]
    have r1 : 0 ≤ u % 86400 ∧ u % 86400 < 86400 := by omega
    have r2 : 0 ≤ u' % 86400 ∧ u' % 86400 < 86400 := by omega
    have o : 2 * (u % 86400) + bI m < 2 * (u' % 86400) + bI m' := by omega
    generalize u % 86400 = r at *
    generalize u' % 86400 = r' at *
    generalize bI m = b at *
    generalize bI m' = b' at *
    by_cases c1 : r / 3600 = r' / 3600
    · rw [if_pos c1, bef_cons]
      by_cases c2 : r / 60 % 60 = r' / 60 % 60
      · rw [if_pos c2, bef_cons, if_neg (by omega)]; exact decide_eq_true (by omega)
      · rw [if_neg c2]; exact decide_eq_true (by omega)
    · rw [if_neg c1]; exact decide_eq_true (by omega)
/-- Labels stand as their counts stand. -/
theorem lab_lt {l : List LS} (hg : goodV l = true) {c c' : Int} (c1 : -4398046511104 ≤ c) (c2 : c ≤ 4398046511104) (c1' : -4398046511104 ≤ c') (c2' : c' ≤ 4398046511104) (h : c < c') : bef (l6 (labC l c)) (l6 (labC l c')) = true :=
  bef_lt (sec_of hg (by omega) (by omega)) (sec_of hg (by omega) (by omega)) (lK_mono hg h)
theorem lab_inj {l : List LS} (hg : goodV l = true) {c c' : Int} (c1 : -4398046511104 ≤ c) (c2 : c ≤ 4398046511104) (c1' : -4398046511104 ≤ c') (c2' : c' ≤ 4398046511104) (h : labC l c = labC l c') : c = c' := by
  rcases Int.lt_trichotomy c c' with q | q | q
  · have := lab_lt hg c1 c2 c1' c2' q; rw [h, bef_irr] at this; cases this
  · exact q
  · have := lab_lt hg c1' c2' c1 c2 q; rw [h, bef_irr] at this; cases this
theorem key_inj {u u' : Int} {m m' : Bool} (s : Sec u m) (s' : Sec u' m') (h : labD u m = labD u' m') : 2 * u + bI m = 2 * u' + bI m' := by
  rcases Int.lt_trichotomy (2 * u + bI m) (2 * u' + bI m') with q | q | q
  · have := bef_lt s s' q; rw [h, bef_irr] at this; cases this
  · exact q
  · have := bef_lt s' s q; rw [h, bef_irr] at this; cases this

theorem rdateD_eq {k : Nat} {n : Int} (n1 : -4294967296 ≤ n) (n2 : n ≤ 4294967296) (hk : 2000000 < k) : clepsydraref17_Date.f k n = some ((dateD n).1, (dateD n).2.1, (dateD n).2.2, true) := by
  obtain ⟨y, m, d, h, e⟩ := rdate_eq n1 n2 hk
  rw [dateD_is h]
  exact e
theorem rlab_flat {k : Nat} {l : List LS} (hl : l.length ≤ 256) (hg : goodV l = true) {c : Int} (c1 : -4398046511105 ≤ c) (c2 : c ≤ 4398046511104) (hm : lM 0 l c = false) (hk : 100000000002 < k) : clepsydraref18_Label.f k l c = some (labC l c) := by
  obtain ⟨k, rfl⟩ : ∃ j, k = j + 1 := ⟨k - 1, by omega⟩
  have ht := (good_tab hg).1
  have ob := lO_b l _ _ 0 c ht (by omega) (by omega)
  rw [clepsydraref18_Label.f, more_eq l c hl ht (by omega), Option.bind_some, hm, if_neg (by decide), ofs_eq l c hl ht (by omega), Option.bind_some, w64 (n := c - lO 0 l c) (by omega) (by omega), rdiv_eq, Option.bind_some, clp_id (x := c - lO 0 l c) (by omega) (by omega), show mx (clp 86400) 1 = 86400 from by decide]
  unfold labC lU
  rw [hm, bI_f, Int.sub_zero]
  have ub : -4398046511143 ≤ c - lO 0 l c ∧ c - lO 0 l c ≤ 4398046511143 := by omega
  clear ob
  generalize c - lO 0 l c = u at *
  dsimp only
  rw [rdateD_eq (k := k) (n := u / 86400) (by omega) (by omega) (by omega), Option.bind_some]
  have r1 : 0 ≤ u % 86400 := by omega
  have r2 : u % 86400 < 86400 := by omega
  unfold labD
  dsimp only
  generalize u % 86400 = r at *
  rw [Int.tdiv_eq_ediv_of_nonneg r1, Int.tmod_eq_emod_of_nonneg r1, Int.tmod_eq_emod_of_nonneg r1, Int.tdiv_eq_ediv_of_nonneg (show 0 ≤ r % 3600 by omega), w64 (n := r / 3600) (by omega) (by omega), w64 (n := r % 3600 / 60) (by omega) (by omega), bI_f, Int.add_zero, show r % 3600 / 60 = r / 60 % 60 from by omega]
/-- What the reference's Label answers. -/
theorem rlab_eq {k : Nat} {l : List LS} (hl : l.length ≤ 256) (hg : goodV l = true) {c : Int} (c1 : -4398046511104 ≤ c) (c2 : c ≤ 4398046511104) (hk : 100000000003 < k) : clepsydraref18_Label.f k l c = some (labC l c) := by
  by_cases hm : lM 0 l c = true
  · obtain ⟨k, rfl⟩ : ∃ j, k = j + 1 := ⟨k - 1, by omega⟩
    have b := lM_back hg hm
    have ht := (good_tab hg).1
    have e : lU l c = lU l (c - 1) := by unfold lU; rw [hm, b.1, b.2, bI_t, bI_f]; omega
    have s := (sec_of hg (c := c) (by omega) (by omega)).hm hm
    rw [clepsydraref18_Label.f, more_eq l c hl ht (by omega), Option.bind_some, hm, if_pos rfl, w64 (n := c - 1) (by omega) (by omega), rlab_flat hl hg (by omega) (by omega) b.1 (by omega), Option.bind_some]
    unfold labC
    rw [← e, hm, b.1]
    unfold labD
    dsimp only
    rw [s, bI_f, bI_t, w64 (by omega) (by omega)]
    rfl
  · exact rlab_flat hl hg (by omega) (by omega) (by simpa using hm) (by omega)

/-- The health of a state; how far a clock may be; whether a stamp can be. -/
def ofV (d hold hops held : Int) (set good : Bool) : Int := if good = true ∧ set = true ∧ hops ≤ d then (if held > hold then 2 else 1) else 0
theorem of_hk {k : Nat} (p0 p1 d p3 p4 p5 p6 p7 p8 hold p10 p11 s0 s1 s2 : Int) (s3 : Bool) (s4 s5 : Int) (s6 : Bool) (sl : List LS) (s8 s9 s10 : Int) (hk : 0 < k) :
    health_Of.f k p0 p1 d p3 p4 p5 p6 p7 p8 hold p10 p11 s0 s1 s2 s3 s4 s5 s6 sl s8 s9 s10 = some (ofV d hold s5 s4 s3 s6) := by
  obtain ⟨k, rfl⟩ : ∃ m, k = m + 1 := ⟨k - 1, by omega⟩
  unfold health_Of.f ofV
  simp only [health_Of.j0]
  cases s6
  · simp
  · cases s3
    · simp
    · by_cases h : s5 > d
      · rw [if_pos rfl, if_pos rfl, decide_eq_true h, if_pos rfl, if_neg (by omega)]
      · have hc : true = true ∧ true = true ∧ s5 ≤ d := ⟨rfl, rfl, by omega⟩
        rw [if_pos rfl, if_pos rfl, decide_eq_false h, if_neg (by decide)]
        by_cases q : s4 > hold
        · rw [if_pos q, if_pos hc, if_pos q]
        · rw [if_neg q, if_pos hc, if_neg q]
theorem rof_hk {k : Nat} (p0 p1 d p3 p4 p5 p6 p7 p8 hold p10 p11 s0 s1 s2 : Int) (s3 : Bool) (s4 s5 : Int) (s6 : Bool) (sl : List LS) (s8 s9 s10 : Int) (hk : 0 < k) :
    clepsydraref21_Of.f k p0 p1 d p3 p4 p5 p6 p7 p8 hold p10 p11 s0 s1 s2 s3 s4 s5 s6 sl s8 s9 s10 = some (ofV d hold s5 s4 s3 s6) := by
  obtain ⟨k, rfl⟩ : ∃ m, k = m + 1 := ⟨k - 1, by omega⟩
  unfold clepsydraref21_Of.f ofV
  simp only [clepsydraref21_Of.j0]
  cases s6
  · simp
  · cases s3
    · simp
    · by_cases h : s5 > d
      · rw [if_pos rfl, if_pos rfl, decide_eq_true h, if_pos rfl, if_neg (by omega)]
      · have hc : true = true ∧ true = true ∧ s5 ≤ d := ⟨rfl, rfl, by omega⟩
        rw [if_pos rfl, if_pos rfl, decide_eq_false h, if_neg (by decide)]
        by_cases q : s4 > hold
        · rw [if_pos q, if_pos hc, if_pos q]
        · rw [if_neg q, if_pos hc, if_neg q]
theorem tables_l0 (l : List LS) (hl : l.length ≤ 256) (d : Nat) : ∀ (k : Nat) (i : Int), 0 ≤ i → i ≤ l.length → (l.length : Int) - i = d → d < k → clepsydraref06_Tables.l0 k l l (l.length : Int) i = some true := by
  induction d with
  | zero =>
    intro k i h0 h1 hd hk
    obtain ⟨k, rfl⟩ : ∃ m, k = m + 1 := ⟨k - 1, by omega⟩
    rw [clepsydraref06_Tables.l0, if_neg (by omega)]
  | succ d ih =>
    intro k i h0 h1 hd hk
    obtain ⟨k, rfl⟩ : ∃ m, k = m + 1 := ⟨k - 1, by omega⟩
    rw [clepsydraref06_Tables.l0, if_pos (by omega), if_pos h0, if_pos (by omega), if_pos (by omega), if_neg (by simp), w64 (n := i + 1) (by omega) (by omega)]
    exact ih k (i + 1) (by omega) (by omega) (by omega) (by omega)
theorem same_hk {k : Nat} (s0 s1 s2 : Int) (s3 : Bool) (s4 s5 : Int) (s6 : Bool) (sl : List LS) (s8 s9 s10 : Int) (hl : sl.length ≤ 256) (hk : 300 < k) :
    clepsydraref21_Same.f k s0 s1 s2 s3 s4 s5 s6 sl s8 s9 s10 s0 s1 s2 s3 s4 s5 s6 sl s8 s9 s10 = some true := by
  unfold clepsydraref21_Same.f clepsydraref06_Tables.f
  rw [if_pos (by simp), if_pos rfl, if_pos (by simp), if_pos rfl, if_pos rfl, if_pos (by simp), if_pos (by simp), if_pos rfl, if_pos rfl, tables_l0 sl hl sl.length k 0 (by omega) (by omega) (by omega) (by omega)]
  rfl

/-- The pure statement of the law. -/
def Pure : Prop := ∀ (a0_0 : Int) (a0_1 : Int) (a0_2 : Int) (a0_3 : Int) (a0_4 : Int) (a0_5 : Int) (a0_6 : Int) (a0_7 : Int) (a0_8 : Int) (a0_9 : Int) (a0_10 : Int) (a0_11 : Int) (a1_0 : Int) (a1_1 : Int) (a1_2 : Int) (a1_3 : Bool) (a1_4 : Int) (a1_5 : Int) (a1_6 : Bool) (l1_7 : List S82) (a1_8 : Int) (a1_9 : Int) (a1_10 : Int), (Lit.int .i64 a0_0).wf = true → (Lit.int .i64 a0_1).wf = true → (Lit.int .i64 a0_2).wf = true → (Lit.int .i64 a0_3).wf = true → (Lit.int .i64 a0_4).wf = true → (Lit.int .i64 a0_5).wf = true → (Lit.int .i64 a0_6).wf = true → (Lit.int .i64 a0_7).wf = true → (Lit.int .i64 a0_8).wf = true → (Lit.int .i64 a0_9).wf = true → (Lit.int .i64 a0_10).wf = true → (Lit.int .i64 a0_11).wf = true → (Lit.int .i64 a1_0).wf = true → (Lit.int .i64 a1_1).wf = true → (Lit.int .i64 a1_2).wf = true → (Lit.int .i64 a1_4).wf = true → (Lit.int .i64 a1_5).wf = true → (∀ x ∈ l1_7, (Lit.int .i64 x.f0).wf = true ∧ (Lit.int .i64 x.f1).wf = true) → (Lit.int .i64 a1_8).wf = true → (Lit.int .i64 a1_9).wf = true → (Lit.int .i64 a1_10).wf = true → ∃ k, clepsydralaw21_HealthTells.f k a0_0 a0_1 a0_2 a0_3 a0_4 a0_5 a0_6 a0_7 a0_8 a0_9 a0_10 a0_11 a1_0 a1_1 a1_2 a1_3 a1_4 a1_5 a1_6 l1_7 a1_8 a1_9 a1_10 = some true

theorem HealthTells : Pure := by
  intro p0 p1 d p3 rho p5 jit eps mu hold p10 sec s0 s1 s2 s3 s4 s5 s6 sl s8 s9 s10 _ _ _ _ _ _ _ _ _ _ _ _ _ _ _ _ _ _ _ _ _
  refine ⟨200000000000, ?_⟩
  unfold clepsydralaw21_HealthTells.f clepsydralaw21_long.f
  by_cases hl : (sl.length : Int) > 256
  · rw [if_pos hl, Option.bind_some, if_pos rfl]
  · have hl2 : sl.length ≤ 256 := by omega
    rw [if_neg hl, decide_eq_false hl, Option.bind_some, if_neg (by decide), of_hk _ _ _ _ _ _ _ _ _ _ _ _ _ _ _ _ _ _ _ _ _ _ _ (by omega), Option.bind_some, rof_hk _ _ _ _ _ _ _ _ _ _ _ _ _ _ _ _ _ _ _ _ _ _ _ (by omega), Option.bind_some]
    unfold clepsydraref13_Number.f clepsydraref21_UTC.f
    rw [rdiv_eq, Option.bind_some, Option.bind_some, rof_hk _ _ _ _ _ _ _ _ _ _ _ _ _ _ _ _ _ _ _ _ _ _ _ (by omega), Option.bind_some]
    by_cases h0 : ofV d hold s5 s4 s3 s6 = 0
    · rw [if_pos h0, Option.bind_some, same_hk _ _ _ _ _ _ _ _ _ _ _ hl2 (by omega), Option.bind_some, if_pos ⟨rfl, rfl⟩, if_pos h0, if_pos rfl]
    · obtain ⟨c, hc⟩ : ∃ c, c = clp s2 / mx (clp sec) 1 := ⟨_, rfl⟩
      unfold pulse_Number.f
      rw [if_neg h0, rdiv_eq, Option.bind_some, rgood_eq sl hl2 (by omega), Option.bind_some, same_hk _ _ _ _ _ _ _ _ _ _ _ hl2 (by omega), wdiv_eq _ _ (by omega), wdiv_eq _ _ (by omega)]
      simp only [Option.bind_some, ← hc]
      by_cases hg : goodV sl = true
      · rw [if_pos hg]
        by_cases q : c < -4398046511104 ∨ 4398046511104 < c
        · rw [lab_out hl2 hg q (by omega)]
          by_cases q2 : c > 4398046511104
          · rw [if_pos q2]; simp [h0]
          · rw [if_neg q2, if_pos (by omega)]; simp [h0]
        · rw [if_neg (by omega), if_neg (by omega), rlab_eq hl2 hg (by omega) (by omega) (by omega), lab_eq hl2 hg (by omega) (by omega) (by omega)]
          simp [h0]
      · rw [if_neg hg, lab_bad hl2 hg c (by omega)]; simp [h0]

end Go.Proofs.YtigkjbaclpklpaaDoor.VHealthTells
