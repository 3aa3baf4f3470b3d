/- Behind four hundred years the calendar begins anew. -/
import Derived.Test.YtidoeplhgckmaaaDoorQx15
import Derived.OpenShut
set_option linter.unusedVariables false
set_option linter.unusedSimpArgs false
namespace Go.Proofs.YtidoeplhgckmaaaDoor.VCivilCycles
open Go.RowKit Go.Proofs.YtidoeplhgckmaaaDoor.Q Go.Proofs.YtidoeplhgckmaaaDoorW.PrintWords Go.Proofs.YtidoeplhgckmaaaDoorW.PrintLast Go.Proofs.YtidoeplhgckmaaaDoorW.PrintMore

theorem wb {n : Int} (h : (Lit.int .i64 n).wf = true) : -9223372036854775808 ≤ n ∧ n ≤ 9223372036854775807 := Go.bounds_i64 h
theorem w64 {n : Int} (h1 : -9223372036854775808 ≤ n) (h2 : n ≤ 9223372036854775807) : wrap64 n = n := by unfold wrap64; omega
def clp (x : Int) : Int := if x < -2305843009213693952 then -2305843009213693952 else if 2305843009213693952 < x then 2305843009213693952 else x
theorem clp_b (x : Int) : -2305843009213693952 ≤ clp x ∧ clp x ≤ 2305843009213693952 := by unfold clp; split <;> (try split) <;> omega
theorem clp_id {x : Int} (h1 : -2305843009213693952 ≤ x) (h2 : x ≤ 2305843009213693952) : clp x = x := by unfold clp; rw [if_neg (by omega), if_neg (by omega)]
theorem clp_neg (x : Int) : clp (-x) = -clp x := by unfold clp; split <;> (try split) <;> (try split) <;> (try split) <;> omega
def bnd (x lo hi : Int) : Int := if x < lo ∨ hi < lo then lo else if hi < x then hi else x
def addL (l : List Int) : Int := l.foldl (fun n x => clp (n + clp x)) 0
def sub (a b : Int) : Int := clp (clp a - clp b)
def absC (a : Int) : Int := if a < 0 then -clp a else clp a
theorem absC_b (x : Int) : 0 ≤ absC x ∧ absC x ≤ 2305843009213693952 := by have := clp_b x; unfold absC; unfold clp at *; split <;> omega
theorem add2 (a b : Int) : addL [a, b] = clp (clp a + clp b) := by
  have h := clp_b a
  simp only [addL, List.foldl_cons, List.foldl_nil, Int.zero_add]
  rw [clp_id h.1 h.2]
theorem add3 (a b c : Int) : addL [a, b, c] = clp (clp (clp a + clp b) + clp c) := by
  have h := clp_b a
  simp only [addL, List.foldl_cons, List.foldl_nil, Int.zero_add]
  rw [clp_id h.1 h.2]
theorem rd_drop {l : List Int} {i : Int} (h0 : 0 ≤ i) (h1 : i < (l.length : Int)) : l.drop i.toNat = rd l i :: l.drop (i + 1).toNat := by
  have h : i.toNat < l.length := by omega
  rw [List.drop_eq_getElem_cons h, show (i + 1).toNat = i.toNat + 1 from by omega]
  congr 1
  simp [rd, List.getD_eq_getElem?_getD, List.getElem?_eq_getElem h]
def mulC (a b : Int) : Int := clp (clp a * clp b)
theorem mulC_b (a b : Int) : -2305843009213693952 ≤ mulC a b ∧ mulC a b ≤ 2305843009213693952 := clp_b _
theorem sub_b (a b : Int) : -2305843009213693952 ≤ sub a b ∧ sub a b ≤ 2305843009213693952 := clp_b _
theorem addL_b (l : List Int) : -2305843009213693952 ≤ addL l ∧ addL l ≤ 2305843009213693952 := by
  unfold addL
  suffices h : ∀ (l : List Int) (n : Int), -2305843009213693952 ≤ n → n ≤ 2305843009213693952 → -2305843009213693952 ≤ l.foldl (fun n x => clp (n + clp x)) n ∧ l.foldl (fun n x => clp (n + clp x)) n ≤ 2305843009213693952 from h l 0 (by omega) (by omega)
  intro l
  induction l with
  | nil => intro n h1 h2; exact ⟨h1, h2⟩
  | cons x l ih => intro n _ _; exact ih _ (clp_b _).1 (clp_b _).2

theorem bound_eq {k : Nat} (x lo hi : Int) (hk : 0 < k) : sat_Bound.f k x lo hi = some (bnd x lo hi) := by
  obtain ⟨k, rfl⟩ : ∃ m, k = m + 1 := ⟨k - 1, by omega⟩
  unfold sat_Bound.f bnd
  simp only [sat_Bound.j0]
  by_cases h1 : x < lo
  · simp [h1]
  · by_cases h2 : hi < lo
    · simp [h1, h2]
    · simp only [h1, h2, if_false, false_or, decide_false, if_neg]
      by_cases h3 : hi < x
      · simp [h3]
      · simp [h3]
theorem clip_eq {k : Nat} (x : Int) (hk : 0 < k) : sat_Clip.f k x = some (clp x) := by
  unfold sat_Clip.f
  rw [bound_eq x _ _ hk]
  simp only [Option.bind_some, bnd, clp]
  congr 1
  split <;> split <;> (try split) <;> omega

theorem dm_eq {A c : Int} (hc : 0 < c) : (A.tmod c < 0 → A / c = A.tdiv c - 1 ∧ A % c = A.tmod c + c) ∧ (¬ A.tmod c < 0 → A / c = A.tdiv c ∧ A % c = A.tmod c) := by
  have h1 := Int.tmod_def A c
  have h2 : A.tmod c < c := Int.tmod_lt_of_pos A hc
  have h3 : -c < A.tmod c := by
    rcases Int.le_total 0 A with h | h
    · have := Int.tmod_nonneg c h; omega
    · have := Int.tmod_lt_of_pos (-A) hc; rw [Int.neg_tmod] at this; omega
  constructor
  · intro h; exact (Int.ediv_emod_unique hc).mpr ⟨by rw [Int.mul_sub]; omega, by omega, by omega⟩
  · intro h; exact (Int.ediv_emod_unique hc).mpr ⟨by omega, by omega, by omega⟩
theorem ediv_b {A c : Int} (hc : 0 < c) (h1 : -2305843009213693952 ≤ A) (h2 : A ≤ 2305843009213693952) : -2305843009213693952 ≤ A / c ∧ A / c ≤ 2305843009213693952 := by
  constructor
  · apply Int.le_ediv_of_mul_le hc; omega
  · have : A / c < 2305843009213693953 := Int.ediv_lt_of_lt_mul hc (by omega)
    omega
theorem mx1_b (c : Int) : 1 ≤ mx (clp c) 1 ∧ mx (clp c) 1 ≤ 2305843009213693952 := by
  have := clp_b c; unfold mx; split <;> omega

theorem wdiv_eq {k : Nat} (a c : Int) (hk : 0 < k) : wide_Div.f k a c = some (clp a / mx (clp c) 1, clp a % mx (clp c) 1) := by
  have ha := clp_b a
  have hm := mx1_b c
  unfold wide_Div.f
  rw [clip_eq a hk, Option.bind_some, clip_eq c hk, Option.bind_some, if_neg (by omega)]
  generalize clp a = A at *
  generalize mx (clp c) 1 = z at *
  have d := dm_eq (A := A) (c := z) (by omega)
  have b := ediv_b (A := A) (c := z) (by omega) ha.1 ha.2
  have m0 := Int.emod_nonneg A (show z ≠ 0 by omega)
  have m1 := Int.emod_lt_of_pos A (show 0 < z by omega)
  by_cases h : A.tmod z < 0
  · have e := d.1 h
    rw [if_pos h, w64 (n := Int.tdiv A z) (by omega) (by omega), w64 (n := Int.tdiv A z - 1) (by omega) (by omega), w64 (by omega) (by omega), e.1, e.2]
  · have e := d.2 h
    rw [if_neg h, w64 (n := Int.tdiv A z) (by omega) (by omega), e.1, e.2]

theorem tmod_gt {x c : Int} (hc : 0 < c) : -c < x.tmod c := by
  rcases Int.le_total 0 x with h | h
  · have := Int.tmod_nonneg c h; omega
  · have := Int.tmod_lt_of_pos (-x) hc; rw [Int.neg_tmod] at this; omega
theorem tz {x c : Int} (hc : 0 < c) : x.tmod c = 0 ↔ x % c = 0 := by
  have d := dm_eq (A := x) hc
  have g := tmod_gt (x := x) hc
  by_cases h : x.tmod c < 0
  · have := (d.1 h).2; omega
  · have := (d.2 h).2; omega
def lp (y : Int) : Bool := y % 4 == 0 && (y % 100 != 0 || y % 400 == 0)
theorem lp_iff (y : Int) : lp y = true ↔ (y % 4 = 0 ∧ (y % 100 ≠ 0 ∨ y % 400 = 0)) := by simp [lp]
theorem leap_eq (y : Int) : civil_Leap.f y = some (lp y) := by
  have t4 := tz (x := y) (c := 4) (by omega)
  have t100 := tz (x := y) (c := 100) (by omega)
  have t400 := tz (x := y) (c := 400) (by omega)
  unfold civil_Leap.f lp
  by_cases a : y % 4 = 0
  · rw [if_pos (t4.mpr a)]
    by_cases b : y % 100 = 0
    · rw [if_pos (t100.mpr b)]
      congr 1
      rw [show (y % 4 == 0) = true from by simp [a], show (y % 100 != 0) = false from by simp [b], Bool.true_and, Bool.false_or, Bool.eq_iff_iff, beq_iff_eq, beq_iff_eq]
      exact t400
    · rw [if_neg (fun h => b (t100.mp h))]; simp [a, b]
  · rw [if_neg (fun h => a (t4.mp h))]; simp [a]
def mo (m : Int) : Int := monthsL.getD (m.toNat - 1) 0
def ahv (y m : Int) : Int := mo m + (if 2 < m ∧ lp y = true then 1 else 0)
def dyv (y m : Int) : Int := if m = 2 then (if lp y = true then 29 else 28) else if m = 4 ∨ m = 6 ∨ m = 9 ∨ m = 11 then 30 else 31
theorem m12 {m : Int} (h1 : 1 ≤ m) (h2 : m ≤ 12) : m = 1 ∨ m = 2 ∨ m = 3 ∨ m = 4 ∨ m = 5 ∨ m = 6 ∨ m = 7 ∨ m = 8 ∨ m = 9 ∨ m = 10 ∨ m = 11 ∨ m = 12 := by omega
theorem mo_b {m : Int} (h1 : 1 ≤ m) (h2 : m ≤ 13) : 0 ≤ mo m ∧ mo m ≤ 365 := by
  have : m = 1 ∨ m = 2 ∨ m = 3 ∨ m = 4 ∨ m = 5 ∨ m = 6 ∨ m = 7 ∨ m = 8 ∨ m = 9 ∨ m = 10 ∨ m = 11 ∨ m = 12 ∨ m = 13 := by omega
  rcases this with rfl | rfl | rfl | rfl | rfl | rfl | rfl | rfl | rfl | rfl | rfl | rfl | rfl <;> decide
theorem ahv_b {y m : Int} (h1 : 1 ≤ m) (h2 : m ≤ 13) : 0 ≤ ahv y m ∧ ahv y m ≤ 366 := by
  have := mo_b h1 h2; unfold ahv; split <;> omega
theorem ahead_eq {y m : Int} (h1 : 1 ≤ m) (h2 : m ≤ 13) : civil_ahead.f y m = some (ahv y m) := by
  have hb := mo_b h1 h2
  unfold civil_ahead.f
  rw [if_pos ⟨h1, h2⟩]
  by_cases c : m > 2
  · rw [if_pos c, leap_eq, Option.bind_some]
    unfold ahv
    cases hl : lp y
    · simp [mo]
    · have hw : wrap64 (mo m + 1) = mo m + 1 := w64 (by omega) (by omega)
      simp [c]
      exact hw
  · rw [if_neg c]
    unfold ahv
    rw [if_neg (by omega)]; simp [mo]
theorem ah1 (y : Int) : ahv y 1 = 0 := by unfold ahv; rw [if_neg (by omega)]; decide
theorem ah_step {y m : Int} (h1 : 1 ≤ m) (h2 : m ≤ 12) : ahv y (m + 1) = ahv y m + dyv y m := by
  rcases m12 h1 h2 with rfl | rfl | rfl | rfl | rfl | rfl | rfl | rfl | rfl | rfl | rfl | rfl <;> unfold ahv dyv <;> cases lp y <;> decide
def yl (y : Int) : Int := if lp y = true then 366 else 365
theorem ah13 (y : Int) : ahv y 13 = yl y := by unfold ahv yl; cases lp y <;> decide
theorem dyv_b (y m : Int) : 28 ≤ dyv y m ∧ dyv y m ≤ 31 := by unfold dyv; split <;> (try split) <;> omega
theorem days_eq {k : Nat} (y m : Int) (b : -9223372036854775808 ≤ m ∧ m ≤ 9223372036854775807) (hk : 2 < k) : civil_Days.f k y m = some (if 1 ≤ m ∧ m ≤ 12 then dyv y m else 0) := by
  obtain ⟨k, rfl⟩ : ∃ j, k = j + 1 := ⟨k - 1, by omega⟩
  unfold civil_Days.f
  by_cases c1 : m < 1
  · rw [if_pos c1, if_neg (by omega), civil_Days.j0, if_pos rfl]
  · rw [if_neg c1]
    by_cases c2 : m > 12
    · rw [decide_eq_true c2, if_neg (by omega), civil_Days.j0, if_pos rfl]
    · have h := ah_step (y := y) (m := m) (by omega) (by omega)
      have d := dyv_b y m
      rw [decide_eq_false c2, if_pos (by omega), civil_Days.j0, if_neg (by simp), w64 (n := m + 1) (by omega) (by omega), ahead_eq (by omega) (by omega), Option.bind_some, ahead_eq (by omega) (by omega), Option.bind_some, h, w64 (by omega) (by omega)]
      congr 1; omega

def fst_ (y : Int) : Int := 365 * (y - 1) + (y - 1) / 4 - (y - 1) / 100 + (y - 1) / 400 - 719162
theorem fst_step (y : Int) : fst_ (y + 1) = fst_ y + yl y := by
  have h := lp_iff y
  unfold fst_ yl
  by_cases c : lp y = true
  · have := h.mp c; rw [if_pos c]; omega
  · have : ¬ (y % 4 = 0 ∧ (y % 100 ≠ 0 ∨ y % 400 = 0)) := fun x => c (h.mpr x)
    rw [if_neg c]; omega
theorem yl_b (y : Int) : 365 ≤ yl y ∧ yl y ≤ 366 := by unfold yl; split <;> omega
theorem fst_add (y : Int) (j : Nat) : fst_ y + 365 * j ≤ fst_ (y + j) ∧ fst_ (y + j) ≤ fst_ y + 366 * j := by
  induction j with
  | zero => simp
  | succ j ih =>
    have s := fst_step (y + j)
    have b := yl_b (y + j)
    rw [show y + ((j + 1 : Nat) : Int) = y + j + 1 from by omega]; omega
theorem fst_mono {a b : Int} (h : a ≤ b) : fst_ a + 365 * (b - a) ≤ fst_ b ∧ fst_ b ≤ fst_ a + 366 * (b - a) := by
  have := fst_add a (b - a).toNat
  rw [show a + ((b - a).toNat : Int) = b from by omega] at this; omega
theorem fst_1970 : fst_ 1970 = 0 := by decide
theorem fst_cycle (y q : Int) : fst_ (y + 400 * q) = fst_ y + 146097 * q := by unfold fst_; omega
theorem lp_cycle (y q : Int) : lp (y + 400 * q) = lp y := by
  have a := lp_iff (y + 400 * q)
  have b := lp_iff y
  have : ((y + 400 * q) % 4 = 0 ∧ ((y + 400 * q) % 100 ≠ 0 ∨ (y + 400 * q) % 400 = 0)) ↔ (y % 4 = 0 ∧ (y % 100 ≠ 0 ∨ y % 400 = 0)) := by omega
  cases h : lp y <;> cases h2 : lp (y + 400 * q) <;> simp_all
theorem fst_b (y : Int) : 365 * y - 4 * 1000000 - (if y < 0 then -y else 0) ≤ fst_ y ∧ fst_ y ≤ 365 * y + (if y < 0 then 0 else y) := by unfold fst_; split <;> omega
theorem first_eq {k : Nat} {y : Int} (h1 : -1000000000 ≤ y) (h2 : y ≤ 1000000000) (hk : 0 < k) : civil_first.f k y = some (fst_ y) := by
  have b := fst_b y
  unfold civil_first.f
  rw [w64 (n := y - 1) (by omega) (by omega), wdiv_eq _ _ hk, Option.bind_some, wdiv_eq _ _ hk, Option.bind_some, wdiv_eq _ _ hk, Option.bind_some, clp_id (x := y - 1) (by omega) (by omega)]
  rw [show mx (clp 4) 1 = 4 from by decide, show mx (clp 100) 1 = 100 from by decide, show mx (clp 400) 1 = 400 from by decide]
  dsimp only
  rw [w64 (n := 365 * (y - 1)) (by omega) (by omega), w64 (n := 365 * (y - 1) + (y - 1) / 4) (by omega) (by omega), w64 (n := 365 * (y - 1) + (y - 1) / 4 - (y - 1) / 100) (by omega) (by omega), w64 (n := 365 * (y - 1) + (y - 1) / 4 - (y - 1) / 100 + (y - 1) / 400) (by omega) (by omega), w64 (by omega) (by omega)]
  rfl
/-- A year, month and day that are the n-th day. -/
structure IsDate (n y m d : Int) : Prop where
  m1 : 1 ≤ m
  m2 : m ≤ 12
  d1 : 1 ≤ d
  d2 : d ≤ dyv y m
  hn : n = fst_ y + ahv y m + d - 1
theorem ah_mono {y m m' : Int} (h1 : 1 ≤ m) (h : m < m') (h2 : m' ≤ 13) : ahv y m + dyv y m ≤ ahv y m' := by
  obtain ⟨j, hj⟩ : ∃ j : Nat, m' = m + 1 + j := ⟨(m' - m - 1).toNat, by omega⟩
  subst hj
  induction j with
  | zero => have := ah_step (y := y) h1 (by omega); simpa using Int.le_of_eq this.symm
  | succ j ih =>
    have i := ih (by omega) (by omega)
    have s := ah_step (y := y) (m := m + 1 + j) (by omega) (by omega)
    have b := dyv_b y (m + 1 + j)
    rw [show m + 1 + ((j + 1 : Nat) : Int) = m + 1 + j + 1 from by omega]; omega
theorem date_in {n y m d : Int} (h : IsDate n y m d) : fst_ y ≤ n ∧ n < fst_ (y + 1) := by
  have m1 := h.m1; have m2 := h.m2; have d1 := h.d1; have d2 := h.d2; have hn := h.hn
  have a := ahv_b (y := y) (m := m) m1 (by omega)
  have b := ah_mono (y := y) m1 (show m < 13 by omega) (by omega)
  rw [ah13] at b
  have s := fst_step y
  omega
theorem date_unique {n y m d y' m' d' : Int} (h : IsDate n y m d) (h' : IsDate n y' m' d') : y = y' ∧ m = m' ∧ d = d' := by
  have i := date_in h
  have i' := date_in h'
  have hy : y = y' := by
    rcases Int.lt_trichotomy y y' with c | c | c
    · have := (fst_mono (show y + 1 ≤ y' by omega)).1; omega
    · exact c
    · have := (fst_mono (show y' + 1 ≤ y by omega)).1; omega
  subst hy
  have m1 := h.m1; have m2 := h.m2; have d1 := h.d1; have d2 := h.d2; have hn := h.hn
  have m1' := h'.m1; have m2' := h'.m2; have d1' := h'.d1; have d2' := h'.d2; have hn' := h'.hn
  have hm : m = m' := by
    rcases Int.lt_trichotomy m m' with c | c | c
    · have := ah_mono (y := y) m1 c (by omega); omega
    · exact c
    · have := ah_mono (y := y) m1' c (by omega); omega
  subst hm
  exact ⟨rfl, rfl, by omega⟩
def dayV (y m d : Int) : Int × Bool := if y > 11767033 ∨ y < -11767033 ∨ d < 1 ∨ (if 1 ≤ m ∧ m ≤ 12 then dyv y m else 0) < d ∨ fst_ y + ahv y m + d - 1 < -4294967296 ∨ 4294967296 < fst_ y + ahv y m + d - 1 then (0, false) else (fst_ y + ahv y m + d - 1, true)
theorem day_eq {k : Nat} (y m d : Int) (bm : -9223372036854775808 ≤ m ∧ m ≤ 9223372036854775807) (hk : 5 < k) : civil_Day.f k y m d = some (dayV y m d) := by
  obtain ⟨k, rfl⟩ : ∃ j, k = j + 1 := ⟨k - 1, by omega⟩
  have t : civil_Day.j0 (k + 1) y m d true = some (0, false) := by rw [civil_Day.j0, if_pos rfl]
  unfold civil_Day.f dayV
  rw [t]
  by_cases c1 : y > 11767033
  · rw [if_pos c1, if_pos (.inl c1)]
  rw [if_neg c1]
  by_cases c2 : y < -11767033
  · rw [if_pos c2, if_pos (.inr (.inl c2))]
  rw [if_neg c2]
  by_cases c3 : d < 1
  · rw [if_pos c3, if_pos (.inr (.inr (.inl c3)))]
  rw [if_neg c3, days_eq y m bm (by omega), Option.bind_some]
  by_cases c4 : (if 1 ≤ m ∧ m ≤ 12 then dyv y m else 0) < d
  · rw [decide_eq_true c4, t, if_pos (.inr (.inr (.inr (.inl c4))))]
  have hm : 1 ≤ m ∧ m ≤ 12 := by
    by_cases hm : 1 ≤ m ∧ m ≤ 12
    · exact hm
    · rw [if_neg hm] at c4; omega
  have hd : d ≤ dyv y m := by rw [if_pos hm] at c4; omega
  have db := dyv_b y m
  have ab := ahv_b (y := y) (m := m) hm.1 (by omega)
  have fb := fst_b y
  rw [decide_eq_false c4, civil_Day.j0, if_neg (by simp), first_eq (by omega) (by omega) (by omega), Option.bind_some, ahead_eq hm.1 (by omega), Option.bind_some, w64 (n := fst_ y + ahv y m) (by omega) (by omega), w64 (n := fst_ y + ahv y m + d) (by omega) (by omega), w64 (n := fst_ y + ahv y m + d - 1) (by omega) (by omega)]
  by_cases c5 : fst_ y + ahv y m + d - 1 < -4294967296
  · rw [if_pos c5, if_pos (.inr (.inr (.inr (.inr (.inl c5)))))]
  rw [if_neg c5]
  by_cases c6 : fst_ y + ahv y m + d - 1 > 4294967296
  · rw [if_pos c6, if_pos (.inr (.inr (.inr (.inr (.inr c6)))))]
  rw [if_neg c6, if_neg (by omega)]
theorem day_is {y m d : Int} (h : (dayV y m d).2 = true) : IsDate (dayV y m d).1 y m d ∧ -4294967296 ≤ (dayV y m d).1 ∧ (dayV y m d).1 ≤ 4294967296 := by
  unfold dayV at *
  by_cases c : y > 11767033 ∨ y < -11767033 ∨ d < 1 ∨ (if 1 ≤ m ∧ m ≤ 12 then dyv y m else 0) < d ∨ fst_ y + ahv y m + d - 1 < -4294967296 ∨ 4294967296 < fst_ y + ahv y m + d - 1
  · rw [if_pos c] at h; exact absurd h (by simp)
  · rw [if_neg c]
    have hm : 1 ≤ m ∧ m ≤ 12 := by
      by_cases hm : 1 ≤ m ∧ m ≤ 12
      · exact hm
      · rw [if_neg hm] at c; omega
    rw [if_pos hm] at c
    exact ⟨⟨hm.1, hm.2, by omega, by omega, rfl⟩, by dsimp only; omega, by dsimp only; omega⟩
theorem day_of {n y m d : Int} (h : IsDate n y m d) (n1 : -4294967296 ≤ n) (n2 : n ≤ 4294967296) : dayV y m d = (n, true) := by
  have i := date_in h
  have b := fst_b y
  have b2 := fst_b (y + 1)
  have hn := h.hn
  unfold dayV
  have yb : y ≤ 11767033 ∧ -11767033 ≤ y := by unfold fst_ at i; omega
  have d1 := h.d1
  have d2 := h.d2
  have hc : (if 1 ≤ m ∧ m ≤ 12 then dyv y m else 0) = dyv y m := if_pos ⟨h.m1, h.m2⟩
  rw [hc, ← hn, if_neg (by omega)]
theorem day_no {y m d : Int} (h : ¬ (dayV y m d).2 = true) : (dayV y m d).1 = 0 := by
  unfold dayV at *
  by_cases c : y > 11767033 ∨ y < -11767033 ∨ d < 1 ∨ (if 1 ≤ m ∧ m ≤ 12 then dyv y m else 0) < d ∨ fst_ y + ahv y m + d - 1 < -4294967296 ∨ 4294967296 < fst_ y + ahv y m + d - 1
  · rw [if_pos c]
  · rw [if_neg c] at h; exact absurd rfl h

theorem dt_l2 {n y : Int} (hy : fst_ y ≤ n ∧ n < fst_ (y + 1)) (e : Nat) : ∀ (k : Nat) (m : Int), 1 ≤ m → m ≤ 12 → 12 - m = e → ahv y m ≤ n - fst_ y → e + 1 < k → ∃ m' d', IsDate n y m' d' ∧ civil_Date.l2 k y (n - fst_ y) m = some (y, m', d', true) := by
  have s := fst_step y
  have a13 := ah13 y
  have yb := yl_b y
  induction e with
  | zero =>
    intro k m h1 h2 he ha hk
    obtain ⟨k, rfl⟩ : ∃ j, k = j + 1 := ⟨k - 1, by omega⟩
    obtain rfl : m = 12 := by omega
    have st := ah_step (y := y) (m := 12) (by omega) (by omega)
    have ab := ahv_b (y := y) (m := 12) (by omega) (by omega)
    rw [show (12 : Int) + 1 = 13 from rfl] at st
    rw [civil_Date.l2, w64 (n := 12 + 1) (by omega) (by omega), show (12 : Int) + 1 = 13 from rfl, ahead_eq (by omega) (by omega), Option.bind_some, if_neg (by omega), ahead_eq (by omega) (by omega), Option.bind_some, w64 (n := n - fst_ y - ahv y 12) (by omega) (by omega), w64 (by omega) (by omega)]
    exact ⟨12, _, ⟨by omega, by omega, by omega, by omega, by omega⟩, rfl⟩
  | succ e ih =>
    intro k m h1 h2 he ha hk
    obtain ⟨k, rfl⟩ : ∃ j, k = j + 1 := ⟨k - 1, by omega⟩
    have st := ah_step (y := y) (m := m) (by omega) (by omega)
    have ab := ahv_b (y := y) (m := m) (by omega) (by omega)
    rw [civil_Date.l2, w64 (n := m + 1) (by omega) (by omega), ahead_eq (by omega) (by omega), Option.bind_some]
    by_cases c : n - fst_ y ≥ ahv y (m + 1)
    · rw [if_pos c]
      exact ih k (m + 1) (by omega) (by omega) (by omega) c (by omega)
    · rw [if_neg c, ahead_eq (by omega) (by omega), Option.bind_some, w64 (n := n - fst_ y - ahv y m) (by omega) (by omega), w64 (by omega) (by omega)]
      exact ⟨m, _, ⟨by omega, by omega, by omega, by omega, by omega⟩, rfl⟩
theorem dt_l1 {n : Int} (n1 : -4294967296 ≤ n) (n2 : n ≤ 4294967296) (e : Nat) : ∀ (k : Nat) (y : Int), -20000000 ≤ y → y ≤ 20000000 → n < fst_ (y + 1) → fst_ y - n ≤ e → e + 20 < k → ∃ y' m' d', IsDate n y' m' d' ∧ civil_Date.l1 k n y = some (y', m', d', true) := by
  induction e with
  | zero =>
    intro k y y1 y2 hy he hk
    obtain ⟨k, rfl⟩ : ∃ j, k = j + 1 := ⟨k - 1, by omega⟩
    have fb := fst_b y
    rw [civil_Date.l1, first_eq (by omega) (by omega) (by omega), Option.bind_some, if_neg (by omega), Option.bind_some, w64 (by omega) (by omega)]
    obtain ⟨m', d', h1, h2⟩ := dt_l2 ⟨by omega, hy⟩ 11 k 1 (by omega) (by omega) (by omega) (by rw [ah1]; omega) (by omega)
    exact ⟨y, m', d', h1, h2⟩
  | succ e ih =>
    intro k y y1 y2 hy he hk
    obtain ⟨k, rfl⟩ : ∃ j, k = j + 1 := ⟨k - 1, by omega⟩
    have fb := fst_b y
    rw [civil_Date.l1, first_eq (by omega) (by omega) (by omega), Option.bind_some]
    by_cases c : fst_ y > n
    · have s := fst_step (y - 1)
      rw [show y - 1 + 1 = y from by omega] at s
      have yb := yl_b (y - 1)
      have y3 : -20000000 ≤ y - 1 := by unfold fst_ at c; omega
      rw [if_pos c, w64 (n := y - 1) (by omega) (by omega)]
      exact ih k (y - 1) y3 (by omega) (by rw [show y - 1 + 1 = y from by omega]; omega) (by omega) (by omega)
    · rw [if_neg c, Option.bind_some, w64 (by omega) (by omega)]
      obtain ⟨m', d', h1, h2⟩ := dt_l2 ⟨by omega, hy⟩ 11 k 1 (by omega) (by omega) (by omega) (by rw [ah1]; omega) (by omega)
      exact ⟨y, m', d', h1, h2⟩
theorem dt_l0 {n : Int} (n1 : -4294967296 ≤ n) (n2 : n ≤ 4294967296) (e : Nat) : ∀ (k : Nat) (y : Int), -20000000 ≤ y → y ≤ 20000000 → n - fst_ (y + 1) < e → e + 40000000000 < k → ∃ y' m' d', IsDate n y' m' d' ∧ civil_Date.l0 k n y = some (y', m', d', true) := by
  have fin : ∀ (k : Nat) (y : Int), -20000000 ≤ y → y ≤ 20000000 → n < fst_ (y + 1) → 30000000000 < k → ∃ y' m' d', IsDate n y' m' d' ∧ civil_Date.l1 k n y = some (y', m', d', true) := by
    intro k y y1 y2 hy hk
    have fb := fst_b y
    exact dt_l1 n1 n2 20000000000 k y y1 y2 hy (by omega) (by omega)
  induction e with
  | zero =>
    intro k y y1 y2 he hk
    obtain ⟨k, rfl⟩ : ∃ j, k = j + 1 := ⟨k - 1, by omega⟩
    rw [civil_Date.l0, w64 (n := y + 1) (by omega) (by omega), first_eq (by omega) (by omega) (by omega), Option.bind_some, if_neg (by omega)]
    exact fin k y y1 y2 (by omega) (by omega)
  | succ e ih =>
    intro k y y1 y2 he hk
    obtain ⟨k, rfl⟩ : ∃ j, k = j + 1 := ⟨k - 1, by omega⟩
    rw [civil_Date.l0, w64 (n := y + 1) (by omega) (by omega), first_eq (by omega) (by omega) (by omega), Option.bind_some]
    by_cases c : fst_ (y + 1) ≤ n
    · have s := fst_step y
      have yb := yl_b y
      have fb := fst_b y
      have fb1 := fst_b (y + 1)
      rw [if_pos c, first_eq (by omega) (by omega) (by omega), Option.bind_some, w64 (n := n - fst_ y) (by omega) (by omega), wdiv_eq _ _ (by omega), Option.bind_some, clp_id (x := n - fst_ y) (by omega) (by omega), show mx (clp 366) 1 = 366 from by decide]
      dsimp only
      generalize hq : (n - fst_ y) / 366 = q
      have q0 : 0 ≤ q := by omega
      have hx : 1 ≤ mx q 1 ∧ (mx q 1 = q ∨ mx q 1 = 1) := by unfold mx; split <;> omega
      generalize mx q 1 = x at hx
      have f1 := fst_mono (show y ≤ y + x by omega)
      have f2 := fst_mono (show y + 1 ≤ y + x + 1 by omega)
      have f3 : fst_ (y + x) ≤ n := by
        rcases hx.2 with h | h
        · omega
        · subst h; exact c
      have y3 : y + x ≤ 20000000 := by unfold fst_ at f3; omega
      rw [w64 (n := y + x) (by omega) (by omega)]
      exact ih k (y + x) (by omega) y3 (by omega) (by omega)
    · rw [if_neg c]
      exact fin k y y1 y2 (by omega) (by omega)
theorem date_eq {k : Nat} {n : Int} (n1 : -4294967296 ≤ n) (n2 : n ≤ 4294967296) (hk : 100000000000 < k) : ∃ y m d, IsDate n y m d ∧ civil_Date.f k n = some (y, m, d, true) := by
  obtain ⟨k, rfl⟩ : ∃ j, k = j + 1 := ⟨k - 1, by omega⟩
  unfold civil_Date.f
  rw [if_neg (by omega), decide_eq_false (by omega), civil_Date.j0, if_neg (by simp), wdiv_eq _ _ (by omega), Option.bind_some, clp_id (x := n) (by omega) (by omega), show mx (clp 366) 1 = 366 from by decide]
  dsimp only
  rw [w64 (n := n / 366 + 1970) (by omega) (by omega)]
  have fb := fst_b (n / 366 + 1970 + 1)
  exact dt_l0 n1 n2 30000000000 k _ (by omega) (by omega) (by omega) (by omega)
theorem date_out {k : Nat} {n : Int} (h : n < -4294967296 ∨ 4294967296 < n) (hk : 0 < k) : civil_Date.f k n = some (0, 0, 0, false) := by
  obtain ⟨k, rfl⟩ : ∃ j, k = j + 1 := ⟨k - 1, by omega⟩
  unfold civil_Date.f
  by_cases c : n < -4294967296
  · rw [if_pos c, civil_Date.j0, if_pos rfl]
  · rw [if_neg c, decide_eq_true (by omega), civil_Date.j0, if_pos rfl]
theorem calive_eq {k : Nat} (hk : 100000000000 < k) : clepsydralaw17_alive.f k = some true := by
  unfold clepsydralaw17_alive.f
  have d1 : dayV 2000 3 1 = (11017, true) := by decide +kernel
  obtain ⟨y, m, d, h, e⟩ := date_eq (k := k) (n := -1) (by omega) (by omega) hk
  have h' : IsDate (-1) 1969 12 31 := ⟨by omega, by omega, by omega, by decide, by decide +kernel⟩
  obtain ⟨rfl, rfl, rfl⟩ := date_unique h h'
  rw [day_eq _ _ _ (by omega) (by omega), Option.bind_some, d1, e, Option.bind_some]
  decide

theorem weekday_eq {k : Nat} {n : Int} (n1 : -10000000000 ≤ n) (n2 : n ≤ 10000000000) (hk : 0 < k) : civil_Weekday.f k n = some ((n + 3) % 7) := by
  unfold civil_Weekday.f
  rw [w64 (n := n + 3) (by omega) (by omega), wdiv_eq _ _ hk, Option.bind_some, clp_id (x := n + 3) (by omega) (by omega), show mx (clp 7) 1 = 7 from by decide]

/-- The pure statement of the law. -/
def Pure : Prop := ∀ (a0 : Int) (a1 : Int), (Lit.int .i64 a0).wf = true → (Lit.int .i64 a1).wf = true → ∃ k, clepsydralaw17_CivilCycles.f k a0 a1 = some true

theorem ahv_cycle (y q m : Int) : ahv (y + 400 * q) m = ahv y m := by unfold ahv; rw [lp_cycle]
theorem dyv_cycle (y q m : Int) : dyv (y + 400 * q) m = dyv y m := by unfold dyv; rw [lp_cycle]
theorem CivilCycles : Pure := by
  intro n q hn hq
  refine ⟨200000000000, ?_⟩
  have jt : ∀ k, clepsydralaw17_CivilCycles.j0 (k + 1) n q true = some true := by intro k; rw [clepsydralaw17_CivilCycles.j0, if_pos rfl]
  unfold clepsydralaw17_CivilCycles.f
  rw [calive_eq (by omega), Option.bind_some, if_pos rfl]
  by_cases c1 : n > 2147483648
  · rw [if_pos c1]; exact jt 199999999999
  rw [if_neg c1]
  by_cases c2 : n < -2147483648
  · rw [if_pos c2]; exact jt 199999999999
  rw [if_neg c2]
  by_cases c3 : q > 1000
  · rw [if_pos c3]; exact jt 199999999999
  rw [if_neg c3]
  by_cases c4 : q < -1000
  · rw [decide_eq_true c4]; exact jt 199999999999
  rw [decide_eq_false c4]
  generalize hk : (200000000000 : Nat) = k
  obtain ⟨k, rfl⟩ : ∃ j, k = j + 1 := ⟨k - 1, by omega⟩
  obtain ⟨y, m, d, h, e⟩ := date_eq (k := k) (n := n) (by omega) (by omega) (by omega)
  obtain ⟨y', m', d', h', e'⟩ := date_eq (k := k) (n := n + 146097 * q) (by omega) (by omega) (by omega)
  have fc := fst_cycle y q
  obtain ⟨rfl, rfl, rfl⟩ := date_unique h' (show IsDate (n + 146097 * q) (y + 400 * q) m d from ⟨h.m1, h.m2, h.d1, by rw [dyv_cycle]; exact h.d2, by rw [ahv_cycle]; have := h.hn; omega⟩)
  have i := date_in h
  have yb : -1000000000 ≤ y ∧ y ≤ 1000000000 := by unfold fst_ at i; omega
  rw [clepsydralaw17_CivilCycles.j0, if_neg (by simp), e, Option.bind_some, w64 (n := 146097 * q) (by omega) (by omega), w64 (n := n + 146097 * q) (by omega) (by omega), e', Option.bind_some, if_pos rfl, if_pos rfl]
  dsimp only
  rw [w64 (n := 400 * q) (by omega) (by omega), w64 (n := y + 400 * q) (by omega) (by omega), if_pos rfl, if_pos rfl, if_pos rfl, weekday_eq (by omega) (by omega) (by omega), Option.bind_some, weekday_eq (by omega) (by omega) (by omega), Option.bind_some, if_pos (by omega), leap_eq, Option.bind_some, leap_eq, Option.bind_some, lp_cycle]
  simp

end Go.Proofs.YtidoeplhgckmaaaDoor.VCivilCycles
