/- Leap and Days answer what the reference answers, for all years and months. -/
import Derived.Test.YtidoeplhgckmaaaDoorQx3
import Derived.OpenShut
set_option linter.unusedVariables false
set_option linter.unusedSimpArgs false
namespace Go.Proofs.YtidoeplhgckmaaaDoor.VCivilMonths
open Go.RowKit Go.Proofs.YtidoeplhgckmaaaDoor.Q Go.Proofs.YtidoeplhgckmaaaDoorW.PrintWords Go.Proofs.YtidoeplhgckmaaaDoorW.PrintLast Go.Proofs.YtidoeplhgckmaaaDoorW.PrintMore

theorem wb {n : Int} (h : (Lit.int .i64 n).wf = true) : -9223372036854775808 ≤ n ∧ n ≤ 9223372036854775807 := Go.bounds_i64 h
theorem w64 {n : Int} (h1 : -9223372036854775808 ≤ n) (h2 : n ≤ 9223372036854775807) : wrap64 n = n := by unfold wrap64; omega
def clp (x : Int) : Int := if x < -2305843009213693952 then -2305843009213693952 else if 2305843009213693952 < x then 2305843009213693952 else x
theorem clp_b (x : Int) : -2305843009213693952 ≤ clp x ∧ clp x ≤ 2305843009213693952 := by unfold clp; split <;> (try split) <;> omega
theorem clp_id {x : Int} (h1 : -2305843009213693952 ≤ x) (h2 : x ≤ 2305843009213693952) : clp x = x := by unfold clp; rw [if_neg (by omega), if_neg (by omega)]
theorem clp_neg (x : Int) : clp (-x) = -clp x := by unfold clp; split <;> (try split) <;> (try split) <;> (try split) <;> omega
def bnd (x lo hi : Int) : Int := if x < lo ∨ hi < lo then lo else if hi < x then hi else x
def addL (l : List Int) : Int := l.foldl (fun n x => clp (n + clp x)) 0
def sub (a b : Int) : Int := clp (clp a - clp b)
def absC (a : Int) : Int := if a < 0 then -clp a else clp a
theorem absC_b (x : Int) : 0 ≤ absC x ∧ absC x ≤ 2305843009213693952 := by have := clp_b x; unfold absC; unfold clp at *; split <;> omega
theorem add2 (a b : Int) : addL [a, b] = clp (clp a + clp b) := by
  have h := clp_b a
  simp only [addL, List.foldl_cons, List.foldl_nil, Int.zero_add]
  rw [clp_id h.1 h.2]
theorem add3 (a b c : Int) : addL [a, b, c] = clp (clp (clp a + clp b) + clp c) := by
  have h := clp_b a
  simp only [addL, List.foldl_cons, List.foldl_nil, Int.zero_add]
  rw [clp_id h.1 h.2]
theorem rd_drop {l : List Int} {i : Int} (h0 : 0 ≤ i) (h1 : i < (l.length : Int)) : l.drop i.toNat = rd l i :: l.drop (i + 1).toNat := by
  have h : i.toNat < l.length := by omega
  rw [List.drop_eq_getElem_cons h, show (i + 1).toNat = i.toNat + 1 from by omega]
  congr 1
  simp [rd, List.getD_eq_getElem?_getD, List.getElem?_eq_getElem h]
def mulC (a b : Int) : Int := clp (clp a * clp b)
theorem mulC_b (a b : Int) : -2305843009213693952 ≤ mulC a b ∧ mulC a b ≤ 2305843009213693952 := clp_b _
theorem sub_b (a b : Int) : -2305843009213693952 ≤ sub a b ∧ sub a b ≤ 2305843009213693952 := clp_b _
theorem addL_b (l : List Int) : -2305843009213693952 ≤ addL l ∧ addL l ≤ 2305843009213693952 := by
  unfold addL
  suffices h : ∀ (l : List Int) (n : Int), -2305843009213693952 ≤ n → n ≤ 2305843009213693952 → -2305843009213693952 ≤ l.foldl (fun n x => clp (n + clp x)) n ∧ l.foldl (fun n x => clp (n + clp x)) n ≤ 2305843009213693952 from h l 0 (by omega) (by omega)
  intro l
  induction l with
  | nil => intro n h1 h2; exact ⟨h1, h2⟩
  | cons x l ih => intro n _ _; exact ih _ (clp_b _).1 (clp_b _).2

theorem dm_eq {A c : Int} (hc : 0 < c) : (A.tmod c < 0 → A / c = A.tdiv c - 1 ∧ A % c = A.tmod c + c) ∧ (¬ A.tmod c < 0 → A / c = A.tdiv c ∧ A % c = A.tmod c) := by
  have h1 := Int.tmod_def A c
  have h2 : A.tmod c < c := Int.tmod_lt_of_pos A hc
  have h3 : -c < A.tmod c := by
    rcases Int.le_total 0 A with h | h
    · have := Int.tmod_nonneg c h; omega
    · have := Int.tmod_lt_of_pos (-A) hc; rw [Int.neg_tmod] at this; omega
  constructor
  · intro h; exact (Int.ediv_emod_unique hc).mpr ⟨by rw [Int.mul_sub]; omega, by omega, by omega⟩
  · intro h; exact (Int.ediv_emod_unique hc).mpr ⟨by omega, by omega, by omega⟩
theorem ediv_b {A c : Int} (hc : 0 < c) (h1 : -2305843009213693952 ≤ A) (h2 : A ≤ 2305843009213693952) : -2305843009213693952 ≤ A / c ∧ A / c ≤ 2305843009213693952 := by
  constructor
  · apply Int.le_ediv_of_mul_le hc; omega
  · have : A / c < 2305843009213693953 := Int.ediv_lt_of_lt_mul hc (by omega)
    omega
theorem mx1_b (c : Int) : 1 ≤ mx (clp c) 1 ∧ mx (clp c) 1 ≤ 2305843009213693952 := by
  have := clp_b c; unfold mx; split <;> omega

theorem tmod_gt {x c : Int} (hc : 0 < c) : -c < x.tmod c := by
  rcases Int.le_total 0 x with h | h
  · have := Int.tmod_nonneg c h; omega
  · have := Int.tmod_lt_of_pos (-x) hc; rw [Int.neg_tmod] at this; omega
theorem tz {x c : Int} (hc : 0 < c) : x.tmod c = 0 ↔ x % c = 0 := by
  have d := dm_eq (A := x) hc
  have g := tmod_gt (x := x) hc
  by_cases h : x.tmod c < 0
  · have := (d.1 h).2; omega
  · have := (d.2 h).2; omega
def lp (y : Int) : Bool := y % 4 == 0 && (y % 100 != 0 || y % 400 == 0)
theorem lp_iff (y : Int) : lp y = true ↔ (y % 4 = 0 ∧ (y % 100 ≠ 0 ∨ y % 400 = 0)) := by simp [lp]
theorem leap_eq (y : Int) : civil_Leap.f y = some (lp y) := by
  have t4 := tz (x := y) (c := 4) (by omega)
  have t100 := tz (x := y) (c := 100) (by omega)
  have t400 := tz (x := y) (c := 400) (by omega)
  unfold civil_Leap.f lp
  by_cases a : y % 4 = 0
  · rw [if_pos (t4.mpr a)]
    by_cases b : y % 100 = 0
    · rw [if_pos (t100.mpr b)]
      congr 1
      rw [show (y % 4 == 0) = true from by simp [a], show (y % 100 != 0) = false from by simp [b], Bool.true_and, Bool.false_or, Bool.eq_iff_iff, beq_iff_eq, beq_iff_eq]
      exact t400
    · rw [if_neg (fun h => b (t100.mp h))]; simp [a, b]
  · rw [if_neg (fun h => a (t4.mp h))]; simp [a]
def mo (m : Int) : Int := monthsL.getD (m.toNat - 1) 0
def ahv (y m : Int) : Int := mo m + (if 2 < m ∧ lp y = true then 1 else 0)
def dyv (y m : Int) : Int := if m = 2 then (if lp y = true then 29 else 28) else if m = 4 ∨ m = 6 ∨ m = 9 ∨ m = 11 then 30 else 31
theorem m12 {m : Int} (h1 : 1 ≤ m) (h2 : m ≤ 12) : m = 1 ∨ m = 2 ∨ m = 3 ∨ m = 4 ∨ m = 5 ∨ m = 6 ∨ m = 7 ∨ m = 8 ∨ m = 9 ∨ m = 10 ∨ m = 11 ∨ m = 12 := by omega
theorem mo_b {m : Int} (h1 : 1 ≤ m) (h2 : m ≤ 13) : 0 ≤ mo m ∧ mo m ≤ 365 := by
  have : m = 1 ∨ m = 2 ∨ m = 3 ∨ m = 4 ∨ m = 5 ∨ m = 6 ∨ m = 7 ∨ m = 8 ∨ m = 9 ∨ m = 10 ∨ m = 11 ∨ m = 12 ∨ m = 13 := by omega
  rcases this with rfl | rfl | rfl | rfl | rfl | rfl | rfl | rfl | rfl | rfl | rfl | rfl | rfl <;> decide
theorem ahv_b {y m : Int} (h1 : 1 ≤ m) (h2 : m ≤ 13) : 0 ≤ ahv y m ∧ ahv y m ≤ 366 := by
  have := mo_b h1 h2; unfold ahv; split <;> omega
theorem ahead_eq {y m : Int} (h1 : 1 ≤ m) (h2 : m ≤ 13) : civil_ahead.f y m = some (ahv y m) := by
  have hb := mo_b h1 h2
  unfold civil_ahead.f
  rw [if_pos ⟨h1, h2⟩]
  by_cases c : m > 2
  · rw [if_pos c, leap_eq, Option.bind_some]
    unfold ahv
    cases hl : lp y
    · simp [mo]
    · have hw : wrap64 (mo m + 1) = mo m + 1 := w64 (by omega) (by omega)
      simp [c]
      exact hw
  · rw [if_neg c]
    unfold ahv
    rw [if_neg (by omega)]; simp [mo]
theorem ah1 (y : Int) : ahv y 1 = 0 := by unfold ahv; rw [if_neg (by omega)]; decide
theorem ah_step {y m : Int} (h1 : 1 ≤ m) (h2 : m ≤ 12) : ahv y (m + 1) = ahv y m + dyv y m := by
  rcases m12 h1 h2 with rfl | rfl | rfl | rfl | rfl | rfl | rfl | rfl | rfl | rfl | rfl | rfl <;> unfold ahv dyv <;> cases lp y <;> decide
def yl (y : Int) : Int := if lp y = true then 366 else 365
theorem ah13 (y : Int) : ahv y 13 = yl y := by unfold ahv yl; cases lp y <;> decide
theorem dyv_b (y m : Int) : 28 ≤ dyv y m ∧ dyv y m ≤ 31 := by unfold dyv; split <;> (try split) <;> omega
theorem days_eq {k : Nat} (y m : Int) (b : -9223372036854775808 ≤ m ∧ m ≤ 9223372036854775807) (hk : 2 < k) : civil_Days.f k y m = some (if 1 ≤ m ∧ m ≤ 12 then dyv y m else 0) := by
  obtain ⟨k, rfl⟩ : ∃ j, k = j + 1 := ⟨k - 1, by omega⟩
  unfold civil_Days.f
  by_cases c1 : m < 1
  · rw [if_pos c1, if_neg (by omega), civil_Days.j0, if_pos rfl]
  · rw [if_neg c1]
    by_cases c2 : m > 12
    · rw [decide_eq_true c2, if_neg (by omega), civil_Days.j0, if_pos rfl]
    · have h := ah_step (y := y) (m := m) (by omega) (by omega)
      have d := dyv_b y m
      rw [decide_eq_false c2, if_pos (by omega), civil_Days.j0, if_neg (by simp), w64 (n := m + 1) (by omega) (by omega), ahead_eq (by omega) (by omega), Option.bind_some, ahead_eq (by omega) (by omega), Option.bind_some, h, w64 (by omega) (by omega)]
      congr 1; omega

theorem rleap_eq (y : Int) : clepsydraref17_Leap.f y = some (lp y) := by
  have t4 := tz (x := y) (c := 4) (by omega)
  have t100 := tz (x := y) (c := 100) (by omega)
  have t400 := tz (x := y) (c := 400) (by omega)
  unfold clepsydraref17_Leap.f lp
  by_cases c : y % 400 = 0
  · have a : y % 4 = 0 := by omega
    rw [if_pos (t400.mpr c)]; simp [a, c]
  · rw [if_neg (fun h => c (t400.mp h))]
    by_cases a : y % 4 = 0
    · rw [if_pos (t4.mpr a)]
      congr 1
      rw [show (y % 4 == 0) = true from by simp [a], show (y % 400 == 0) = false from by simp [c], Bool.true_and, Bool.or_false, Bool.eq_iff_iff, bne_iff_ne, bne_iff_ne]
      exact not_congr t100
    · rw [if_neg (fun h => a (t4.mp h))]; simp [a]
theorem rdays_eq {k : Nat} (y m : Int) (hk : 2 < k) : clepsydraref17_Days.f k y m = some (if 1 ≤ m ∧ m ≤ 12 then dyv y m else 0) := by
  obtain ⟨k, rfl⟩ : ∃ j, k = j + 1 := ⟨k - 1, by omega⟩
  unfold clepsydraref17_Days.f
  by_cases c1 : m < 1
  · rw [if_pos c1, if_neg (by omega), clepsydraref17_Days.j0, if_pos rfl]
  · rw [if_neg c1]
    by_cases c2 : m > 12
    · rw [decide_eq_true c2, if_neg (by omega), clepsydraref17_Days.j0, if_pos rfl]
    · rw [decide_eq_false c2, if_pos (by omega), clepsydraref17_Days.j0, if_neg (by simp), rleap_eq]
      rcases m12 (m := m) (by omega) (by omega) with rfl | rfl | rfl | rfl | rfl | rfl | rfl | rfl | rfl | rfl | rfl | rfl <;> unfold dyv <;> cases lp y <;> rfl

/-- The pure statement of the law. -/
def Pure : Prop := ∀ (a0 : Int) (a1 : Int), (Lit.int .i64 a0).wf = true → (Lit.int .i64 a1).wf = true → ∃ k, clepsydralaw17_CivilMonths.f k a0 a1 = some true

theorem CivilMonths : Pure := by
  intro y m _ hm
  have hm := wb hm
  refine ⟨20, ?_⟩
  unfold clepsydralaw17_CivilMonths.f
  rw [leap_eq, Option.bind_some, if_pos (by decide), leap_eq, Option.bind_some, if_neg (by decide), days_eq _ _ (by omega) (by omega), Option.bind_some]
  rw [show ((if (1 : Int) ≤ 2 ∧ (2 : Int) ≤ 12 then dyv 2023 2 else 0) != 28) = false from by decide]
  rw [clepsydralaw17_CivilMonths.j0, if_neg (by simp), leap_eq, Option.bind_some, rleap_eq, Option.bind_some, if_pos (by simp), days_eq y m hm (by omega), Option.bind_some, rdays_eq y m (by omega), Option.bind_some]
  simp

end Go.Proofs.YtidoeplhgckmaaaDoor.VCivilMonths
