/- A clock's time behind a message is at most the greatest of what it was, of now, and of the message's time or the most that may be, and one more where its number runs out; for stamps that can be, and times below the greatest number. -/
import Derived.Test.YtigpigfoahlfjaaQx27
import Derived.OpenShut
set_option linter.unusedVariables false
set_option linter.unusedSimpArgs false
namespace Go.Proofs.Ytigpigfoahlfjaa.VHlcBounds
open Go.RowKit Go.Proofs.Ytigpigfoahlfjaa.Q Go.Proofs.YtigpigfoahlfjaaW.PrintWords Go.Proofs.YtigpigfoahlfjaaW.PrintLast Go.Proofs.YtigpigfoahlfjaaW.PrintMore

theorem wb {n : Int} (h : (Lit.int .i64 n).wf = true) : -9223372036854775808 ≤ n ∧ n ≤ 9223372036854775807 := Go.bounds_i64 h
theorem w64 {n : Int} (h1 : -9223372036854775808 ≤ n) (h2 : n ≤ 9223372036854775807) : wrap64 n = n := by unfold wrap64; omega
def clp (x : Int) : Int := if x < -2305843009213693952 then -2305843009213693952 else if 2305843009213693952 < x then 2305843009213693952 else x
theorem clp_b (x : Int) : -2305843009213693952 ≤ clp x ∧ clp x ≤ 2305843009213693952 := by unfold clp; split <;> (try split) <;> omega
theorem clp_id {x : Int} (h1 : -2305843009213693952 ≤ x) (h2 : x ≤ 2305843009213693952) : clp x = x := by unfold clp; rw [if_neg (by omega), if_neg (by omega)]
theorem clp_neg (x : Int) : clp (-x) = -clp x := by unfold clp; split <;> (try split) <;> (try split) <;> (try split) <;> omega
def bnd (x lo hi : Int) : Int := if x < lo ∨ hi < lo then lo else if hi < x then hi else x
def addL (l : List Int) : Int := l.foldl (fun n x => clp (n + clp x)) 0
def sub (a b : Int) : Int := clp (clp a - clp b)
def absC (a : Int) : Int := if a < 0 then -clp a else clp a
theorem absC_b (x : Int) : 0 ≤ absC x ∧ absC x ≤ 2305843009213693952 := by have := clp_b x; unfold absC; unfold clp at *; split <;> omega
theorem add2 (a b : Int) : addL [a, b] = clp (clp a + clp b) := by
  have h := clp_b a
  simp only [addL, List.foldl_cons, List.foldl_nil, Int.zero_add]
  rw [clp_id h.1 h.2]
theorem add3 (a b c : Int) : addL [a, b, c] = clp (clp (clp a + clp b) + clp c) := by
  have h := clp_b a
  simp only [addL, List.foldl_cons, List.foldl_nil, Int.zero_add]
  rw [clp_id h.1 h.2]
theorem rd_drop {l : List Int} {i : Int} (h0 : 0 ≤ i) (h1 : i < (l.length : Int)) : l.drop i.toNat = rd l i :: l.drop (i + 1).toNat := by
  have h : i.toNat < l.length := by omega
  rw [List.drop_eq_getElem_cons h, show (i + 1).toNat = i.toNat + 1 from by omega]
  congr 1
  simp [rd, List.getD_eq_getElem?_getD, List.getElem?_eq_getElem h]
def mulC (a b : Int) : Int := clp (clp a * clp b)
theorem mulC_b (a b : Int) : -2305843009213693952 ≤ mulC a b ∧ mulC a b ≤ 2305843009213693952 := clp_b _
theorem sub_b (a b : Int) : -2305843009213693952 ≤ sub a b ∧ sub a b ≤ 2305843009213693952 := clp_b _
theorem addL_b (l : List Int) : -2305843009213693952 ≤ addL l ∧ addL l ≤ 2305843009213693952 := by
  unfold addL
  suffices h : ∀ (l : List Int) (n : Int), -2305843009213693952 ≤ n → n ≤ 2305843009213693952 → -2305843009213693952 ≤ l.foldl (fun n x => clp (n + clp x)) n ∧ l.foldl (fun n x => clp (n + clp x)) n ≤ 2305843009213693952 from h l 0 (by omega) (by omega)
  intro l
  induction l with
  | nil => intro n h1 h2; exact ⟨h1, h2⟩
  | cons x l ih => intro n _ _; exact ih _ (clp_b _).1 (clp_b _).2

theorem clp_le {x y : Int} (h : x ≤ y) (h2 : -2305843009213693952 ≤ y) : clp x ≤ y := by unfold clp; repeat' split
                                                                                         all_goals omega
theorem le_clp {x y : Int} (h : y ≤ x) (h2 : y ≤ 2305843009213693952) : y ≤ clp x := by unfold clp; repeat' split
                                                                                        all_goals omega
theorem clp_mono {x y : Int} (h : x ≤ y) : clp x ≤ clp y := by unfold clp; repeat' split
                                                               all_goals omega
theorem sub_small {a b : Int} (h1 : -2305843009213693952 ≤ a) (h2 : a ≤ 2305843009213693952) (h3 : -2305843009213693952 ≤ b) (h4 : b ≤ 2305843009213693952) (h5 : -2305843009213693952 ≤ a - b) (h6 : a - b ≤ 2305843009213693952) : sub a b = a - b := by
  unfold sub; rw [clp_id h1 h2, clp_id h3 h4, clp_id h5 h6]
theorem add2_small {a b : Int} (h1 : -2305843009213693952 ≤ a) (h2 : a ≤ 2305843009213693952) (h3 : -2305843009213693952 ≤ b) (h4 : b ≤ 2305843009213693952) (h5 : -2305843009213693952 ≤ a + b) (h6 : a + b ≤ 2305843009213693952) : addL [a, b] = a + b := by
  rw [add2, clp_id h1 h2, clp_id h3 h4, clp_id h5 h6]
theorem add3_small {a b c : Int} (h1 : -2305843009213693952 ≤ a) (h2 : a ≤ 2305843009213693952) (h3 : -2305843009213693952 ≤ b) (h4 : b ≤ 2305843009213693952) (h5 : -2305843009213693952 ≤ c) (h6 : c ≤ 2305843009213693952) (h7 : -2305843009213693952 ≤ a + b) (h8 : a + b ≤ 2305843009213693952) (h9 : -2305843009213693952 ≤ a + b + c) (h10 : a + b + c ≤ 2305843009213693952) : addL [a, b, c] = a + b + c := by
  rw [add3, clp_id h1 h2, clp_id h3 h4, clp_id h7 h8, clp_id h5 h6, clp_id h9 h10]

theorem bound_eq {k : Nat} (x lo hi : Int) (hk : 0 < k) : sat_Bound.f k x lo hi = some (bnd x lo hi) := by
  obtain ⟨k, rfl⟩ : ∃ m, k = m + 1 := ⟨k - 1, by omega⟩
  unfold sat_Bound.f bnd
  simp only [sat_Bound.j0]
  by_cases h1 : x < lo
  · simp [h1]
  · by_cases h2 : hi < lo
    · simp [h1, h2]
    · simp only [h1, h2, if_false, false_or, decide_false, if_neg]
      by_cases h3 : hi < x
      · simp [h3]
      · simp [h3]
theorem clip_eq {k : Nat} (x : Int) (hk : 0 < k) : sat_Clip.f k x = some (clp x) := by
  unfold sat_Clip.f
  rw [bound_eq x _ _ hk]
  simp only [Option.bind_some, bnd, clp]
  congr 1
  split <;> split <;> (try split) <;> omega

theorem add_l0 (l : List Int) (hl : l.length ≤ 4611686018427387904) (d : Nat) : ∀ (k : Nat) (n i : Int), -2305843009213693952 ≤ n → n ≤ 2305843009213693952 → 0 ≤ i → i ≤ l.length → (l.length : Int) - i = d → d + 1 < k →
    sat_Add.l0 k n l (l.length : Int) i = some ((l.drop i.toNat).foldl (fun n x => clp (n + clp x)) n) := by
  induction d with
  | zero =>
    intro k n i _ _ h0 h1 hd hk
    obtain ⟨k, rfl⟩ : ∃ m, k = m + 1 := ⟨k - 1, by omega⟩
    simp only [sat_Add.l0]
    rw [if_neg (by omega), List.drop_eq_nil_of_le (by omega)]
    rfl
  | succ d ih =>
    intro k n i n1 n2 h0 h1 hd hk
    obtain ⟨k, rfl⟩ : ∃ m, k = m + 1 := ⟨k - 1, by omega⟩
    have hlt : i < (l.length : Int) := by omega
    have hc := clp_b (rd l i)
    have hs := clp_b (n + clp (rd l i))
    simp only [sat_Add.l0]
    rw [if_pos hlt, if_pos h0, if_pos hlt, clip_eq _ (by omega), Option.bind_some, w64 (n := n + clp (rd l i)) (by omega) (by omega), clip_eq _ (by omega), Option.bind_some, w64 (n := i + 1) (by omega) (by omega)]
    rw [ih k _ (i + 1) hs.1 hs.2 (by omega) (by omega) (by omega) (by omega), rd_drop h0 hlt]
    rfl
theorem add_eq {k : Nat} (l : List Int) (hl : l.length ≤ 4611686018427387904) (hk : l.length + 1 < k) : sat_Add.f k l = some (addL l) := by
  unfold sat_Add.f
  rw [add_l0 l hl l.length k 0 0 (by omega) (by omega) (by omega) (by omega) (by omega) hk]
  rfl

def less (a b c d : Int) : Bool := decide (a < c) || (decide (a = c) && decide (b < d))
theorem less_eq (a b c d : Int) : hlc_Less.f a b c d = some (less a b c d) := by
  unfold hlc_Less.f less
  by_cases h : a < c
  · rw [if_pos h, decide_eq_true h]; rfl
  · rw [if_neg h, decide_eq_false h]
    by_cases h2 : a = c
    · rw [if_pos h2, decide_eq_true h2]; simp
    · rw [if_neg h2, decide_eq_false h2]; rfl
theorem later_eq {k : Nat} (a b c d e f : Int) : hlc_later.f (k + 3) [⟨a, b⟩, ⟨c, d⟩, ⟨e, f⟩] = some (if less a b c d = true then (if less c d e f = true then (e, f) else (c, d)) else (if less a b e f = true then (e, f) else (a, b))) := by
  unfold hlc_later.f
  rw [if_pos (by simp), if_pos (by simp), Option.bind_some]
  simp only [hlc_later.l0, List.drop_succ_cons, List.drop_zero]
  have r0 : rd_T36 [(⟨a, b⟩ : S36), ⟨c, d⟩, ⟨e, f⟩] 0 = ⟨a, b⟩ := rfl
  have r1 : rd_T36 [(⟨c, d⟩ : S36), ⟨e, f⟩] 0 = ⟨c, d⟩ := rfl
  have r2 : rd_T36 [(⟨c, d⟩ : S36), ⟨e, f⟩] 1 = ⟨e, f⟩ := rfl
  have w1 : wrap64 (0 + 1) = 1 := by unfold wrap64; omega
  have w2 : wrap64 (1 + 1) = 2 := by unfold wrap64; omega
  simp only [r0, r1, r2, w1, w2, less_eq, Option.bind_some, List.length_cons, List.length_nil]
  rw [if_pos (by omega), if_pos (by omega)]
  have g1 : (0 : Int) < ((0 + 1 + 1 : Nat) : Int) := by omega
  have g2 : (1 : Int) < ((0 + 1 + 1 : Nat) : Int) := by omega
  have g3 : ¬ (2 : Int) < ((0 + 1 + 1 : Nat) : Int) := by omega
  have g4 : (0 : Int) ≤ 1 := by omega
  simp only [if_pos g1, if_pos g2, if_neg g3, if_pos g4]
  cases less a b c d <;> cases less c d e f <;> cases less a b e f <;> rfl

theorem rclip_eq (x : Int) : clepsydraref01_Clip.f x = some (clp x) := by
  unfold clepsydraref01_Clip.f clp
  by_cases h1 : x > 2305843009213693952
  · rw [if_pos h1, if_neg (by omega), if_pos (by omega)]
  · rw [if_neg h1]
    by_cases h2 : x < -2305843009213693952
    · rw [if_pos h2, if_pos h2]
    · rw [if_neg h2, if_neg h2, if_neg (by omega)]

/-- The pure statement of the law. -/
def Pure : Prop := ∀ (a0_0 : Int) (a0_1 : Int) (a1 : Int) (a2_0 : Int) (a2_1 : Int) (a3 : Int), (Lit.int .i64 a0_0).wf = true → (Lit.int .i64 a0_1).wf = true → (Lit.int .i64 a1).wf = true → (Lit.int .i64 a2_0).wf = true → (Lit.int .i64 a2_1).wf = true → (Lit.int .i64 a3).wf = true → ∃ k, clepsydralaw20_HlcBounds.f k a0_0 a0_1 a1 a2_0 a2_1 a3 = some true

def nextT (t n : Int) : Int := if n ≥ 1073741824 then addL [t, 1] else clp t
theorem next_eq {k : Nat} (t n : Int) (hk : 10 < k) : ∃ m, hlc_Next.f k t n = some (nextT t n, m) := by
  unfold hlc_Next.f nextT
  by_cases h : n ≥ 1073741824
  · rw [if_pos h, if_pos h, add_eq [t, 1] (by simp) (by simp; omega), Option.bind_some]; exact ⟨_, rfl⟩
  · rw [if_neg h, if_neg h, clip_eq _ (by omega), Option.bind_some]; exact ⟨_, rfl⟩
def tickT (t n now : Int) : Int := if clp now > t then clp now else nextT t n
theorem tick_eq {k : Nat} (t n now : Int) (hk : 10 < k) : ∃ m, hlc_Clock_Tick.f k t n now = some (tickT t n now, m) := by
  unfold hlc_Clock_Tick.f tickT
  rw [clip_eq _ (by omega), Option.bind_some]
  by_cases h : clp now > t
  · rw [if_pos h, if_pos h]; exact ⟨_, rfl⟩
  · rw [if_neg h, if_neg h]
    obtain ⟨m, hm⟩ := next_eq (k := k) t n hk
    rw [hm, Option.bind_some]; exact ⟨_, rfl⟩
theorem next_le {t n top : Int} (b : -2305843009213693952 ≤ t ∧ t < 2305843009213693952) (hn : n ≤ 1073741824) (h : t ≤ top) : nextT t n ≤ top + (if n = 1073741824 then 1 else 0) := by
  unfold nextT
  by_cases h1 : n ≥ 1073741824
  · rw [if_pos h1, if_pos (by omega), add2_small (by omega) (by omega) (by omega) (by omega) (by omega) (by omega)]; omega
  · rw [if_neg h1, if_neg (by omega), clp_id (by omega) (by omega)]; omega
theorem bounds_in {c0 c1 now s0 s1 most : Int} (hc : -2305843009213693952 ≤ c0 ∧ c0 < 2305843009213693952) (hn : 0 ≤ c1 ∧ c1 ≤ 1073741824) (h1 : now < 2305843009213693952) (h2 : -2305843009213693952 ≤ now) (h3 : s0 < 2305843009213693952) (bs : -9223372036854775808 ≤ s0) (bm : -9223372036854775808 ≤ most ∧ most ≤ 9223372036854775807) :
    clepsydralaw20_HlcBounds.j0 40 now most false c0 c1 s0 s1 = some true := by
  simp only [clepsydralaw20_HlcBounds.j0, Bool.false_eq_true, if_false]
  unfold clepsydralaw20_clock.f
  rw [Option.bind_some]
  have hnow : clp now = now := clp_id (by omega) (by omega)
  have key : ∃ t m b, hlc_Clock_Hear.f 39 c0 c1 now s0 s1 most = some (t, m, b) ∧ t ≤ mx (mx c0 now) (mn s0 most) + (if c1 = 1073741824 ∨ s1 = 1073741824 then 1 else 0) := by
    have top1 : c0 ≤ mx (mx c0 now) (mn s0 most) := by unfold mx; repeat' split
                                                       all_goals omega
    have top2 : now ≤ mx (mx c0 now) (mn s0 most) := by unfold mx; repeat' split
                                                        all_goals omega
    have top3 : mn s0 most ≤ mx (mx c0 now) (mn s0 most) := by unfold mx; repeat' split
                                                               all_goals omega
    have tick : ∃ t m, hlc_Clock_Tick.f 38 c0 c1 now = some (t, m) ∧ t ≤ mx (mx c0 now) (mn s0 most) + (if c1 = 1073741824 ∨ s1 = 1073741824 then 1 else 0) := by
      obtain ⟨m, hm⟩ := tick_eq (k := 38) c0 c1 now (by omega)
      refine ⟨_, m, hm, ?_⟩
      unfold tickT
      rw [hnow]
      by_cases g : now > c0
      · rw [if_pos g]; split <;> omega
      · rw [if_neg g]
        have := next_le (t := c0) (n := c1) hc hn.2 top1
        by_cases g2 : c1 = 1073741824
        · rw [if_pos g2] at this; rw [if_pos (Or.inl g2)]; exact this
        · rw [if_neg g2] at this; split <;> omega
    have bad : ∃ t m b, hlc_Clock_Hear.j0 39 now true c0 c1 s0 s1 = some (t, m, b) ∧ t ≤ mx (mx c0 now) (mn s0 most) + (if c1 = 1073741824 ∨ s1 = 1073741824 then 1 else 0) := by
      obtain ⟨t, m, e, h⟩ := tick
      refine ⟨t, m, false, ?_, h⟩
      simp only [hlc_Clock_Hear.j0, if_true]
      rw [e, Option.bind_some]
    unfold hlc_Clock_Hear.f hlc_Right.f
    by_cases g1 : s0 ≥ -2305843009213693952
    · by_cases g2 : s0 ≤ 2305843009213693952
      · by_cases g3 : s1 ≥ 0
        · by_cases g4 : s1 ≤ 1073741824
          · rw [if_pos g1, if_pos g2, if_pos g3, decide_eq_true g4, Option.bind_some, if_pos rfl]
            by_cases g5 : s0 > most
            · rw [decide_eq_true g5]; exact bad
            · rw [decide_eq_false g5]
              simp only [hlc_Clock_Hear.j0, Bool.false_eq_true, if_false]
              rw [clip_eq _ (by omega), Option.bind_some, hnow, later_eq (k := 35), Option.bind_some]
              have hs : mn s0 most = s0 := by unfold mn; rw [if_neg (by omega)]
              rw [hs] at top1 top2 top3 ⊢
              have L : ∀ t n : Int, (-2305843009213693952 ≤ t ∧ t < 2305843009213693952) → n ≤ 1073741824 → t ≤ mx (mx c0 now) s0 → (n = 1073741824 → c1 = 1073741824 ∨ s1 = 1073741824) → ∃ t' m b, ((hlc_Next.f 38 t n).bind fun bt378 => some (bt378.1, bt378.2, true)) = some (t', m, b) ∧ t' ≤ mx (mx c0 now) s0 + (if c1 = 1073741824 ∨ s1 = 1073741824 then 1 else 0) := by
                intro t n ht hn' hle himp
                obtain ⟨m, hm⟩ := next_eq (k := 38) t n (by omega)
                refine ⟨_, m, true, by rw [hm, Option.bind_some], ?_⟩
                have := next_le ht hn' hle
                by_cases q : n = 1073741824
                · rw [if_pos q] at this; rw [if_pos (himp q)]; exact this
                · rw [if_neg q] at this; split <;> omega
              have Lc := L c0 c1 hc hn.2 top1 (fun h => Or.inl h)
              have Ls := L s0 s1 ⟨g1, h3⟩ g4 top3 (fun h => Or.inr h)
              have Ln := L now (-1) ⟨h2, h1⟩ (by omega) top2 (fun h => by omega)
              cases less c0 c1 s0 s1 <;> cases less s0 s1 now (-1) <;> cases less c0 c1 now (-1) <;> simp only [if_true, if_false, Bool.false_eq_true] <;> first | exact Lc | exact Ls | exact Ln
          · rw [if_pos g1, if_pos g2, if_pos g3, decide_eq_false g4, Option.bind_some, if_neg (by decide)]; exact bad
        · rw [if_pos g1, if_pos g2, if_neg g3, Option.bind_some, if_neg (by decide)]; exact bad
      · omega
    · rw [if_neg g1, Option.bind_some, if_neg (by decide)]; exact bad
  obtain ⟨t, m, b, e, hle⟩ := key
  rw [e, Option.bind_some]
  have tb : mx (mx c0 now) (mn s0 most) < 2305843009213693952 ∧ -2305843009213693952 ≤ mx (mx c0 now) (mn s0 most) := by
    unfold mx mn
    repeat' split
    all_goals omega
  rw [w64 (by omega) (by omega), w64 (by omega) (by omega)]
  by_cases q1 : c1 = 1073741824
  · rw [if_pos q1, decide_eq_true (by rw [if_pos (Or.inl q1)] at hle; exact hle)]
  · rw [if_neg q1]
    by_cases q2 : s1 = 1073741824
    · rw [if_pos q2, decide_eq_true (by rw [if_pos (Or.inr q2)] at hle; exact hle)]
    · rw [if_neg q2, decide_eq_true (by rw [if_neg (by omega)] at hle; exact hle)]
theorem halive_eq : clepsydralaw20_alive.f 40 = some true := by
  have a1 : hlc_Clock_Hear.f 40 5 0 7 9 3 20 = some (9, 4, true) := by
    unfold hlc_Clock_Hear.f hlc_Right.f
    rw [if_pos (by decide), if_pos (by decide), if_pos (by decide), Option.bind_some, if_pos (by decide), show decide ((9 : Int) > 20) = false from by decide]
    simp only [hlc_Clock_Hear.j0, Bool.false_eq_true, if_false]
    rw [clip_eq _ (by omega), Option.bind_some, show clp 7 = 7 from by decide, later_eq (k := 36), Option.bind_some]
    rw [show less 5 0 9 3 = true from by decide, show less 9 3 7 (-1) = false from by decide]
    simp only [if_true, if_false, Bool.false_eq_true]
    unfold hlc_Next.f
    rw [if_neg (by decide), clip_eq _ (by omega), show mx 3 0 = 3 from by decide, show wrap64 (3 + 1) = 4 from by unfold wrap64; omega]
    decide
  have a2 : hlc_Clock_Tick.f 40 5 0 9 = some (9, 0) := by
    unfold hlc_Clock_Tick.f
    rw [clip_eq _ (by omega)]
    decide
  unfold clepsydralaw20_alive.f clepsydralaw20_clock.f
  rw [Option.bind_some, a1, Option.bind_some, if_pos (by decide), if_pos (by decide), Option.bind_some, a2]
  decide
theorem HlcBounds : Pure := by
  intro c0 c1 now s0 s1 most b0 b1 b2 b3 b4 b5
  have b3 := wb b3
  have b5 := wb b5
  refine ⟨40, ?_⟩
  unfold clepsydralaw20_HlcBounds.f
  rw [halive_eq, Option.bind_some, if_pos rfl]
  have t : clepsydralaw20_HlcBounds.j0 40 now most true c0 c1 s0 s1 = some true := by simp [clepsydralaw20_HlcBounds.j0]
  unfold clepsydraref20_Right.f
  rw [rclip_eq, Option.bind_some]
  by_cases g1 : clp c0 = c0
  · have hb := clp_b c0
    rw [g1] at hb
    by_cases g2 : c1 ≥ 0
    · by_cases g3 : c1 ≤ 1073741824
      · rw [if_pos g1, if_pos g2, decide_eq_true g3, Option.bind_some, if_pos rfl]
        by_cases h1 : c0 = 2305843009213693952
        · rw [if_pos h1, t]
        rw [if_neg h1]
        by_cases h2 : now ≥ 2305843009213693952
        · rw [if_pos h2, t]
        rw [if_neg h2]
        by_cases h3 : now < -2305843009213693952
        · rw [if_pos h3, t]
        rw [if_neg h3]
        by_cases h4 : s0 ≥ 2305843009213693952
        · rw [decide_eq_true h4, t]
        rw [decide_eq_false h4]
        exact bounds_in ⟨hb.1, by omega⟩ ⟨g2, g3⟩ (by omega) (by omega) (by omega) b3.1 b5
      · rw [if_pos g1, if_pos g2, decide_eq_false g3, Option.bind_some, if_neg (by decide), t]
    · rw [if_pos g1, if_neg g2, Option.bind_some, if_neg (by decide), t]
  · rw [if_neg g1, Option.bind_some, if_neg (by decide), t]

end Go.Proofs.Ytigpigfoahlfjaa.VHlcBounds
