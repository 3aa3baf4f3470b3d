/- Along any chain of things that happen at a node one behind the other, and of messages that are sent and heard, stamps rise; for up to 40 things at 8 nodes, and times below 2^60. -/
import Derived.Test.YtigpigfoahlfjaaQx7
import Derived.OpenShut
set_option linter.unusedVariables false
set_option linter.unusedSimpArgs false
namespace Go.Proofs.Ytigpigfoahlfjaa.VHlcAhead
open Go.RowKit Go.Proofs.Ytigpigfoahlfjaa.Q Go.Proofs.YtigpigfoahlfjaaW.PrintWords Go.Proofs.YtigpigfoahlfjaaW.PrintLast Go.Proofs.YtigpigfoahlfjaaW.PrintMore

theorem wb {n : Int} (h : (Lit.int .i64 n).wf = true) : -9223372036854775808 ≤ n ∧ n ≤ 9223372036854775807 := Go.bounds_i64 h
theorem w64 {n : Int} (h1 : -9223372036854775808 ≤ n) (h2 : n ≤ 9223372036854775807) : wrap64 n = n := by unfold wrap64; omega
def clp (x : Int) : Int := if x < -2305843009213693952 then -2305843009213693952 else if 2305843009213693952 < x then 2305843009213693952 else x
theorem clp_b (x : Int) : -2305843009213693952 ≤ clp x ∧ clp x ≤ 2305843009213693952 := by unfold clp; split <;> (try split) <;> omega
theorem clp_id {x : Int} (h1 : -2305843009213693952 ≤ x) (h2 : x ≤ 2305843009213693952) : clp x = x := by unfold clp; rw [if_neg (by omega), if_neg (by omega)]
theorem clp_neg (x : Int) : clp (-x) = -clp x := by unfold clp; split <;> (try split) <;> (try split) <;> (try split) <;> omega
def bnd (x lo hi : Int) : Int := if x < lo ∨ hi < lo then lo else if hi < x then hi else x
def addL (l : List Int) : Int := l.foldl (fun n x => clp (n + clp x)) 0
def sub (a b : Int) : Int := clp (clp a - clp b)
def absC (a : Int) : Int := if a < 0 then -clp a else clp a
theorem absC_b (x : Int) : 0 ≤ absC x ∧ absC x ≤ 2305843009213693952 := by have := clp_b x; unfold absC; unfold clp at *; split <;> omega
theorem add2 (a b : Int) : addL [a, b] = clp (clp a + clp b) := by
  have h := clp_b a
  simp only [addL, List.foldl_cons, List.foldl_nil, Int.zero_add]
  rw [clp_id h.1 h.2]
theorem add3 (a b c : Int) : addL [a, b, c] = clp (clp (clp a + clp b) + clp c) := by
  have h := clp_b a
  simp only [addL, List.foldl_cons, List.foldl_nil, Int.zero_add]
  rw [clp_id h.1 h.2]
theorem rd_drop {l : List Int} {i : Int} (h0 : 0 ≤ i) (h1 : i < (l.length : Int)) : l.drop i.toNat = rd l i :: l.drop (i + 1).toNat := by
  have h : i.toNat < l.length := by omega
  rw [List.drop_eq_getElem_cons h, show (i + 1).toNat = i.toNat + 1 from by omega]
  congr 1
  simp [rd, List.getD_eq_getElem?_getD, List.getElem?_eq_getElem h]
def mulC (a b : Int) : Int := clp (clp a * clp b)
theorem mulC_b (a b : Int) : -2305843009213693952 ≤ mulC a b ∧ mulC a b ≤ 2305843009213693952 := clp_b _
theorem sub_b (a b : Int) : -2305843009213693952 ≤ sub a b ∧ sub a b ≤ 2305843009213693952 := clp_b _
theorem addL_b (l : List Int) : -2305843009213693952 ≤ addL l ∧ addL l ≤ 2305843009213693952 := by
  unfold addL
  suffices h : ∀ (l : List Int) (n : Int), -2305843009213693952 ≤ n → n ≤ 2305843009213693952 → -2305843009213693952 ≤ l.foldl (fun n x => clp (n + clp x)) n ∧ l.foldl (fun n x => clp (n + clp x)) n ≤ 2305843009213693952 from h l 0 (by omega) (by omega)
  intro l
  induction l with
  | nil => intro n h1 h2; exact ⟨h1, h2⟩
  | cons x l ih => intro n _ _; exact ih _ (clp_b _).1 (clp_b _).2

theorem bound_eq {k : Nat} (x lo hi : Int) (hk : 0 < k) : sat_Bound.f k x lo hi = some (bnd x lo hi) := by
  obtain ⟨k, rfl⟩ : ∃ m, k = m + 1 := ⟨k - 1, by omega⟩
  unfold sat_Bound.f bnd
  simp only [sat_Bound.j0]
  by_cases h1 : x < lo
  · simp [h1]
  · by_cases h2 : hi < lo
    · simp [h1, h2]
    · simp only [h1, h2, if_false, false_or, decide_false, if_neg]
      by_cases h3 : hi < x
      · simp [h3]
      · simp [h3]
theorem clip_eq {k : Nat} (x : Int) (hk : 0 < k) : sat_Clip.f k x = some (clp x) := by
  unfold sat_Clip.f
  rw [bound_eq x _ _ hk]
  simp only [Option.bind_some, bnd, clp]
  congr 1
  split <;> split <;> (try split) <;> omega

def less (a b c d : Int) : Bool := decide (a < c) || (decide (a = c) && decide (b < d))
theorem less_eq (a b c d : Int) : hlc_Less.f a b c d = some (less a b c d) := by
  unfold hlc_Less.f less
  by_cases h : a < c
  · rw [if_pos h, decide_eq_true h]; rfl
  · rw [if_neg h, decide_eq_false h]
    by_cases h2 : a = c
    · rw [if_pos h2, decide_eq_true h2]; simp
    · rw [if_neg h2, decide_eq_false h2]; rfl
theorem later_eq {k : Nat} (a b c d e f : Int) : hlc_later.f (k + 3) [⟨a, b⟩, ⟨c, d⟩, ⟨e, f⟩] = some (if less a b c d = true then (if less c d e f = true then (e, f) else (c, d)) else (if less a b e f = true then (e, f) else (a, b))) := by
  unfold hlc_later.f
  rw [if_pos (by simp), if_pos (by simp), Option.bind_some]
  simp only [hlc_later.l0, List.drop_succ_cons, List.drop_zero]
  have r0 : rd_T36 [(⟨a, b⟩ : S36), ⟨c, d⟩, ⟨e, f⟩] 0 = ⟨a, b⟩ := rfl
  have r1 : rd_T36 [(⟨c, d⟩ : S36), ⟨e, f⟩] 0 = ⟨c, d⟩ := rfl
  have r2 : rd_T36 [(⟨c, d⟩ : S36), ⟨e, f⟩] 1 = ⟨e, f⟩ := rfl
  have w1 : wrap64 (0 + 1) = 1 := by unfold wrap64; omega
  have w2 : wrap64 (1 + 1) = 2 := by unfold wrap64; omega
  simp only [r0, r1, r2, w1, w2, less_eq, Option.bind_some, List.length_cons, List.length_nil]
  rw [if_pos (by omega), if_pos (by omega)]
  have g1 : (0 : Int) < ((0 + 1 + 1 : Nat) : Int) := by omega
  have g2 : (1 : Int) < ((0 + 1 + 1 : Nat) : Int) := by omega
  have g3 : ¬ (2 : Int) < ((0 + 1 + 1 : Nat) : Int) := by omega
  have g4 : (0 : Int) ≤ 1 := by omega
  simp only [if_pos g1, if_pos g2, if_neg g3, if_pos g4]
  cases less a b c d <;> cases less c d e f <;> cases less a b e f <;> rfl

/-- A stamp of the play: its time is within bounds, its number at most the events that were. -/
def hla.ok (i : Nat) (s : HS) : Prop := -1152921504606846976 ≤ s.f0 ∧ s.f0 ≤ 1152921504606846976 ∧ 0 ≤ s.f1 ∧ s.f1 ≤ i
theorem hla.ok_up {i : Nat} {s : HS} (h : hla.ok i s) : hla.ok (i + 1) s := ⟨h.1, h.2.1, h.2.2.1, by have := h.2.2.2; omega⟩
theorem less_t {a b c d : Int} (h : a < c ∨ (a = c ∧ b < d)) : less a b c d = true := by
  unfold less
  rcases h with h | h
  · rw [decide_eq_true h]; rfl
  · rw [decide_eq_true h.1, decide_eq_true h.2]; simp
theorem less_i {a b c d : Int} (h : less a b c d = true) : a < c ∨ (a = c ∧ b < d) := by
  unfold less at h; simpa using h
theorem less_n {a b c d : Int} (h : ¬ less a b c d = true) : ¬ (a < c ∨ (a = c ∧ b < d)) := fun q => h (less_t q)
theorem hnext_eq {k : Nat} {t n : Int} (t1 : -1152921504606846976 ≤ t) (t2 : t ≤ 1152921504606846976) (n1 : -1 ≤ n) (n2 : n ≤ 100) (hk : 10 < k) : hlc_Next.f k t n = some (t, mx n 0 + 1) := by
  unfold hlc_Next.f
  have : -1 ≤ mx n 0 ∧ mx n 0 ≤ 100 := by unfold mx; split <;> omega
  rw [if_neg (by omega), clip_eq _ (by omega), Option.bind_some, clp_id (by omega) (by omega), w64 (by omega) (by omega)]
theorem htick_eq {k : Nat} {t n now : Int} (t1 : -1152921504606846976 ≤ t) (t2 : t ≤ 1152921504606846976) (n1 : 0 ≤ n) (n2 : n ≤ 100) (w1 : -1152921504606846976 ≤ now) (w2 : now ≤ 1152921504606846976) (hk : 10 < k) :
    hlc_Clock_Tick.f k t n now = some (if t < now then (now, 0) else (t, n + 1)) := by
  unfold hlc_Clock_Tick.f
  rw [clip_eq _ (by omega), Option.bind_some, clp_id (by omega) (by omega)]
  by_cases h : t < now
  · rw [if_pos (show now > t from h), if_pos h]
  · rw [if_neg (show ¬ now > t from h), if_neg h, hnext_eq t1 t2 (by omega) n2 hk, Option.bind_some, show mx n 0 = n from by unfold mx; split <;> omega]
theorem hhear_eq {k : Nat} {t n s0 s1 now : Int} (t1 : -1152921504606846976 ≤ t) (t2 : t ≤ 1152921504606846976) (n1 : 0 ≤ n) (n2 : n ≤ 100) (q1 : -1152921504606846976 ≤ s0) (q2 : s0 ≤ 1152921504606846976) (m1 : 0 ≤ s1) (m2 : s1 ≤ 100) (w1 : -1152921504606846976 ≤ now) (w2 : now ≤ 1152921504606846976) (hk : 20 < k) :
    ∃ a b, hlc_Clock_Hear.f k t n now s0 s1 1152921504606846976 = some (a, b, true) ∧ -1152921504606846976 ≤ a ∧ a ≤ 1152921504606846976 ∧ 0 ≤ b ∧ (b ≤ n + 1 ∨ b ≤ s1 + 1) ∧ (t < a ∨ (t = a ∧ n < b)) ∧ (s0 < a ∨ (s0 = a ∧ s1 < b)) := by
  obtain ⟨k, rfl⟩ : ∃ j, k = j + 4 := ⟨k - 4, by omega⟩
  unfold hlc_Clock_Hear.f hlc_Right.f
  rw [if_pos (by omega), if_pos (by omega), if_pos (by omega), decide_eq_true (by omega), Option.bind_some, if_pos rfl, decide_eq_false (by omega), hlc_Clock_Hear.j0, if_neg (by decide), clip_eq _ (by omega), Option.bind_some, clp_id (by omega) (by omega), later_eq, Option.bind_some]
  have mx0 : ∀ x : Int, 0 ≤ x → mx x 0 = x := fun x h => by unfold mx; split <;> omega
  have mx1 : mx (-1) 0 = 0 := by decide
  by_cases c1 : less t n s0 s1 = true
  · have d1 := less_i c1
    rw [if_pos c1]
    by_cases c2 : less s0 s1 now (-1) = true
    · have d2 := less_i c2
      rw [if_pos c2, hnext_eq w1 w2 (by omega) (by omega) (by omega), Option.bind_some, mx1]
      exact ⟨_, _, rfl, w1, w2, by omega, by omega, by omega, by omega⟩
    · have d2 := less_n c2
      rw [if_neg c2, hnext_eq q1 q2 (by omega) (by omega) (by omega), Option.bind_some, mx0 _ m1]
      exact ⟨_, _, rfl, q1, q2, by omega, by omega, by omega, by omega⟩
  · have d1 := less_n c1
    rw [if_neg c1]
    by_cases c2 : less t n now (-1) = true
    · have d2 := less_i c2
      rw [if_pos c2, hnext_eq w1 w2 (by omega) (by omega) (by omega), Option.bind_some, mx1]
      exact ⟨_, _, rfl, w1, w2, by omega, by omega, by omega, by omega⟩
    · have d2 := less_n c2
      rw [if_neg c2, hnext_eq t1 t2 (by omega) (by omega) (by omega), Option.bind_some, mx0 _ n1]
      exact ⟨_, _, rfl, t1, t2, by omega, by omega, by omega, by omega⟩
structure hla.Inv (i : Nat) (cs ss : List HS) (la : List Int) : Prop where
  lc : cs.length = 8
  ls : ss.length = i
  ll : la.length = 8
  okc : ∀ a, a < 8 → hla.ok i (hla.sd cs a)
  oks : ∀ j, j < i → hla.ok i (hla.sd ss j)
  lst : ∀ a, a < 8 → la.getD a 0 < i ∧ (0 ≤ la.getD a 0 → hla.sd ss (la.getD a 0).toNat = hla.sd cs a)
theorem hla.st_ok {k i : Nat} {cs ss : List HS} {la : List Int} (I : hla.Inv i cs ss la) (e : HE) (hi : i ≤ 40) (w1 : -1152921504606846976 ≤ e.f1) (w2 : e.f1 ≤ 1152921504606846976) (hk : 20 < k) :
    ∃ a b, hla.st k (hla.sd cs (hla.at e)) i ss e = some (a, b) ∧ hla.ok (i + 1) ⟨a, b⟩ ∧ ((hla.ahead i la e).all fun j => hla.less (hla.sd ss j.toNat).f0 (hla.sd ss j.toNat).f1 a b) = true := by
  have ha : hla.at e < 8 := by unfold hla.at; omega
  obtain ⟨c1, c2, c3, c4⟩ := I.okc _ ha
  obtain ⟨l1, l2⟩ := I.lst _ ha
  unfold hla.st hla.ahead
  have first : ∀ a b : Int, ((hla.sd cs (hla.at e)).f0 < a ∨ ((hla.sd cs (hla.at e)).f0 = a ∧ (hla.sd cs (hla.at e)).f1 < b)) → ((if 0 ≤ la.getD (hla.at e) 0 then [la.getD (hla.at e) 0] else []).all fun j => hla.less (hla.sd ss j.toNat).f0 (hla.sd ss j.toNat).f1 a b) = true := by
    intro a b h
    by_cases q : 0 ≤ la.getD (hla.at e) 0
    · rw [if_pos q]
      have := l2 q
      simp only [List.all_cons, List.all_nil, Bool.and_true]
      rw [this]
      exact less_t h
    · rw [if_neg q]; rfl
  by_cases h : hla.heard i e = true
  · have h2 := h
    unfold hla.heard at h2
    simp only [Bool.and_eq_true, decide_eq_true_eq] at h2
    obtain ⟨s1, s2, s3, s4⟩ := I.oks e.f2.toNat (by omega)
    rw [if_pos h, if_pos h]
    obtain ⟨a, b, eq, b1, b2, b3, b4, b5, b6⟩ := hhear_eq (k := k) c1 c2 c3 (by omega) s1 s2 s3 (by omega) w1 w2 hk
    rw [eq, Option.bind_some]
    refine ⟨a, b, rfl, ⟨b1, b2, b3, by show b ≤ ((i + 1 : Nat) : Int); omega⟩, ?_⟩
    rw [List.all_append, first a b b5, Bool.true_and]
    simp only [List.all_cons, List.all_nil, Bool.and_true]
    exact less_t b6
  · rw [if_neg h, if_neg h, htick_eq c1 c2 c3 (by omega) w1 w2 (by omega), List.append_nil]
    by_cases q : (hla.sd cs (hla.at e)).f0 < e.f1
    · rw [if_pos q]
      exact ⟨_, _, rfl, ⟨w1, w2, by show (0 : Int) ≤ 0; omega, by show (0 : Int) ≤ ((i + 1 : Nat) : Int); omega⟩, first _ _ (.inl q)⟩
    · rw [if_neg q]
      exact ⟨_, _, rfl, ⟨c1, c2, by show 0 ≤ (hla.sd cs (hla.at e)).f1 + 1; omega, by show (hla.sd cs (hla.at e)).f1 + 1 ≤ ((i + 1 : Nat) : Int); omega⟩, first _ _ (.inr ⟨rfl, by omega⟩)⟩
theorem hla.inv_up {i : Nat} {cs ss : List HS} {la : List Int} (I : hla.Inv i cs ss la) {e : Nat} (he : e < 8) {n : HS} (hn : hla.ok (i + 1) n) : hla.Inv (i + 1) (cs.set e n) (ss ++ [n]) (la.set e i) := by
  have sc : ∀ a, a < 8 → hla.sd (cs.set e n) a = if a = e then n else hla.sd cs a := by
    intro a ha
    unfold hla.sd
    simp only [List.getD_eq_getElem?_getD, List.getElem?_set]
    by_cases q : e = a
    · subst q; rw [if_pos rfl, if_pos (by rw [I.lc]; exact he), if_pos rfl]; rfl
    · rw [if_neg q, if_neg (fun z => q z.symm)]
  have sl : ∀ a, a < 8 → (la.set e (i : Int)).getD a 0 = if a = e then (i : Int) else la.getD a 0 := by
    intro a ha
    simp only [List.getD_eq_getElem?_getD, List.getElem?_set]
    by_cases q : e = a
    · subst q; rw [if_pos rfl, if_pos (by rw [I.ll]; exact he), if_pos rfl]; rfl
    · rw [if_neg q, if_neg (fun z => q z.symm)]
  have s1 : ∀ j, j < i → hla.sd (ss ++ [n]) j = hla.sd ss j := by
    intro j hj
    unfold hla.sd
    simp only [List.getD_eq_getElem?_getD]
    rw [List.getElem?_append_left (by rw [I.ls]; exact hj)]
  have s2 : hla.sd (ss ++ [n]) i = n := by
    unfold hla.sd
    simp only [List.getD_eq_getElem?_getD]
    rw [List.getElem?_append_right (by rw [I.ls]; exact Nat.le_refl _), I.ls, Nat.sub_self]; rfl
  refine ⟨by rw [List.length_set]; exact I.lc, by rw [List.length_append, I.ls]; rfl, by rw [List.length_set]; exact I.ll, fun a ha => ?_, fun j hj => ?_, fun a ha => ?_⟩
  · rw [sc a ha]
    by_cases q : a = e
    · rw [if_pos q]; exact hn
    · rw [if_neg q]; exact hla.ok_up (I.okc a ha)
  · by_cases q : j = i
    · rw [q, s2]; exact hn
    · rw [s1 j (by omega)]; exact hla.ok_up (I.oks j (by omega))
  · rw [sl a ha, sc a ha]
    by_cases q : a = e
    · rw [if_pos q, if_pos q]
      exact ⟨by omega, fun _ => by rw [Int.toNat_natCast]; exact s2⟩
    · rw [if_neg q, if_neg q]
      obtain ⟨x, y⟩ := I.lst a ha
      exact ⟨by omega, fun h => by rw [s1 _ (by omega)]; exact y h⟩
theorem hla.go_true {k : Nat} (hk : 20 < k) : ∀ (es : List HE) (i : Nat) (cs ss : List HS) (la : List Int), hla.Inv i cs ss la → i + es.length ≤ 40 → hla.go k es i cs ss la = some true := by
  intro es
  induction es with
  | nil => intros; rfl
  | cons e es ih =>
    intro i cs ss la I hl
    rw [List.length_cons] at hl
    unfold hla.go
    by_cases q : 1152921504606846976 < e.f1 ∨ e.f1 < -1152921504606846976
    · rw [if_pos q]
    · rw [if_neg q]
      obtain ⟨a, b, e1, e2, e3⟩ := hla.st_ok (k := k) I e (by omega) (by omega) (by omega) hk
      rw [e1, Option.bind_some]
      dsimp only
      rw [if_pos e3]
      exact ih (i + 1) _ _ _ (hla.inv_up I (by unfold hla.at; omega) e2) (by omega)
theorem hla.start {s : Int} (h1 : -1152921504606846976 ≤ s) (h2 : s ≤ 1152921504606846976) : hla.Inv 0 (List.replicate 8 ⟨s, 0⟩) [] (List.replicate 8 (-1)) := by
  refine ⟨rfl, rfl, rfl, fun a ha => ?_, fun j hj => by omega, fun a ha => ?_⟩
  · have : hla.sd (List.replicate 8 (⟨s, 0⟩ : HS)) a = ⟨s, 0⟩ := by
      unfold hla.sd
      rw [List.getD_eq_getElem?_getD, List.getElem?_replicate, if_pos ha]; rfl
    rw [this]
    exact ⟨h1, h2, Int.le_refl _, Int.le_refl _⟩
  · have : (List.replicate 8 (-1 : Int)).getD a 0 = -1 := by
      rw [List.getD_eq_getElem?_getD, List.getElem?_replicate, if_pos ha]; rfl
    rw [this]
    exact ⟨by omega, fun h => by omega⟩

/-- The pure statement of the law. -/
def Pure : Prop := ∀ (l0 : List S51) (a1 : Int), l0.length * 24 ≤ 140737488351232 → (∀ x ∈ l0, (Lit.int .i64 x.f0).wf = true ∧ (Lit.int .i64 x.f1).wf = true ∧ (Lit.int .i64 x.f2).wf = true) → (Lit.int .i64 a1).wf = true → ∃ k, clepsydralaw20_HlcAhead.f k l0 a1 = some true

theorem HlcAhead : Pure := by
  intro l0 a1 hl hw ha
  refine ⟨50, ?_⟩
  unfold clepsydralaw20_HlcAhead.f
  have hal : clepsydralaw20_alive.f 50 = some true := by
    decide +kernel
  rw [hal, Option.bind_some, if_pos rfl]
  by_cases h : 40 < (l0.length : Int) ∨ 1152921504606846976 < a1 ∨ a1 < -1152921504606846976
  · rw [if_pos h]
  · rw [if_neg h]
    exact hla.go_true (by omega) l0 0 _ _ _ (hla.start (by omega) (by omega)) (by omega)

end Go.Proofs.Ytigpigfoahlfjaa.VHlcAhead
