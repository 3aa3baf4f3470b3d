/- Meet and Hull answer what the reference answers, for all lists of up to 1024 spans. -/
import Derived.Test.YtopaldkmgaflmaaQx21
import Derived.OpenShut
set_option linter.unusedVariables false
set_option linter.unusedSimpArgs false
namespace Go.Proofs.Ytopaldkmgaflmaa.VSpanMeets
open Go.RowKit Go.Proofs.Ytopaldkmgaflmaa.Q Go.Proofs.YtopaldkmgaflmaaW.PrintWords Go.Proofs.YtopaldkmgaflmaaW.PrintLast Go.Proofs.YtopaldkmgaflmaaW.PrintMore

theorem wb {n : Int} (h : (Lit.int .i64 n).wf = true) : -9223372036854775808 ≤ n ∧ n ≤ 9223372036854775807 := Go.bounds_i64 h
theorem w64 {n : Int} (h1 : -9223372036854775808 ≤ n) (h2 : n ≤ 9223372036854775807) : wrap64 n = n := by unfold wrap64; omega
def clp (x : Int) : Int := if x < -2305843009213693952 then -2305843009213693952 else if 2305843009213693952 < x then 2305843009213693952 else x
theorem clp_b (x : Int) : -2305843009213693952 ≤ clp x ∧ clp x ≤ 2305843009213693952 := by unfold clp; split <;> (try split) <;> omega
theorem clp_id {x : Int} (h1 : -2305843009213693952 ≤ x) (h2 : x ≤ 2305843009213693952) : clp x = x := by unfold clp; rw [if_neg (by omega), if_neg (by omega)]
theorem clp_neg (x : Int) : clp (-x) = -clp x := by unfold clp; split <;> (try split) <;> (try split) <;> (try split) <;> omega
def bnd (x lo hi : Int) : Int := if x < lo ∨ hi < lo then lo else if hi < x then hi else x
def addL (l : List Int) : Int := l.foldl (fun n x => clp (n + clp x)) 0
def sub (a b : Int) : Int := clp (clp a - clp b)
def absC (a : Int) : Int := if a < 0 then -clp a else clp a
theorem absC_b (x : Int) : 0 ≤ absC x ∧ absC x ≤ 2305843009213693952 := by have := clp_b x; unfold absC; unfold clp at *; split <;> omega
theorem add2 (a b : Int) : addL [a, b] = clp (clp a + clp b) := by
  have h := clp_b a
  simp only [addL, List.foldl_cons, List.foldl_nil, Int.zero_add]
  rw [clp_id h.1 h.2]
theorem add3 (a b c : Int) : addL [a, b, c] = clp (clp (clp a + clp b) + clp c) := by
  have h := clp_b a
  simp only [addL, List.foldl_cons, List.foldl_nil, Int.zero_add]
  rw [clp_id h.1 h.2]
theorem rd_drop {l : List Int} {i : Int} (h0 : 0 ≤ i) (h1 : i < (l.length : Int)) : l.drop i.toNat = rd l i :: l.drop (i + 1).toNat := by
  have h : i.toNat < l.length := by omega
  rw [List.drop_eq_getElem_cons h, show (i + 1).toNat = i.toNat + 1 from by omega]
  congr 1
  simp [rd, List.getD_eq_getElem?_getD, List.getElem?_eq_getElem h]
def mulC (a b : Int) : Int := clp (clp a * clp b)
theorem mulC_b (a b : Int) : -2305843009213693952 ≤ mulC a b ∧ mulC a b ≤ 2305843009213693952 := clp_b _
theorem sub_b (a b : Int) : -2305843009213693952 ≤ sub a b ∧ sub a b ≤ 2305843009213693952 := clp_b _
theorem addL_b (l : List Int) : -2305843009213693952 ≤ addL l ∧ addL l ≤ 2305843009213693952 := by
  unfold addL
  suffices h : ∀ (l : List Int) (n : Int), -2305843009213693952 ≤ n → n ≤ 2305843009213693952 → -2305843009213693952 ≤ l.foldl (fun n x => clp (n + clp x)) n ∧ l.foldl (fun n x => clp (n + clp x)) n ≤ 2305843009213693952 from h l 0 (by omega) (by omega)
  intro l
  induction l with
  | nil => intro n h1 h2; exact ⟨h1, h2⟩
  | cons x l ih => intro n _ _; exact ih _ (clp_b _).1 (clp_b _).2

theorem bound_eq {k : Nat} (x lo hi : Int) (hk : 0 < k) : sat_Bound.f k x lo hi = some (bnd x lo hi) := by
  obtain ⟨k, rfl⟩ : ∃ m, k = m + 1 := ⟨k - 1, by omega⟩
  unfold sat_Bound.f bnd
  simp only [sat_Bound.j0]
  by_cases h1 : x < lo
  · simp [h1]
  · by_cases h2 : hi < lo
    · simp [h1, h2]
    · simp only [h1, h2, if_false, false_or, decide_false, if_neg]
      by_cases h3 : hi < x
      · simp [h3]
      · simp [h3]
theorem clip_eq {k : Nat} (x : Int) (hk : 0 < k) : sat_Clip.f k x = some (clp x) := by
  unfold sat_Clip.f
  rw [bound_eq x _ _ hk]
  simp only [Option.bind_some, bnd, clp]
  congr 1
  split <;> split <;> (try split) <;> omega

theorem rclip_eq (x : Int) : clepsydraref01_Clip.f x = some (clp x) := by
  unfold clepsydraref01_Clip.f clp
  by_cases h1 : x > 2305843009213693952
  · rw [if_pos h1, if_neg (by omega), if_pos (by omega)]
  · rw [if_neg h1]
    by_cases h2 : x < -2305843009213693952
    · rw [if_pos h2, if_pos h2]
    · rw [if_neg h2, if_neg h2, if_neg (by omega)]

theorem of_eq {k : Nat} (a b : Int) (hk : 0 < k) : span_Of.f k a b = some (clp a, clp b) := by
  unfold span_Of.f
  rw [clip_eq a hk, Option.bind_some, clip_eq b hk, Option.bind_some]

theorem g_foldr (l : List S38) : ∀ p, l.foldl span_Meet.g p = (l.foldl (fun n s => mx n s.f0) p.1, l.foldl (fun n s => mn n s.f1) p.2) := by
  induction l with
  | nil => intro p; rfl
  | cons s l ih => intro p; simp only [List.foldl_cons]; rw [ih]; rfl
def meetLo (l : List S38) : Int := l.foldl (fun n s => mx n s.f0) (-2305843009213693952)
def meetHi (l : List S38) : Int := l.foldl (fun n s => mn n s.f1) 2305843009213693952
theorem meet_eq {k : Nat} (l : List S38) (hk : 0 < k) : span_Meet.f k l = some (clp (meetLo l), clp (meetHi l)) := by
  unfold span_Meet.f
  rw [g_foldr, of_eq _ _ hk]
  rfl

theorem alive_eq {k : Nat} (hk : 0 < k) : clepsydralaw03_alive.f k = some true := by
  unfold clepsydralaw03_alive.f
  rw [meet_eq _ hk, Option.bind_some]
  rw [show meetLo [(⟨1, 5⟩ : S38), ⟨4, 9⟩] = 4 from rfl, show meetHi [(⟨1, 5⟩ : S38), ⟨4, 9⟩] = 5 from rfl]
  rfl

theorem rof_eq (a b : Int) : clepsydraref03_Of.f a b = some (clp a, clp b) := by
  unfold clepsydraref03_Of.f
  rw [rclip_eq, Option.bind_some, rclip_eq, Option.bind_some]
theorem rdT_drop {l : List S38} {i : Int} (h0 : 0 ≤ i) (h1 : i < (l.length : Int)) : l.drop i.toNat = rd_T38 l i :: l.drop (i + 1).toNat := by
  have h : i.toNat < l.length := by omega
  rw [List.drop_eq_getElem_cons h, show (i + 1).toNat = i.toNat + 1 from by omega]
  congr 1
  simp [rd_T38, List.getD_eq_getElem?_getD, List.getElem?_eq_getElem h]
theorem rmeet_l0 (l : List S38) (hl : l.length ≤ 4611686018427387904) (d : Nat) : ∀ (k : Nat) (lo hi i : Int), 0 ≤ i → i ≤ l.length → (l.length : Int) - i = d → d < k →
    clepsydraref03_Meet.l0 k lo hi l (l.length : Int) i = some (clp ((l.drop i.toNat).foldl (fun n s => mx n s.f0) lo), clp ((l.drop i.toNat).foldl (fun n s => mn n s.f1) hi)) := by
  induction d with
  | zero =>
    intro k lo hi i h0 h1 hd hk
    obtain ⟨k, rfl⟩ : ∃ m, k = m + 1 := ⟨k - 1, by omega⟩
    simp only [clepsydraref03_Meet.l0]
    rw [if_neg (by omega), List.drop_eq_nil_of_le (by omega), rof_eq, Option.bind_some]
    rfl
  | succ d ih =>
    intro k lo hi i h0 h1 hd hk
    obtain ⟨k, rfl⟩ : ∃ m, k = m + 1 := ⟨k - 1, by omega⟩
    have hlt : i < (l.length : Int) := by omega
    simp only [clepsydraref03_Meet.l0]
    rw [if_pos hlt, if_pos h0, if_pos hlt, w64 (n := i + 1) (by omega) (by omega), rdT_drop h0 hlt]
    simp only [List.foldl_cons]
    generalize rd_T38 l i = s
    have ih' := fun lo hi => ih k lo hi (i + 1) (by omega) (by omega) (by omega) (by omega)
    by_cases c1 : s.f0 > lo <;> by_cases c2 : s.f1 < hi
    · rw [if_pos c1, if_pos c2, ih', show mx lo s.f0 = s.f0 from if_pos c1, show mn hi s.f1 = s.f1 from if_pos c2]
    · rw [if_pos c1, if_neg c2, ih', show mx lo s.f0 = s.f0 from if_pos c1, show mn hi s.f1 = hi from if_neg c2]
    · rw [if_neg c1, if_pos c2, ih', show mx lo s.f0 = lo from if_neg c1, show mn hi s.f1 = s.f1 from if_pos c2]
    · rw [if_neg c1, if_neg c2, ih', show mx lo s.f0 = lo from if_neg c1, show mn hi s.f1 = hi from if_neg c2]
theorem rmeet_eq {k : Nat} (l : List S38) (hl : l.length ≤ 4611686018427387904) (hk : l.length < k) : clepsydraref03_Meet.f k l = some (clp (meetLo l), clp (meetHi l)) := by
  unfold clepsydraref03_Meet.f
  rw [rmeet_l0 l hl l.length k _ _ 0 (by omega) (by omega) (by omega) hk]
  rfl

/-- The pure statement of the law. -/
def Pure : Prop := ∀ (l0 : List S38), l0.length * 16 ≤ 140737488351232 → (∀ x ∈ l0, (Lit.int .i64 x.f0).wf = true ∧ (Lit.int .i64 x.f1).wf = true) → ∃ k, clepsydralaw03_SpanMeets.f k l0 = some true

theorem rhull_l0 (l : List S38) (hl : l.length ≤ 4611686018427387904) (d : Nat) : ∀ (k : Nat) (lo hi i : Int), 0 ≤ i → i ≤ l.length → (l.length : Int) - i = d → d < k →
    clepsydraref03_Hull.l0 k lo hi l (l.length : Int) i = some (clp ((l.drop i.toNat).foldl span_Hull.g (lo, hi)).1, clp ((l.drop i.toNat).foldl span_Hull.g (lo, hi)).2) := by
  induction d with
  | zero =>
    intro k lo hi i h0 h1 hd hk
    obtain ⟨k, rfl⟩ : ∃ m, k = m + 1 := ⟨k - 1, by omega⟩
    simp only [clepsydraref03_Hull.l0]
    rw [if_neg (by omega), List.drop_eq_nil_of_le (by omega), rof_eq, Option.bind_some]
    rfl
  | succ d ih =>
    intro k lo hi i h0 h1 hd hk
    obtain ⟨k, rfl⟩ : ∃ m, k = m + 1 := ⟨k - 1, by omega⟩
    have hlt : i < (l.length : Int) := by omega
    simp only [clepsydraref03_Hull.l0]
    rw [if_pos hlt, if_pos h0, if_pos hlt, w64 (n := i + 1) (by omega) (by omega), rdT_drop h0 hlt]
    simp only [List.foldl_cons]
    generalize rd_T38 l i = s
    have ih' := fun lo hi => ih k lo hi (i + 1) (by omega) (by omega) (by omega) (by omega)
    by_cases c0 : s.f0 > s.f1
    · rw [if_pos c0, ih', show span_Hull.g (lo, hi) s = (lo, hi) from if_pos c0]
    · rw [if_neg c0, show span_Hull.g (lo, hi) s = (mn lo s.f0, mx hi s.f1) from if_neg c0]
      by_cases c1 : s.f0 < lo <;> by_cases c2 : s.f1 > hi
      · rw [if_pos c1, if_pos c2, ih', show mn lo s.f0 = s.f0 from if_pos c1, show mx hi s.f1 = s.f1 from if_pos c2]
      · rw [if_pos c1, if_neg c2, ih', show mn lo s.f0 = s.f0 from if_pos c1, show mx hi s.f1 = hi from if_neg c2]
      · rw [if_neg c1, if_pos c2, ih', show mn lo s.f0 = lo from if_neg c1, show mx hi s.f1 = s.f1 from if_pos c2]
      · rw [if_neg c1, if_neg c2, ih', show mn lo s.f0 = lo from if_neg c1, show mx hi s.f1 = hi from if_neg c2]
theorem SpanMeets : Pure := by
  intro l hl _
  refine ⟨2000, ?_⟩
  unfold clepsydralaw03_SpanMeets.f
  rw [alive_eq (by omega), Option.bind_some, if_pos rfl]
  by_cases h : (l.length : Int) > 1024
  · rw [if_pos h]
  · rw [if_neg h, meet_eq l (by omega), Option.bind_some, rmeet_eq l (by omega) (by omega), Option.bind_some, if_pos (by simp)]
    unfold span_Hull.f clepsydraref03_Hull.f
    rw [of_eq _ _ (by omega), Option.bind_some, rhull_l0 l (by omega) l.length 2000 _ _ 0 (by omega) (by omega) (by omega) (by omega), Option.bind_some]
    simp

end Go.Proofs.Ytopaldkmgaflmaa.VSpanMeets
