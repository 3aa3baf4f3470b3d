/- Step and Off answer what the reference answers, for all numbers. -/
import Derived.Test.YtopnmlambbimpaaQx5
import Derived.OpenShut
set_option linter.unusedVariables false
set_option linter.unusedSimpArgs false
namespace Go.Proofs.Ytopnmlambbimpaa.VSlewSteps
open Go.RowKit Go.Proofs.Ytopnmlambbimpaa.Q Go.Proofs.YtopnmlambbimpaaW.PrintWords Go.Proofs.YtopnmlambbimpaaW.PrintLast Go.Proofs.YtopnmlambbimpaaW.PrintMore

theorem wb {n : Int} (h : (Lit.int .i64 n).wf = true) : -9223372036854775808 ≤ n ∧ n ≤ 9223372036854775807 := Go.bounds_i64 h
theorem w64 {n : Int} (h1 : -9223372036854775808 ≤ n) (h2 : n ≤ 9223372036854775807) : wrap64 n = n := by unfold wrap64; omega
def clp (x : Int) : Int := if x < -2305843009213693952 then -2305843009213693952 else if 2305843009213693952 < x then 2305843009213693952 else x
theorem clp_b (x : Int) : -2305843009213693952 ≤ clp x ∧ clp x ≤ 2305843009213693952 := by unfold clp; split <;> (try split) <;> omega
theorem clp_id {x : Int} (h1 : -2305843009213693952 ≤ x) (h2 : x ≤ 2305843009213693952) : clp x = x := by unfold clp; rw [if_neg (by omega), if_neg (by omega)]
theorem clp_neg (x : Int) : clp (-x) = -clp x := by unfold clp; split <;> (try split) <;> (try split) <;> (try split) <;> omega
def bnd (x lo hi : Int) : Int := if x < lo ∨ hi < lo then lo else if hi < x then hi else x
def addL (l : List Int) : Int := l.foldl (fun n x => clp (n + clp x)) 0
def sub (a b : Int) : Int := clp (clp a - clp b)
def absC (a : Int) : Int := if a < 0 then -clp a else clp a
theorem absC_b (x : Int) : 0 ≤ absC x ∧ absC x ≤ 2305843009213693952 := by have := clp_b x; unfold absC; unfold clp at *; split <;> omega
theorem add2 (a b : Int) : addL [a, b] = clp (clp a + clp b) := by
  have h := clp_b a
  simp only [addL, List.foldl_cons, List.foldl_nil, Int.zero_add]
  rw [clp_id h.1 h.2]
theorem add3 (a b c : Int) : addL [a, b, c] = clp (clp (clp a + clp b) + clp c) := by
  have h := clp_b a
  simp only [addL, List.foldl_cons, List.foldl_nil, Int.zero_add]
  rw [clp_id h.1 h.2]
theorem rd_drop {l : List Int} {i : Int} (h0 : 0 ≤ i) (h1 : i < (l.length : Int)) : l.drop i.toNat = rd l i :: l.drop (i + 1).toNat := by
  have h : i.toNat < l.length := by omega
  rw [List.drop_eq_getElem_cons h, show (i + 1).toNat = i.toNat + 1 from by omega]
  congr 1
  simp [rd, List.getD_eq_getElem?_getD, List.getElem?_eq_getElem h]
def mulC (a b : Int) : Int := clp (clp a * clp b)
theorem mulC_b (a b : Int) : -2305843009213693952 ≤ mulC a b ∧ mulC a b ≤ 2305843009213693952 := clp_b _
theorem sub_b (a b : Int) : -2305843009213693952 ≤ sub a b ∧ sub a b ≤ 2305843009213693952 := clp_b _
theorem addL_b (l : List Int) : -2305843009213693952 ≤ addL l ∧ addL l ≤ 2305843009213693952 := by
  unfold addL
  suffices h : ∀ (l : List Int) (n : Int), -2305843009213693952 ≤ n → n ≤ 2305843009213693952 → -2305843009213693952 ≤ l.foldl (fun n x => clp (n + clp x)) n ∧ l.foldl (fun n x => clp (n + clp x)) n ≤ 2305843009213693952 from h l 0 (by omega) (by omega)
  intro l
  induction l with
  | nil => intro n h1 h2; exact ⟨h1, h2⟩
  | cons x l ih => intro n _ _; exact ih _ (clp_b _).1 (clp_b _).2

theorem clp_le {x y : Int} (h : x ≤ y) (h2 : -2305843009213693952 ≤ y) : clp x ≤ y := by unfold clp; repeat' split
                                                                                         all_goals omega
theorem le_clp {x y : Int} (h : y ≤ x) (h2 : y ≤ 2305843009213693952) : y ≤ clp x := by unfold clp; repeat' split
                                                                                        all_goals omega
theorem clp_mono {x y : Int} (h : x ≤ y) : clp x ≤ clp y := by unfold clp; repeat' split
                                                               all_goals omega
theorem sub_small {a b : Int} (h1 : -2305843009213693952 ≤ a) (h2 : a ≤ 2305843009213693952) (h3 : -2305843009213693952 ≤ b) (h4 : b ≤ 2305843009213693952) (h5 : -2305843009213693952 ≤ a - b) (h6 : a - b ≤ 2305843009213693952) : sub a b = a - b := by
  unfold sub; rw [clp_id h1 h2, clp_id h3 h4, clp_id h5 h6]
theorem add2_small {a b : Int} (h1 : -2305843009213693952 ≤ a) (h2 : a ≤ 2305843009213693952) (h3 : -2305843009213693952 ≤ b) (h4 : b ≤ 2305843009213693952) (h5 : -2305843009213693952 ≤ a + b) (h6 : a + b ≤ 2305843009213693952) : addL [a, b] = a + b := by
  rw [add2, clp_id h1 h2, clp_id h3 h4, clp_id h5 h6]
theorem add3_small {a b c : Int} (h1 : -2305843009213693952 ≤ a) (h2 : a ≤ 2305843009213693952) (h3 : -2305843009213693952 ≤ b) (h4 : b ≤ 2305843009213693952) (h5 : -2305843009213693952 ≤ c) (h6 : c ≤ 2305843009213693952) (h7 : -2305843009213693952 ≤ a + b) (h8 : a + b ≤ 2305843009213693952) (h9 : -2305843009213693952 ≤ a + b + c) (h10 : a + b + c ≤ 2305843009213693952) : addL [a, b, c] = a + b + c := by
  rw [add3, clp_id h1 h2, clp_id h3 h4, clp_id h7 h8, clp_id h5 h6, clp_id h9 h10]

theorem bound_eq {k : Nat} (x lo hi : Int) (hk : 0 < k) : sat_Bound.f k x lo hi = some (bnd x lo hi) := by
  obtain ⟨k, rfl⟩ : ∃ m, k = m + 1 := ⟨k - 1, by omega⟩
  unfold sat_Bound.f bnd
  simp only [sat_Bound.j0]
  by_cases h1 : x < lo
  · simp [h1]
  · by_cases h2 : hi < lo
    · simp [h1, h2]
    · simp only [h1, h2, if_false, false_or, decide_false, if_neg]
      by_cases h3 : hi < x
      · simp [h3]
      · simp [h3]
theorem clip_eq {k : Nat} (x : Int) (hk : 0 < k) : sat_Clip.f k x = some (clp x) := by
  unfold sat_Clip.f
  rw [bound_eq x _ _ hk]
  simp only [Option.bind_some, bnd, clp]
  congr 1
  split <;> split <;> (try split) <;> omega

theorem neg_eq {k : Nat} (x : Int) (hk : 0 < k) : sat_Neg.f k x = some (-clp x) := by
  have h := clp_b x
  unfold sat_Neg.f
  rw [clip_eq x hk, Option.bind_some, w64 (by omega) (by omega)]

theorem add_l0 (l : List Int) (hl : l.length ≤ 4611686018427387904) (d : Nat) : ∀ (k : Nat) (n i : Int), -2305843009213693952 ≤ n → n ≤ 2305843009213693952 → 0 ≤ i → i ≤ l.length → (l.length : Int) - i = d → d + 1 < k →
    sat_Add.l0 k n l (l.length : Int) i = some ((l.drop i.toNat).foldl (fun n x => clp (n + clp x)) n) := by
  induction d with
  | zero =>
    intro k n i _ _ h0 h1 hd hk
    obtain ⟨k, rfl⟩ : ∃ m, k = m + 1 := ⟨k - 1, by omega⟩
    simp only [sat_Add.l0]
    rw [if_neg (by omega), List.drop_eq_nil_of_le (by omega)]
    rfl
  | succ d ih =>
    intro k n i n1 n2 h0 h1 hd hk
    obtain ⟨k, rfl⟩ : ∃ m, k = m + 1 := ⟨k - 1, by omega⟩
    have hlt : i < (l.length : Int) := by omega
    have hc := clp_b (rd l i)
    have hs := clp_b (n + clp (rd l i))
    simp only [sat_Add.l0]
    rw [if_pos hlt, if_pos h0, if_pos hlt, clip_eq _ (by omega), Option.bind_some, w64 (n := n + clp (rd l i)) (by omega) (by omega), clip_eq _ (by omega), Option.bind_some, w64 (n := i + 1) (by omega) (by omega)]
    rw [ih k _ (i + 1) hs.1 hs.2 (by omega) (by omega) (by omega) (by omega), rd_drop h0 hlt]
    rfl
theorem add_eq {k : Nat} (l : List Int) (hl : l.length ≤ 4611686018427387904) (hk : l.length + 1 < k) : sat_Add.f k l = some (addL l) := by
  unfold sat_Add.f
  rw [add_l0 l hl l.length k 0 0 (by omega) (by omega) (by omega) (by omega) (by omega) hk]
  rfl

theorem sub_eq {k : Nat} (a b : Int) (hk : 0 < k) : sat_Sub.f k a b = some (sub a b) := by
  have h := clp_b a
  have h' := clp_b b
  unfold sat_Sub.f sub
  rw [clip_eq a hk, Option.bind_some, clip_eq b hk, Option.bind_some, w64 (by omega) (by omega), clip_eq _ hk, Option.bind_some]

theorem abs_eq {k : Nat} (x : Int) (hk : 0 < k) : sat_Abs.f k x = some (absC x) := by
  unfold sat_Abs.f absC
  split
  · rw [neg_eq x hk]; rfl
  · rw [clip_eq x hk]; rfl

def stepV (time ticks dst mu : Int) : Int := addL [addL [time, ticks], bnd (sub dst (addL [time, ticks])) (-clp mu) mu]
theorem step_eq {k : Nat} (time : Int) (set : Bool) (p0 p1 p2 p3 p4 p5 p6 p7 mu p9 p10 p11 ticks dst : Int) (jump : Bool) (hk : 10 < k) :
    slew_Clock_Step.f k time set p0 p1 p2 p3 p4 p5 p6 p7 mu p9 p10 p11 ticks dst jump = some (if jump || !set then clp dst else stepV time ticks dst mu, true) := by
  obtain ⟨k, rfl⟩ : ∃ m, k = m + 1 := ⟨k - 1, by omega⟩
  have j0 : ∀ b : Bool, slew_Clock_Step.j0 (k + 1) ticks dst b time set p0 p1 p2 p3 p4 p5 p6 p7 mu p9 p10 p11 = some (if b then clp dst else stepV time ticks dst mu, true) := by
    intro b
    simp only [slew_Clock_Step.j0]
    cases b
    · rw [if_neg (by simp), add_eq [_, _] (by simp) (by simp; omega), Option.bind_some, sub_eq _ _ (by omega), Option.bind_some, neg_eq _ (by omega), Option.bind_some, bound_eq _ _ _ (by omega), Option.bind_some, add_eq [_, _] (by simp) (by simp; omega), Option.bind_some]
      simp [stepV]
    · rw [if_pos rfl, clip_eq _ (by omega), Option.bind_some]
      simp
  unfold slew_Clock_Step.f
  cases jump
  · rw [if_neg (by simp), j0]; simp
  · rw [if_pos rfl, j0]; simp
theorem off_eq {k : Nat} (time : Int) (set : Bool) (t : Int) (hk : 0 < k) : slew_Clock_Off.f k time set t = some (absC (sub time t)) := by
  unfold slew_Clock_Off.f
  rw [sub_eq _ _ hk, Option.bind_some, abs_eq _ hk, Option.bind_some]
theorem salive_eq {k : Nat} (hk : 10 < k) : clepsydralaw12_alive.f k = some true := by
  unfold clepsydralaw12_alive.f
  rw [step_eq _ _ _ _ _ _ _ _ _ _ _ _ _ _ _ _ _ hk, Option.bind_some, if_pos (by decide), off_eq _ _ _ (by omega), Option.bind_some]
  decide
def near (d mu : Int) : Int := if d < -mu then -mu else if mu < d then mu else d
theorem near_b {d mu : Int} (h : 0 ≤ mu) : -mu ≤ near d mu ∧ near d mu ≤ mu ∧ (0 ≤ d → 0 ≤ near d mu ∧ near d mu ≤ d) ∧ (d ≤ 0 → d ≤ near d mu ∧ near d mu ≤ 0) := by
  unfold near; split <;> (try split) <;> omega
theorem stepV_small {time ticks dst mu : Int} (m0 : 0 ≤ mu) (m1 : mu ≤ 2305843009213693952) (h1 : -576460752303423488 ≤ time) (h2 : time ≤ 576460752303423488) (h3 : -576460752303423488 ≤ ticks) (h4 : ticks ≤ 576460752303423488) (h5 : -576460752303423488 ≤ dst) (h6 : dst ≤ 576460752303423488) :
    stepV time ticks dst mu = time + ticks + near (dst - (time + ticks)) mu := by
  unfold stepV
  rw [add2_small (a := time) (b := ticks) (by omega) (by omega) (by omega) (by omega) (by omega) (by omega), sub_small (by omega) (by omega) (by omega) (by omega) (by omega) (by omega), clp_id (by omega) m1]
  have e : bnd (dst - (time + ticks)) (-mu) mu = near (dst - (time + ticks)) mu := by
    unfold bnd near
    by_cases h : dst - (time + ticks) < -mu
    · rw [if_pos (Or.inl h), if_pos h]
    · rw [if_neg (by omega), if_neg h]
  have b := near_b (d := dst - (time + ticks)) m0
  rw [e, add2_small (by omega) (by omega) (by omega) (by omega) (by omega) (by omega)]
theorem absC_small {x : Int} (h1 : -2305843009213693952 ≤ x) (h2 : x ≤ 2305843009213693952) : absC x = if x < 0 then -x else x := by
  unfold absC; rw [clp_id h1 h2]

theorem rclip_eq (x : Int) : clepsydraref01_Clip.f x = some (clp x) := by
  unfold clepsydraref01_Clip.f clp
  by_cases h1 : x > 2305843009213693952
  · rw [if_pos h1, if_neg (by omega), if_pos (by omega)]
  · rw [if_neg h1]
    by_cases h2 : x < -2305843009213693952
    · rw [if_pos h2, if_pos h2]
    · rw [if_neg h2, if_neg h2, if_neg (by omega)]

theorem radd_l0 (l : List Int) (hl : l.length ≤ 4611686018427387904) (d : Nat) : ∀ (k : Nat) (n i : Int), -2305843009213693952 ≤ n → n ≤ 2305843009213693952 → 0 ≤ i → i ≤ l.length → (l.length : Int) - i = d → d < k →
    clepsydraref01_Add.l0 k n l (l.length : Int) i = some ((l.drop i.toNat).foldl (fun n x => clp (n + clp x)) n) := by
  induction d with
  | zero =>
    intro k n i _ _ h0 h1 hd hk
    obtain ⟨k, rfl⟩ : ∃ m, k = m + 1 := ⟨k - 1, by omega⟩
    simp only [clepsydraref01_Add.l0]
    rw [if_neg (by omega), List.drop_eq_nil_of_le (by omega)]
    rfl
  | succ d ih =>
    intro k n i n1 n2 h0 h1 hd hk
    obtain ⟨k, rfl⟩ : ∃ m, k = m + 1 := ⟨k - 1, by omega⟩
    have hlt : i < (l.length : Int) := by omega
    have hc := clp_b (rd l i)
    have hs := clp_b (n + clp (rd l i))
    simp only [clepsydraref01_Add.l0]
    rw [if_pos hlt, if_pos h0, if_pos hlt, rclip_eq _, Option.bind_some, w64 (n := n + clp (rd l i)) (by omega) (by omega), rclip_eq _, Option.bind_some, w64 (n := i + 1) (by omega) (by omega)]
    rw [ih k _ (i + 1) hs.1 hs.2 (by omega) (by omega) (by omega) (by omega), rd_drop h0 hlt]
    rfl
theorem radd_eq {k : Nat} (l : List Int) (hl : l.length ≤ 4611686018427387904) (hk : l.length + 1 < k) : clepsydraref01_Add.f k l = some (addL l) := by
  unfold clepsydraref01_Add.f
  rw [radd_l0 l hl l.length k 0 0 (by omega) (by omega) (by omega) (by omega) (by omega) (by omega)]
  rfl

theorem rsub_eq (a b : Int) : clepsydraref01_Sub.f a b = some (sub a b) := by
  have h := clp_b a
  have h' := clp_b b
  unfold clepsydraref01_Sub.f sub
  rw [rclip_eq a, Option.bind_some, rclip_eq b, Option.bind_some, w64 (by omega) (by omega), rclip_eq _, Option.bind_some]

theorem rbound_eq {k : Nat} (x lo hi : Int) (hk : 0 < k) : clepsydraref01_Bound.f k x lo hi = some (bnd x lo hi) := by
  obtain ⟨k, rfl⟩ : ∃ m, k = m + 1 := ⟨k - 1, by omega⟩
  unfold clepsydraref01_Bound.f bnd
  simp only [clepsydraref01_Bound.j0]
  by_cases h1 : hi < lo
  · simp [h1]
  · by_cases h2 : x < lo
    · simp [h1, h2]
    · simp only [h1, h2, if_false, or_false, decide_false, if_neg]
      by_cases h3 : hi < x
      · simp [h3]
      · simp [h3]

/-- The pure statement of the law. -/
def Pure : Prop := ∀ (a0_0 : Int) (a0_1 : Int) (a0_2 : Int) (a0_3 : Int) (a0_4 : Int) (a0_5 : Int) (a0_6 : Int) (a0_7 : Int) (a0_8 : Int) (a0_9 : Int) (a0_10 : Int) (a0_11 : Int) (a1_0 : Int) (a1_1 : Bool) (a2 : Int) (a3 : Int) (a4 : Bool), (Lit.int .i64 a0_0).wf = true → (Lit.int .i64 a0_1).wf = true → (Lit.int .i64 a0_2).wf = true → (Lit.int .i64 a0_3).wf = true → (Lit.int .i64 a0_4).wf = true → (Lit.int .i64 a0_5).wf = true → (Lit.int .i64 a0_6).wf = true → (Lit.int .i64 a0_7).wf = true → (Lit.int .i64 a0_8).wf = true → (Lit.int .i64 a0_9).wf = true → (Lit.int .i64 a0_10).wf = true → (Lit.int .i64 a0_11).wf = true → (Lit.int .i64 a1_0).wf = true → (Lit.int .i64 a2).wf = true → (Lit.int .i64 a3).wf = true → ∃ k, clepsydralaw12_SlewSteps.f k a0_0 a0_1 a0_2 a0_3 a0_4 a0_5 a0_6 a0_7 a0_8 a0_9 a0_10 a0_11 a1_0 a1_1 a2 a3 a4 = some true

theorem rstep_eq {k : Nat} (p0 p1 p2 p3 p4 p5 p6 p7 mu p9 p10 p11 time ticks dst : Int) (hk : 10 < k) :
    clepsydraref12_Step.f k p0 p1 p2 p3 p4 p5 p6 p7 mu p9 p10 p11 time ticks dst = some (stepV time ticks dst mu) := by
  have hc := clp_b mu
  unfold clepsydraref12_Step.f
  rw [radd_eq [_, _] (by simp) (by simp; omega), Option.bind_some, rsub_eq, Option.bind_some, rclip_eq, Option.bind_some, w64 (by omega) (by omega), rbound_eq _ _ _ (by omega), Option.bind_some, radd_eq [_, _] (by simp) (by simp; omega), Option.bind_some]
  rfl
theorem SlewSteps : Pure := by
  intro p0 p1 p2 p3 p4 p5 p6 p7 mu p9 p10 p11 time set ticks dst jump
  intros
  refine ⟨30, ?_⟩
  have hs := sub_b time dst
  have ha := absC_small hs.1 hs.2
  have j1 : ∀ x, x = (if jump || !set then clp dst else stepV time ticks dst mu) → clepsydralaw12_SlewSteps.j1 29 ticks dst jump x p0 p1 p2 p3 p4 p5 p6 p7 mu p9 p10 p11 time set = some true := by
    intro x hx
    simp only [clepsydralaw12_SlewSteps.j1]
    rw [rsub_eq, Option.bind_some, step_eq _ _ _ _ _ _ _ _ _ _ _ _ _ _ _ _ _ (by omega), Option.bind_some, if_pos (by simp [hx]), off_eq _ _ _ (by omega), Option.bind_some, w64 (by omega) (by omega)]
    have h0 : absC (sub time dst) ≥ 0 := (absC_b _).1
    by_cases h : absC (sub time dst) = sub time dst
    · rw [if_pos h, Option.bind_some, decide_eq_true h0]
    · rw [if_neg h, Option.bind_some, if_pos (by rw [ha] at h ⊢; split at h <;> simp_all), Option.bind_some, decide_eq_true h0]
  have j0 : ∀ x b, (b = (jump || !set)) → x = stepV time ticks dst mu → clepsydralaw12_SlewSteps.j0 30 ticks dst jump x b p0 p1 p2 p3 p4 p5 p6 p7 mu p9 p10 p11 time set = some true := by
    intro x b hb hx
    simp only [clepsydralaw12_SlewSteps.j0]
    cases b
    · rw [if_neg (by simp)]; exact j1 x (by rw [← hb, hx]; simp)
    · rw [if_pos rfl, rclip_eq, Option.bind_some]; exact j1 _ (by rw [← hb]; simp)
  unfold clepsydralaw12_SlewSteps.f
  rw [salive_eq (by omega), Option.bind_some, if_pos rfl, rstep_eq _ _ _ _ _ _ _ _ _ _ _ _ _ _ _ (by omega), Option.bind_some]
  cases jump
  · rw [if_neg (by simp)]; exact j0 _ _ (by simp) rfl
  · rw [if_pos rfl]; exact j0 _ _ (by simp) rfl

end Go.Proofs.Ytopnmlambbimpaa.VSlewSteps
