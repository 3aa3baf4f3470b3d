/- The calls of these Go functions answer what the Lean functions beside them answer; written by a program (wip/pr2.py, out of the print of the loaded program); under no condition but those that stand in the theorems. -/
import Derived.Test.YtaibmobjpheaiaaDoorQx0
import Derived.Test.YtaibmobjpheaiaaDoorQx2
namespace Go.Proofs.YtaibmobjpheaiaaDoor.Q
open Go.RowKit Go.Proofs.YtaibmobjpheaiaaDoorW.PrintWords Go.Proofs.YtaibmobjpheaiaaDoorW.PrintLast Go.Proofs.YtaibmobjpheaiaaDoorW.PrintMore
attribute [local go_sem] max2_int min2_int max_two min_two max_three min_three max_four min_four   -- for this text's walks alone
set_option linter.unusedVariables false
set_option linter.unusedSimpArgs false

attribute [local go_sem high] eqA40
/-! ### leap_Next: function 19 -/
def leap_Next.p (c : Int) (x : S40) : Bool := decide (c < x.f0)
theorem leap_Next.one (g : Nat) (c : Int) (x0 x1 : Int) (w : World) (hg : w.heap[g]? = some (.cells #[.int .i64 c] 3 (0, 0))) :
    Calls Tryd.prog 34 #[.agg #[.int .i64 x0, .int .i64 x1], .pointer (some ⟨g, 0, none⟩)] w fun e w' => e = .returned (.bool (leap_Next.p c ⟨x0, x1⟩)) ∧ Below w.heap.size w w' := by
  have HB := Aside0.mk (Below.refl w.heap.size w)
  have hlt := blk_lt hg
  have hc0 : w.cell? ⟨g, 0, none⟩ = some (.int .i64 c) := (blk_cell hg 0).trans rfl
  have hc1 : (w.alloc (.cells #[.int .i64 x0, .int .i64 x1] 40)).cell? ⟨g, 0, none⟩ = some (.int .i64 c) := (blk_cell (blk_alloc hg _) 0).trans rfl
  clear hg
  go_enter Tryd.func34, Tryd.ntmps34
  go_wp2
  go_ret
  exact ⟨rfl, by repeat (first | exact HB.out | apply below_alloc | apply pw_below_drewN | apply below_drew1)⟩

def leap_Next.idx (c : Int) : List (S40) → Int → Int
  | [], _ => -1
  | x :: xs, i => if leap_Next.p c x = true then i else leap_Next.idx c xs (i + 1)
theorem leap_Next.dropc (l : List (S40)) (i : Nat) (h : i < l.length) : l.drop i = rd_T40 l (i : Int) :: l.drop (i + 1) := by
  rw [List.drop_eq_getElem_cons h]
  congr 1
  simp [rd_T40, List.getD_eq_getElem?_getD, List.getElem?_eq_getElem h]
set_option maxHeartbeats 8000000 in
set_option maxRecDepth 100000 in
theorem leap_Next.find (g : Nat) (c : Int) (A0 : Option Addr) (c0 : Nat) (l0 : List (S40)) (w : World) (hr0 : Kd.C k40 w A0 l0.length l0) (hc0 : l0.length ≤ c0) (hg : w.heap[g]? = some (.cells #[.int .i64 c] 3 (0, 0))) :
    Calls Tryd.prog 33 #[.slice A0 l0.length c0, .func (.func 34) #[] #[.pointer (some ⟨g, 0, none⟩)]] w fun e w' => e = .returned (.int .i64 (leap_Next.idx c l0 0)) ∧ Below w.heap.size w w' := by
  have hu25 := Tryd.underlying40
  have HR0 := Aside0.mk hr0
  have HC0 := Aside0.mk hc0
  clear hr0 hc0
  have HB := Aside0.mk (Below.refl w.heap.size w)
  have GG := Aside0.mk hg
  clear hg
  obtain ⟨r, HR⟩ : ∃ r, r = leap_Next.idx c l0 0 := ⟨_, rfl⟩
  rw [← HR]
  have NR := Aside0.mk HR
  clear HR
  go_enter Tryd.func33, Tryd.ntmps33
  go_wp2
  go_loopg [8] l0.length (fun kq v8 w' => ∃ (i : Nat), v8 = .int .i64 (i : Int) ∧ Aside0 (i + kq = l0.length ∧ leap_Next.idx c (l0.drop i) (i : Int) = r) ∧ Aside0 (Below w.heap.size w w'))
  case atStart => exact ⟨0, rfl, ⟨by omega, NR.out.symm⟩, ⟨by repeat (first | exact HB.out | apply below_alloc | apply pw_below_drewN | apply below_drew1)⟩⟩
  case round =>
    clear HB
    obtain ⟨i, rfl, HI, HB⟩ := hrel
    have hm : l0.length ≤ 9223372036854775807 := HR0.out.2.1
    by_cases hlt : i < l0.length
    · have hil : (i : Int) < (l0.length : Int) := by omega
      have hxs := HI.out.2
      rw [leap_Next.dropc l0 i hlt] at hxs
      obtain ⟨ad, e1, hx1, hx2⟩ := at_T40 HR0.out (i : Int) (by omega) hil
      cases e1
      replace hx1 := (HB.out.cell (World.block_lt_of_cell? w _ hx1)).trans hx1
      replace hx2 := (HB.out.cell (World.block_lt_of_cell? w _ hx2)).trans hx2
      obtain ⟨s, HS⟩ : ∃ s, s = rd_T40 l0 (i : Int) := ⟨_, rfl⟩
      rw [← HS] at hx1 hx2 hxs
      clear HS
      obtain ⟨x0, x1⟩ := s
      simp only [Int.toNat_natCast] at hx1 hx2
      by_cases hp : leap_Next.p c ⟨x0, x1⟩ = true
      · have e2 : leap_Next.idx c (⟨x0, x1⟩ :: l0.drop (i + 1)) (i : Int) = (i : Int) := if_pos hp
        rw [e2] at hxs
        subst hxs
        go_wp2_with (first | (go_at_call 34; (with_reducible refine (leap_Next.one g c x0 x1 _ (blk_below GG.out HB.out)).mono ?_); rintro e w5 ⟨rfl, hb⟩; have n1_ := Aside0.mk (below_step HB.out hb); clear HB hx1 hx2; have HB := n1_; clear n1_ hb))
        go_ret
        exact ⟨rfl, HB.out⟩
      · have hp : leap_Next.p c ⟨x0, x1⟩ = false := by cases h_ : leap_Next.p c ⟨x0, x1⟩ <;> simp_all
        have e2 : leap_Next.idx c (⟨x0, x1⟩ :: l0.drop (i + 1)) (i : Int) = leap_Next.idx c (l0.drop (i + 1)) ((i : Int) + 1) := if_neg (by rw [hp]; decide)
        rw [e2] at hxs
        have NX := Aside0.mk hxs
        clear hxs
        go_wp2_with (first | (go_at_call 34; (with_reducible refine (leap_Next.one g c x0 x1 _ (blk_below GG.out HB.out)).mono ?_); rintro e w5 ⟨rfl, hb⟩; have n1_ := Aside0.mk (below_step HB.out hb); clear HB hx1 hx2; have HB := n1_; clear n1_ hb))
        go_roundg (gk - 1)
        case measure => have := HI.out.1; omega
        case rel => exact ⟨i + 1, by go_num, ⟨by have := HI.out.1; omega, by rw [← NX.out]; congr 1⟩, ⟨HB.out⟩⟩
    · have hil : i = l0.length := by have := HI.out.1; omega
      have hxs := HI.out.2
      rw [List.drop_eq_nil_of_le (by omega)] at hxs
      have hxs : r = -1 := hxs.symm
      subst hxs
      subst hil
      go_wp2
      go_ret
      exact ⟨rfl, HB.out⟩

theorem leap_Next.idx_b (c : Int) : ∀ (l : List (S40)) (i : Int), 0 ≤ i → leap_Next.idx c l i = -1 ∨ (i ≤ leap_Next.idx c l i ∧ leap_Next.idx c l i < i + (l.length : Int)) := by
  intro l
  induction l with
  | nil => intro i h; exact .inl rfl
  | cons x xs ih =>
    intro i h
    unfold leap_Next.idx
    split
    · right; simp only [List.length_cons]; omega
    · rcases ih (i + 1) (by omega) with h1 | h1
      · exact .inl h1
      · right; simp only [List.length_cons]; omega
def leap_Next.f (l0 : List (S40)) (a1 : Int) : Option (Int × Int × Bool) := some (if leap_Next.idx a1 l0 0 < 0 then (0, 0, false) else ((rd_T40 l0 (leap_Next.idx a1 l0 0)).f0, (rd_T40 l0 (leap_Next.idx a1 l0 0)).f1, true))
set_option maxHeartbeats 8000000 in
set_option maxRecDepth 100000 in
theorem leap_Next.calls (A0 : Option Addr) (c0 : Nat) (l0 : List (S40)) (a1 : Int) (r1 : Int) (r2 : Int) (r3 : Bool) (w : World) (hr0 : Kd.C k40 w A0 l0.length l0) (hc0 : l0.length ≤ c0) (h : leap_Next.f l0 a1 = some (r1, r2, r3)) :
    Calls Tryd.prog 19 #[.slice A0 l0.length c0, .int .i64 a1] w fun e w' => e = .returned (.tuple #[.agg #[.int .i64 r1, .int .i64 r2], .bool r3]) ∧ Below w.heap.size w w' := by
  have hu25 := Tryd.underlying40
  have HR0 := Aside0.mk hr0
  have HC0 := Aside0.mk hc0
  clear hr0 hc0
  have HB := Aside0.mk (Below.refl w.heap.size w)
  unfold leap_Next.f at h
  replace h := Option.some.inj h
  have hib := leap_Next.idx_b a1 l0 0 (by omega)
  obtain ⟨j, HJ⟩ : ∃ j, j = leap_Next.idx a1 l0 0 := ⟨_, rfl⟩
  rw [← HJ] at h hib
  have NJ := Aside0.mk HJ
  clear HJ
  by_cases hj : j < 0
  · rw [if_pos hj] at h
    simp only [Prod.mk.injEq] at h
    obtain ⟨rfl, rfl, rfl⟩ := h
    have hjt : (j < 0) = True := eq_true hj
    have hjd : decide (j < 0) = true := decide_eq_true hj
    clear hj hib
    go_enter Tryd.func19, Tryd.ntmps19
    go_wp2_with (first | ((with_reducible refine gate_dst (N := 3) rfl ?_); refine box_event ?hg (N := 3) ?hd (cs := #[.int .i64 a1]) (t := 3) ?hr ?_; (case hd => rfl); (case hg => rfl); (case hr => first | (go_simp; done) | (go_simp; rfl)); intro gb3 hg w3 hbox hb; have n0_ := Aside0.mk (below_step HB.out hb); have n1_ := Aside0.mk hbox; clear HB; have HB := n0_; have BK3 := n1_; clear n0_ n1_; clear hb hbox hg) | ((with_reducible refine gate_dst (N := 4) rfl ?_); refine box_event ?hg (N := 4) ?hd (cs := #[.int .i64 0, .int .i64 0]) (t := 40) ?hr ?_; (case hd => rfl); (case hg => rfl); (case hr => first | (go_simp; done) | (go_simp; rfl)); intro gb4 hg w4 hbox hb; have n0_ := Aside0.mk (below_step HB.out hb); have n1_ := Aside0.mk hbox; have n2_ := Aside0.mk (blk_below BK3.out hb); have n3_ := Aside0.mk ((by rw [hg]; exact below_size HB.out) : w.heap.size ≤ gb4); have n4_ := Aside0.mk (Kd.C_below HR0.out (below_step HB.out hb)); clear HB BK3; have HB := n0_; have BK4 := n1_; have BK3 := n2_; have GE4 := n3_; have HRN := n4_; clear n0_ n1_ n2_ n3_ n4_; clear hb hbox hg) | (go_at_call 33; (refine (leap_Next.find gb3 a1 _ c0 l0 _ HRN.out HC0.out BK3.out).mono ?_); rintro e w5 ⟨rfl, hb⟩; have n0_ := Aside0.mk (below_step HB.out hb); have n1_ := Aside0.mk (blk_below BK4.out hb); clear HB BK4; have HB := n0_; have BK4 := n1_; clear n0_ n1_ hb; rw [← NJ.out]; have hcz_0 : w5.cell? ⟨gb4, 0, none⟩ = some (.int .i64 0) := (blk_cell BK4.out 0).trans rfl; have hcz_1 : w5.cell? ⟨gb4, 1, none⟩ = some (.int .i64 0) := (blk_cell BK4.out 1).trans rfl; have hfz_0 := blk_frozen BK4.out 0; have hfz_1 := blk_frozen BK4.out 1))
    refine bodyPost_ret (results_ct rfl _ _ gb4 40 #[.int .i64 0, .int .i64 0] (0, 0) _ rfl (by refine blk_put (cs := #[.int .i64 0, .int .i64 0]) ?_ 1 _ rfl; refine blk_put (cs := #[.int .i64 0, .int .i64 0]) ?_ 0 _ rfl; exact BK4.out) Tryd.underlying40 rfl (by kernel_rfl)) rfl ?_
    exact ⟨rfl, by refine below_set ?_ GE4.out; refine below_set ?_ GE4.out; exact HB.out⟩
  · rw [if_neg hj] at h
    simp only [Prod.mk.injEq] at h
    obtain ⟨h1, h2, rfl⟩ := h
    have hj0 : 0 ≤ j := by omega
    have hjl : j < (l0.length : Int) := by omega
    obtain ⟨ad, e1, hx1, hx2⟩ := at_T40 HR0.out j hj0 hjl
    cases e1
    rw [h1] at hx1
    rw [h2] at hx2
    have hjt : (j < 0) = False := eq_false hj
    have hjd : decide (j < 0) = false := decide_eq_false hj
    have hj0t := eq_true hj0
    have hjlt := eq_true hjl
    have hm : l0.length ≤ 9223372036854775807 := HR0.out.2.1
    clear h1 h2 hj hib
    go_enter Tryd.func19, Tryd.ntmps19
    go_wp2_with (first | ((with_reducible refine gate_dst (N := 3) rfl ?_); refine box_event ?hg (N := 3) ?hd (cs := #[.int .i64 a1]) (t := 3) ?hr ?_; (case hd => rfl); (case hg => rfl); (case hr => first | (go_simp; done) | (go_simp; rfl)); intro gb3 hg w3 hbox hb; have n0_ := Aside0.mk (below_step HB.out hb); have n1_ := Aside0.mk hbox; clear HB; have HB := n0_; have BK3 := n1_; clear n0_ n1_; clear hb hbox hg) | ((with_reducible refine gate_dst (N := 4) rfl ?_); refine box_event ?hg (N := 4) ?hd (cs := #[.int .i64 0, .int .i64 0]) (t := 40) ?hr ?_; (case hd => rfl); (case hg => rfl); (case hr => first | (go_simp; done) | (go_simp; rfl)); intro gb4 hg w4 hbox hb; have n0_ := Aside0.mk (below_step HB.out hb); have n1_ := Aside0.mk hbox; have n2_ := Aside0.mk (blk_below BK3.out hb); have n3_ := Aside0.mk ((by rw [hg]; exact below_size HB.out) : w.heap.size ≤ gb4); have n4_ := Aside0.mk (Kd.C_below HR0.out (below_step HB.out hb)); clear HB BK3; have HB := n0_; have BK4 := n1_; have BK3 := n2_; have GE4 := n3_; have HRN := n4_; clear n0_ n1_ n2_ n3_ n4_; clear hb hbox hg) | (go_at_call 33; (refine (leap_Next.find gb3 a1 _ c0 l0 _ HRN.out HC0.out BK3.out).mono ?_); rintro e w5 ⟨rfl, hb⟩; have n0_ := Aside0.mk (below_step HB.out hb); have n1_ := Aside0.mk (blk_below BK4.out hb); clear HB BK4; have HB := n0_; have BK4 := n1_; clear n0_ n1_ hb; rw [← NJ.out]; have hy1 := (HB.out.cell (World.block_lt_of_cell? w _ hx1)).trans hx1; have hy2 := (HB.out.cell (World.block_lt_of_cell? w _ hx2)).trans hx2; have hcz_0 : w5.cell? ⟨gb4, 0, none⟩ = some (.int .i64 0) := (blk_cell BK4.out 0).trans rfl; have hcz_1 : w5.cell? ⟨gb4, 1, none⟩ = some (.int .i64 0) := (blk_cell BK4.out 1).trans rfl; have hfz_0 := blk_frozen BK4.out 0; have hfz_1 := blk_frozen BK4.out 1))
    clear hx1 hx2
    refine bodyPost_ret (results_ct rfl _ _ gb4 40 #[.int .i64 r1, .int .i64 r2] (0, 0) _ rfl (by refine blk_put (cs := #[.int .i64 r1, .int .i64 0]) ?_ 1 _ rfl; refine blk_put (cs := #[.int .i64 0, .int .i64 0]) ?_ 0 _ rfl; exact BK4.out) Tryd.underlying40 rfl (by kernel_rfl)) rfl ?_
    exact ⟨rfl, by refine below_set ?_ GE4.out; refine below_set ?_ GE4.out; exact HB.out⟩

/-! ### clepsydraref06_Tables: function 20 -/
def clepsydraref06_Tables.l0 : Nat → List (S40) → List (S40) → Int → Int → Option (Bool)
  | 0, _, _, _, _ => none
  | k + 1, x0, x1, x12, x13 => if x13 < x12 then (if 0 ≤ x13 then (if x13 < (x0.length : Int) then (if x13 < (x1.length : Int) then (if (!(((rd_T40 x0 x13).f0) == ((rd_T40 x1 x13).f0)) || (!(((rd_T40 x0 x13).f1) == ((rd_T40 x1 x13).f1)))) = true then (some false) else (clepsydraref06_Tables.l0 k x0 x1 x12 (wrap64 (x13 + 1)))) else (none)) else (none)) else (none)) else (some true)
def clepsydraref06_Tables.f (k : Nat) (l0 : List (S40)) (l1 : List (S40)) : Option (Bool) := if (l0.length : Int) = (l1.length : Int) then (clepsydraref06_Tables.l0 k l0 l1 (l0.length : Int) 0) else (some false)
theorem clepsydraref06_Tables.mono_l : ∀ k, (∀ y0 y1 y2 y3, LeO (clepsydraref06_Tables.l0 k y0 y1 y2 y3) (clepsydraref06_Tables.l0 (k + 1) y0 y1 y2 y3))
  | 0 => fun _ _ _ _ r h => by simp [clepsydraref06_Tables.l0] at h
  | k + 1 => by
    have ih0 := clepsydraref06_Tables.mono_l k
    · intro y0 y1 y2 y3
      unfold clepsydraref06_Tables.l0
      repeat' first
      | (with_reducible exact ih0 _ _ _ _)
      | (with_reducible exact LeO.refl _)
      | (with_reducible exact LeO.none _)
      | (with_reducible refine LeO.ite ?_ ?_)
      | (with_reducible refine LeO.bind ?_ (fun _ => ?_))
      | exact ih0 _ _ _ _
      | exact LeO.none _
      | refine LeO.ite ?_ ?_
      | refine LeO.bind ?_ (fun _ => ?_)
theorem clepsydraref06_Tables.mono : ∀ a0 a1 k, LeO (clepsydraref06_Tables.f k a0 a1) (clepsydraref06_Tables.f (k + 1) a0 a1) := by
  intro a0 a1 k
  have ih0 := clepsydraref06_Tables.mono_l k
  unfold clepsydraref06_Tables.f
  repeat' first
      | (with_reducible exact ih0 _ _ _ _)
      | (with_reducible exact LeO.refl _)
      | (with_reducible exact LeO.none _)
      | (with_reducible refine LeO.ite ?_ ?_)
      | (with_reducible refine LeO.bind ?_ (fun _ => ?_))
      | exact ih0 _ _ _ _
      | exact LeO.none _
      | refine LeO.ite ?_ ?_
      | refine LeO.bind ?_ (fun _ => ?_)
set_option maxHeartbeats 8000000 in
set_option maxRecDepth 100000 in
theorem clepsydraref06_Tables.calls (k : Nat) (A0 : Option Addr) (c0 : Nat) (l0 : List (S40)) (A1 : Option Addr) (c1 : Nat) (l1 : List (S40)) (r : Bool) (w : World) (hr0 : Kd.C k40 w A0 l0.length l0) (hc0 : l0.length ≤ c0) (hr1 : Kd.C k40 w A1 l1.length l1) (hc1 : l1.length ≤ c1) (h : clepsydraref06_Tables.f k l0 l1 = some r) :
    Calls Tryd.prog 20 #[.slice A0 l0.length c0, .slice A1 l1.length c1] w fun e w' => e = .returned (.bool r) ∧ Drawn0 w w' := by
  have hu40 := Tryd.underlying40
  have HR0 := Aside0.mk hr0
  have HC0 := Aside0.mk hc0
  clear hr0 hc0
  have HR1 := Aside0.mk hr1
  have HC1 := Aside0.mk hc1
  clear hr1 hc1
  have H : (if (l0.length : Int) = (l1.length : Int) then (clepsydraref06_Tables.l0 k l0 l1 (l0.length : Int) 0) else (some false)) = some r := h
  clear h
  by_cases c3 : (l0.length : Int) = (l1.length : Int)
  · rw [if_pos c3] at H
    have c3b0 : ((l0.length : Int) == (l1.length : Int)) = true := beq_iff_eq.mpr c3
    have c3b1 : ((l0.length : Int) != (l1.length : Int)) = false := bne_eq_false_iff_eq.mpr c3
    have c3b2 : (l0.length == l1.length) = true := by first | simpa using c3 | (simp at c3 ⊢; omega)
    clear c3
    have H' := Aside0.mk H
    clear H
    go_enter Tryd.func20, Tryd.ntmps20
    go_wp2
    repeat (go_quiet (fail); try go_wp2)
    go_loopg [13] k (fun kq v13 w' => ∃ (x13_1 : Int), v13 = .int .i64 x13_1 ∧ Aside0 (clepsydraref06_Tables.l0 kq l0 l1 (l0.length : Int) x13_1 = some r) ∧ Aside0 (kq ≤ k) ∧ Drawn0 w w')
    case atStart => exact ⟨(0), (by first | rfl | (simp; done) | (simp [*]; done) | (simp [Int.tdiv_eq_ediv_of_nonneg]; done) | (simp [Go.RowKit.wrap64]; done) | (simp [*, Go.RowKit.wrap64]; done)), H', ⟨Nat.le_refl _⟩, by repeat (first | exact Drawn0.refl _ | apply Drawn0.step)⟩
    case round =>
      clear H'
      try clear c1
      try clear c2
      try clear p2
      try clear c3
      try clear c3b0
      try clear c3b1
      try clear c3b2
      obtain ⟨x13_1, rfl, HA, HK1, ⟨m1, rfl⟩⟩ := hrel
      cases gk with
      | zero => exact absurd HA.out (by simp [clepsydraref06_Tables.l0])
      | succ k1 =>
        have H := HA.out
        clear HA
        simp only [clepsydraref06_Tables.l0] at H
        by_cases c4 : x13_1 < (l0.length : Int)
        · rw [if_pos c4] at H
          have c4b0 : decide (x13_1 < (l0.length : Int)) = true := decide_eq_true c4
          clear c4
          by_cases c5 : 0 ≤ x13_1
          · rw [if_pos c5] at H
            have c5b0 : decide (0 ≤ x13_1) = true := decide_eq_true c5
            clear c5
            by_cases c6 : x13_1 < (l0.length : Int)
            · rw [if_pos c6] at H
              have c6b0 : decide (x13_1 < (l0.length : Int)) = true := decide_eq_true c6
              clear c6
              by_cases c7 : x13_1 < (l1.length : Int)
              · rw [if_pos c7] at H
                have c7b0 : decide (x13_1 < (l1.length : Int)) = true := decide_eq_true c7
                clear c7
                by_cases c8 : (!(((rd_T40 l0 x13_1).f0) == ((rd_T40 l1 x13_1).f0)) || (!(((rd_T40 l0 x13_1).f1) == ((rd_T40 l1 x13_1).f1)))) = true
                · rw [if_pos c8] at H
                  have c8b0 : (!(((rd_T40 l0 x13_1).f0) == ((rd_T40 l1 x13_1).f0)) || (!(((rd_T40 l0 x13_1).f1) == ((rd_T40 l1 x13_1).f1)))) = true := c8
                  clear c8
                  obtain rfl := Option.some.inj H
                  have p339 : 0 ≤ (x13_1 : Int) := of_decide_eq_true (by first | (with_reducible assumption) | assumption)
                  have q339 : x13_1 < (l0.length : Int) := of_decide_eq_true (by first | (with_reducible assumption) | assumption)
                  obtain ⟨ad339, e339, hx339_0, hx339_1⟩ := at_T40 HR0.out x13_1 p339 q339
                  cases e339
                  replace p339 := eq_true p339
                  replace q339 := eq_true q339
                  have p340 : 0 ≤ (x13_1 : Int) := of_decide_eq_true (by first | (with_reducible assumption) | assumption)
                  have q340 : x13_1 < (l1.length : Int) := of_decide_eq_true (by first | (with_reducible assumption) | assumption)
                  obtain ⟨ad340, e340, hx340_0, hx340_1⟩ := at_T40 HR1.out x13_1 p340 q340
                  cases e340
                  replace p340 := eq_true p340
                  replace q340 := eq_true q340
                  go_wp2
                  repeat (go_quiet (fail); try go_wp2)
                  go_ret
                  exact ⟨by first | rfl | (simp; done) | (simp [*]; done) | (simp [Int.tdiv_eq_ediv_of_nonneg]; done) | (simp [Go.RowKit.wrap64]; done) | (simp [*, Go.RowKit.wrap64]; done), by repeat (first | exact Drawn0.refl _ | apply Drawn0.step)⟩
                · rw [if_neg c8] at H
                  have c8b0 : (!(((rd_T40 l0 x13_1).f0) == ((rd_T40 l1 x13_1).f0)) || (!(((rd_T40 l0 x13_1).f1) == ((rd_T40 l1 x13_1).f1)))) = false := by simpa using c8
                  clear c8
                  have H' := Aside0.mk H
                  clear H
                  have p339 : 0 ≤ (x13_1 : Int) := of_decide_eq_true (by first | (with_reducible assumption) | assumption)
                  have q339 : x13_1 < (l0.length : Int) := of_decide_eq_true (by first | (with_reducible assumption) | assumption)
                  obtain ⟨ad339, e339, hx339_0, hx339_1⟩ := at_T40 HR0.out x13_1 p339 q339
                  cases e339
                  replace p339 := eq_true p339
                  replace q339 := eq_true q339
                  have p340 : 0 ≤ (x13_1 : Int) := of_decide_eq_true (by first | (with_reducible assumption) | assumption)
                  have q340 : x13_1 < (l1.length : Int) := of_decide_eq_true (by first | (with_reducible assumption) | assumption)
                  obtain ⟨ad340, e340, hx340_0, hx340_1⟩ := at_T40 HR1.out x13_1 p340 q340
                  cases e340
                  replace p340 := eq_true p340
                  replace q340 := eq_true q340
                  go_wp2
                  repeat (go_quiet (fail); try go_wp2)
                  go_roundg k1
                  case measure => have := HK1.out; omega
                  case rel => exact ⟨(wrap64 (x13_1 + 1)), (by first | rfl | (simp; done) | (simp [*]; done) | (simp [Int.tdiv_eq_ediv_of_nonneg]; done) | (simp [Go.RowKit.wrap64]; done) | (simp [*, Go.RowKit.wrap64]; done)), H', ⟨by have := HK1.out; omega⟩, by repeat (first | exact Drawn0.refl _ | apply Drawn0.step)⟩
              · rw [if_neg c7] at H
                exact absurd H (by simp)
            · rw [if_neg c6] at H
              exact absurd H (by simp)
          · rw [if_neg c5] at H
            exact absurd H (by simp)
        · rw [if_neg c4] at H
          have c4b0 : decide (x13_1 < (l0.length : Int)) = false := decide_eq_false c4
          clear c4
          obtain rfl := Option.some.inj H
          go_wp2
          repeat (go_quiet (fail); try go_wp2)
          go_ret
          exact ⟨by first | rfl | (simp; done) | (simp [*]; done) | (simp [Int.tdiv_eq_ediv_of_nonneg]; done) | (simp [Go.RowKit.wrap64]; done) | (simp [*, Go.RowKit.wrap64]; done), by repeat (first | exact Drawn0.refl _ | apply Drawn0.step)⟩
  · rw [if_neg c3] at H
    have c3b0 : ((l0.length : Int) == (l1.length : Int)) = false := beq_eq_false_iff_ne.mpr c3
    have c3b1 : ((l0.length : Int) != (l1.length : Int)) = true := bne_iff_ne.mpr c3
    have c3b2 : (l0.length == l1.length) = false := by first | simpa using c3 | (simp at c3 ⊢; omega)
    obtain rfl := Option.some.inj H
    go_enter Tryd.func20, Tryd.ntmps20
    go_wp2
    repeat (go_quiet (fail); try go_wp2)
    go_ret
    exact ⟨by first | rfl | (simp; done) | (simp [*]; done) | (simp [Int.tdiv_eq_ediv_of_nonneg]; done) | (simp [Go.RowKit.wrap64]; done) | (simp [*, Go.RowKit.wrap64]; done), by repeat (first | exact Drawn0.refl _ | apply Drawn0.step)⟩

end Go.Proofs.YtaibmobjpheaiaaDoor.Q
