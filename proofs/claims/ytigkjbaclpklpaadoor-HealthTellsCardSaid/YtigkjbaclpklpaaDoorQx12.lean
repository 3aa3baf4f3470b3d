/- The calls of these Go functions answer what the Lean functions beside them answer; written by a program (wip/pr2.py, out of the print of the loaded program); under no condition but those that stand in the theorems. -/
import Derived.Test.YtigkjbaclpklpaaDoorQx0
import Derived.Test.YtigkjbaclpklpaaDoorQx4
import Derived.Test.YtigkjbaclpklpaaDoorQx5
import Derived.Test.YtigkjbaclpklpaaDoorQx11
namespace Go.Proofs.YtigkjbaclpklpaaDoor.Q
open Go.RowKit Go.Proofs.YtigkjbaclpklpaaDoorW.PrintWords Go.Proofs.YtigkjbaclpklpaaDoorW.PrintLast Go.Proofs.YtigkjbaclpklpaaDoorW.PrintMore
attribute [local go_sem] max2_int min2_int max_two min_two max_three min_three max_four min_four   -- for this text's walks alone
set_option linter.unusedVariables false
set_option linter.unusedSimpArgs false

-- NOT PRINTED: function 72 (slices_IndexFunc)

-- NOT PRINTED: function 62 (slices_ContainsFunc)

/-! ### leap_Good: function 41 -/
def leap_Good.p (x : S82) : Bool := Int.tmod (wrap64 (x.f0 - x.f1)) 86400 != 0
theorem leap_Good.one (x0 x1 : Int) (w : World) :
    Calls Tryd.prog 63 #[.agg #[.int .i64 x0, .int .i64 x1]] w fun e w' => e = .returned (.bool (leap_Good.p ⟨x0, x1⟩)) ∧ Below w.heap.size w w' := by
  have HB := Aside0.mk (Below.refl w.heap.size w)
  go_enter Tryd.func63, Tryd.ntmps63
  go_wp2
  go_ret
  exact ⟨rfl, below_alloc HB.1 _⟩

def leap_Good.idx : List (S82) → Int → Int
  | [], _ => -1
  | x :: xs, i => if leap_Good.p x = true then i else leap_Good.idx  xs (i + 1)
theorem leap_Good.dropc (l : List (S82)) (i : Nat) (h : i < l.length) : l.drop i = rd_T82 l (i : Int) :: l.drop (i + 1) := by
  rw [List.drop_eq_getElem_cons h]
  congr 1
  simp [rd_T82, List.getD_eq_getElem?_getD, List.getElem?_eq_getElem h]
set_option maxHeartbeats 8000000 in
set_option maxRecDepth 100000 in
theorem leap_Good.find (A0 : Option Addr) (c0 : Nat) (l0 : List (S82)) (w : World) (hr0 : Kd.C k82 w A0 l0.length l0) (hc0 : l0.length ≤ c0) :
    Calls Tryd.prog 72 #[.slice A0 l0.length c0, .func (.func 63) #[] #[]] w fun e w' => e = .returned (.int .i64 (leap_Good.idx  l0 0)) ∧ Below w.heap.size w w' := by
  have hu25 := Tryd.underlying82
  have HR0 := Aside0.mk hr0
  have HC0 := Aside0.mk hc0
  clear hr0 hc0
  have HB := Aside0.mk (Below.refl w.heap.size w)
  obtain ⟨r, HR⟩ : ∃ r, r = leap_Good.idx  l0 0 := ⟨_, rfl⟩
  rw [← HR]
  have NR := Aside0.mk HR
  clear HR
  go_enter Tryd.func72, Tryd.ntmps72
  go_wp2
  go_loopg [8] l0.length (fun kq v8 w' => ∃ (i : Nat), v8 = .int .i64 (i : Int) ∧ Aside0 (i + kq = l0.length ∧ leap_Good.idx  (l0.drop i) (i : Int) = r) ∧ Aside0 (Below w.heap.size w w'))
  case atStart => exact ⟨0, rfl, ⟨by omega, NR.1.symm⟩, ⟨by repeat (first | exact HB.1 | apply below_alloc | apply pw_below_drewN | apply below_drew1)⟩⟩
  case round =>
    clear HB
    obtain ⟨i, rfl, HI, HB⟩ := hrel
    have hm : l0.length ≤ 9223372036854775807 := HR0.1.2.1
    by_cases hlt : i < l0.length
    · have hil : (i : Int) < (l0.length : Int) := by omega
      have hxs := HI.1.2
      rw [leap_Good.dropc l0 i hlt] at hxs
      obtain ⟨ad, e1, hx1, hx2⟩ := at_T82 HR0.1 (i : Int) (by omega) hil
      cases e1
      replace hx1 := (HB.1.cell (World.block_lt_of_cell? w _ hx1)).trans hx1
      replace hx2 := (HB.1.cell (World.block_lt_of_cell? w _ hx2)).trans hx2
      obtain ⟨s, HS⟩ : ∃ s, s = rd_T82 l0 (i : Int) := ⟨_, rfl⟩
      rw [← HS] at hx1 hx2 hxs
      clear HS
      obtain ⟨x0, x1⟩ := s
      simp only [Int.toNat_natCast] at hx1 hx2
      by_cases hp : leap_Good.p ⟨x0, x1⟩ = true
      · have e2 : leap_Good.idx  (⟨x0, x1⟩ :: l0.drop (i + 1)) (i : Int) = (i : Int) := if_pos hp
        rw [e2] at hxs
        subst hxs
        go_wp2_with (first | (go_at_call 63; (with_reducible refine (leap_Good.one x0 x1 _).mono ?_); rintro e w5 ⟨rfl, hb⟩; have n1_ := Aside0.mk (below_step HB.1 hb); clear HB hx1 hx2; have HB := n1_; clear n1_ hb))
        go_ret
        exact ⟨rfl, HB.1⟩
      · have hp : leap_Good.p ⟨x0, x1⟩ = false := by cases h_ : leap_Good.p ⟨x0, x1⟩ <;> simp_all
        have e2 : leap_Good.idx  (⟨x0, x1⟩ :: l0.drop (i + 1)) (i : Int) = leap_Good.idx  (l0.drop (i + 1)) ((i : Int) + 1) := if_neg (by rw [hp]; decide)
        rw [e2] at hxs
        have NX := Aside0.mk hxs
        clear hxs
        go_wp2_with (first | (go_at_call 63; (with_reducible refine (leap_Good.one x0 x1 _).mono ?_); rintro e w5 ⟨rfl, hb⟩; have n1_ := Aside0.mk (below_step HB.1 hb); clear HB hx1 hx2; have HB := n1_; clear n1_ hb))
        go_roundg (gk - 1)
        case measure => have := HI.1.1; omega
        case rel => exact ⟨i + 1, by go_num, ⟨by have := HI.1.1; omega, by rw [← NX.1]; congr 1⟩, ⟨HB.1⟩⟩
    · have hil : i = l0.length := by have := HI.1.1; omega
      have hxs := HI.1.2
      rw [List.drop_eq_nil_of_le (by omega)] at hxs
      have hxs : r = -1 := hxs.symm
      subst hxs
      subst hil
      go_wp2
      go_ret
      exact ⟨rfl, HB.1⟩

set_option maxHeartbeats 8000000 in
theorem leap_Good.contains (A0 : Option Addr) (c0 : Nat) (l0 : List (S82)) (w : World) (hr0 : Kd.C k82 w A0 l0.length l0) (hc0 : l0.length ≤ c0) :
    Calls Tryd.prog 62 #[.slice A0 l0.length c0, .func (.func 63) #[] #[]] w fun e w' => e = .returned (.bool (decide (leap_Good.idx l0 0 ≥ 0))) ∧ Below w.heap.size w w' := by
  have HR0 := Aside0.mk hr0
  have HC0 := Aside0.mk hc0
  clear hr0 hc0
  have HB := Aside0.mk (Below.refl w.heap.size w)
  obtain ⟨r, HR⟩ : ∃ r, r = leap_Good.idx l0 0 := ⟨_, rfl⟩
  rw [← HR]
  have NR := Aside0.mk HR
  clear HR
  go_enter Tryd.func62, Tryd.ntmps62
  go_wp2_with (first | (go_at_call 72; (refine (leap_Good.find A0 c0 l0 _ HR0.1 HC0.1).mono ?_); rintro e w5 ⟨rfl, hb⟩; have n1_ := Aside0.mk (below_step HB.1 hb); clear HB; have HB := n1_; clear n1_ hb; rw [← NR.1]))
  go_ret
  exact ⟨rfl, HB.1⟩
def leap_Good.f (k : Nat) (l0 : List (S82)) : Option Bool := (wire_Table.f k l0).bind fun t => some (t && !decide (leap_Good.idx l0 0 ≥ 0))
theorem leap_Good.mono : ∀ a0 k, LeO (leap_Good.f k a0) (leap_Good.f (k + 1) a0) := by
  intro a0 k
  unfold leap_Good.f
  exact LeO.bind (wire_Table.mono _ _) fun _ => LeO.refl _
set_option maxHeartbeats 8000000 in
theorem leap_Good.calls (k : Nat) (A0 : Option Addr) (c0 : Nat) (l0 : List (S82)) (r : Bool) (w : World) (hr0 : Kd.C k82 w A0 l0.length l0) (hc0 : l0.length ≤ c0) (h : leap_Good.f k l0 = some r) :
    Calls Tryd.prog 41 #[.slice A0 l0.length c0] w fun e w' => e = .returned (.bool r) ∧ Below w.heap.size w w' := by
  have HR0 := Aside0.mk hr0
  have HC0 := Aside0.mk hc0
  clear hr0 hc0
  have HB := Aside0.mk (Below.refl w.heap.size w)
  unfold leap_Good.f at h
  replace h := Option.bind_eq_some_iff.mp h
  obtain ⟨t, ht, h⟩ := h
  replace h := Option.some.inj h
  have A1 := Aside0.mk ht
  clear ht
  obtain ⟨b, HR⟩ : ∃ b, b = decide (leap_Good.idx l0 0 ≥ 0) := ⟨_, rfl⟩
  rw [← HR] at h
  have NR := Aside0.mk HR
  clear HR
  subst h
  cases t with
  | false =>
    go_enter Tryd.func41, Tryd.ntmps41
    go_wp2_with (first | (go_at_call 61; (with_reducible refine (wire_Table.calls k A0 c0 l0 false _ HR0.1 HC0.1 A1.out).mono ?_); rintro e w5 ⟨rfl, hb⟩; have n1_ := Aside0.mk (below_step HB.1 hb); clear HB; have HB := n1_; clear n1_ hb))
    go_ret
    exact ⟨rfl, HB.1⟩
  | true =>
    go_enter Tryd.func41, Tryd.ntmps41
    go_wp2_with (first | (go_at_call 61; (with_reducible refine (wire_Table.calls k A0 c0 l0 true _ HR0.1 HC0.1 A1.out).mono ?_); rintro e w5 ⟨rfl, hb⟩; have n1_ := Aside0.mk (below_step HB.1 hb); have n2_ := Aside0.mk (Kd.C_below HR0.1 (below_step HB.1 hb)); clear HB; have HB := n1_; clear n1_ hb) | (go_at_call 62; (refine (leap_Good.contains A0 c0 l0 _ n2_.out HC0.1).mono ?_); rintro e w6 ⟨rfl, hb⟩; have n1_ := Aside0.mk (below_step HB.1 hb); clear HB; have HB := n1_; clear n1_ hb; rw [← NR.1]))
    go_ret
    exact ⟨rfl, HB.1⟩

/-! ### hlc_Right: function 51 -/
def hlc_Right.f (a0_0 : Int) (a0_1 : Int) : Option (Bool) := if a0_0 ≥ (-2305843009213693952) then (if a0_0 ≤ 2305843009213693952 then (if a0_1 ≥ 0 then (some (decide (a0_1 ≤ 1073741824))) else (some false)) else (some false)) else (some false)
set_option maxHeartbeats 8000000 in
set_option maxRecDepth 100000 in
theorem hlc_Right.calls (a0_0 : Int) (a0_1 : Int) (r : Bool) (w : World) (h : hlc_Right.f a0_0 a0_1 = some r) :
  Calls Tryd.prog 51 #[.agg #[.int .i64 a0_0, .int .i64 a0_1]] w fun e w' => e = .returned (.bool r) ∧ Below w.heap.size w w' := by
 have hu28 := Tryd.underlying28
 have HB := mk (Below.refl w.heap.size w)
 have H : (if a0_0 ≥ (-2305843009213693952) then (if a0_0 ≤ 2305843009213693952 then (if a0_1 ≥ 0 then (some (decide (a0_1 ≤ 1073741824))) else (some false)) else (some false)) else (some false)) = some r := h
 clear h
 by_cases c2 : a0_0 ≥ (-2305843009213693952)
 ·rw [if_pos c2] at H
  have c2b0 : decide ((-2305843009213693952) ≤ a0_0) = true := decide_eq_true c2
  clear c2
  by_cases c3 : a0_0 ≤ 2305843009213693952
  ·rw [if_pos c3] at H
   have c3b0 : decide (a0_0 ≤ 2305843009213693952) = true := decide_eq_true c3
   clear c3
   by_cases c4 : a0_1 ≥ 0
   ·rw [if_pos c4] at H
    have c4b0 : decide (0 ≤ a0_1) = true := decide_eq_true c4
    clear c4
    obtain rfl := Option.some.inj H
    go_enter Tryd.func51, Tryd.ntmps51
    go_wp2_with (first | ((with_reducible refine gate_dst (N := 1) rfl ?_); refine bx 1 #[.int .i64 a0_0, .int .i64 a0_1] 28 ?_; intro g0_ hg w5 hbox hb; have B0_ := mk (hbox); have W0_ := gl hg zq; have E0_ := gl hg zq; replace HB := mk (below_step zq hb); clear hb hbox hg; obtain ⟨hcz6_0, hcz6_1⟩ := cc2 B0_.1; obtain ⟨hfz6_0, hfz6_1⟩ := cf2 B0_.1))
    go_ret
    exact ⟨by first | rfl | (simp [errW_none, errW_some] <;> rfl) | (simp [*, errW_none, errW_some] <;> rfl), by repeat (first | (with_reducible first | exact HB.1 | apply bA | apply pD | apply b1 | apply bS E0_.1) | exact HB.1)⟩
   rw [if_neg c4] at H
   have c4b0 : decide (0 ≤ a0_1) = false := decide_eq_false c4
   clear c4
   obtain rfl := Option.some.inj H
   go_enter Tryd.func51, Tryd.ntmps51
   go_wp2_with (first | ((with_reducible refine gate_dst (N := 1) rfl ?_); refine bx 1 #[.int .i64 a0_0, .int .i64 a0_1] 28 ?_; intro g0_ hg w7 hbox hb; have B0_ := mk (hbox); have W0_ := gl hg zq; have E0_ := gl hg zq; replace HB := mk (below_step zq hb); clear hb hbox hg; obtain ⟨hcz8_0, hcz8_1⟩ := cc2 B0_.1; obtain ⟨hfz8_0, hfz8_1⟩ := cf2 B0_.1))
   go_ret
   exact ⟨by first | rfl | (simp [errW_none, errW_some] <;> rfl) | (simp [*, errW_none, errW_some] <;> rfl), by repeat (first | (with_reducible first | exact HB.1 | apply bA | apply pD | apply b1 | apply bS E0_.1) | exact HB.1)⟩
  rw [if_neg c3] at H
  have c3b0 : decide (a0_0 ≤ 2305843009213693952) = false := decide_eq_false c3
  clear c3
  obtain rfl := Option.some.inj H
  go_enter Tryd.func51, Tryd.ntmps51
  go_wp2_with (first | ((with_reducible refine gate_dst (N := 1) rfl ?_); refine bx 1 #[.int .i64 a0_0, .int .i64 a0_1] 28 ?_; intro g0_ hg w9 hbox hb; have B0_ := mk (hbox); have W0_ := gl hg zq; have E0_ := gl hg zq; replace HB := mk (below_step zq hb); clear hb hbox hg; have hcz10_0 : w9.cell? ⟨g0_, 0, none⟩ = some (.int .i64 a0_0) := bQ B0_.1 0; have hfz10_0 := blk_frozen B0_.1 0))
  go_ret
  exact ⟨by first | rfl | (simp [errW_none, errW_some] <;> rfl) | (simp [*, errW_none, errW_some] <;> rfl), by repeat (first | (with_reducible first | exact HB.1 | apply bA | apply pD | apply b1 | apply bS E0_.1) | exact HB.1)⟩
 rw [if_neg c2] at H
 have c2b0 : decide ((-2305843009213693952) ≤ a0_0) = false := decide_eq_false c2
 clear c2
 obtain rfl := Option.some.inj H
 go_enter Tryd.func51, Tryd.ntmps51
 go_wp2_with (first | ((with_reducible refine gate_dst (N := 1) rfl ?_); refine bx 1 #[.int .i64 a0_0, .int .i64 a0_1] 28 ?_; intro g0_ hg w11 hbox hb; have B0_ := mk (hbox); have W0_ := gl hg zq; have E0_ := gl hg zq; replace HB := mk (below_step zq hb); clear hb hbox hg; have hcz12_0 : w11.cell? ⟨g0_, 0, none⟩ = some (.int .i64 a0_0) := bQ B0_.1 0; have hfz12_0 := blk_frozen B0_.1 0))
 go_ret
 exact ⟨by first | rfl | (simp [errW_none, errW_some] <;> rfl) | (simp [*, errW_none, errW_some] <;> rfl), by repeat (first | (with_reducible first | exact HB.1 | apply bA | apply pD | apply b1 | apply bS E0_.1) | exact HB.1)⟩

/-! ### span_Of: function 57 -/
def span_Of.f (k : Nat) (a0 : Int) (a1 : Int) : Option (Int × Int) := (sat_Clip.f k a0).bind fun t202 => ((sat_Clip.f k a1).bind fun t203 => (some (t202, t203)))
theorem span_Of.mono : ∀ a0 a1 k, LeO (span_Of.f k a0 a1) (span_Of.f (k + 1) a0 a1) := by
 intro a0 a1 k
 unfold span_Of.f
 repeat' first
   | (with_reducible exact sat_Clip.mono _ _)
   | (with_reducible exact LeO.refl _)
   | (with_reducible exact LeO.none _)
   | (with_reducible refine LeO.ite ?_ ?_)
   | (with_reducible refine LeO.bind ?_ (fun _ => ?_))
   | exact sat_Clip.mono _ _
   | exact LeO.none _
   | refine LeO.ite ?_ ?_
   | refine LeO.bind ?_ (fun _ => ?_)
set_option maxHeartbeats 8000000 in
set_option maxRecDepth 100000 in
theorem span_Of.calls (k : Nat) (a0 : Int) (a1 : Int) (r1 : Int) (r2 : Int) (w : World) (h : span_Of.f k a0 a1 = some (r1, r2)) :
  Calls Tryd.prog 57 #[.int .i64 a0, .int .i64 a1] w fun e w' => e = .returned (.agg #[.int .i64 r1, .int .i64 r2]) ∧ Below w.heap.size w w' := by
 have hu25 := Tryd.underlying25
 have HB := Aside0.mk (Below.refl w.heap.size w)
 have H : ((sat_Clip.f k a0).bind fun t202 => ((sat_Clip.f k a1).bind fun t203 => (some (t202, t203)))) = some (r1, r2) := h
 clear h
 replace H := Option.bind_eq_some_iff.mp H
 obtain ⟨t202, A30, H⟩ := H
 replace H : ((sat_Clip.f k a1).bind fun t203 => (some (t202, t203))) = some (r1, r2) := H
 have A3 := Aside0.mk A30
 clear A30
 replace H := Option.bind_eq_some_iff.mp H
 obtain ⟨t203, A40, H⟩ := H
 replace H : (some (t202, t203)) = some (r1, r2) := H
 have A4 := Aside0.mk A40
 clear A40
 simp only [Option.some.injEq, Prod.mk.injEq] at H
 obtain ⟨rfl, rfl⟩ := H
 go_enter Tryd.func57, Tryd.ntmps57
 go_wp2_with (first | ((with_reducible refine gate_dst (N := 4) rfl ?_); refine bx 4 #[.int .i64 0, .int .i64 0] 25 ?_; intro gb201 hg w5 hbox hb; have BK201 := Aside0.mk (hbox); have GW201 := Aside0.mk ((by rw [hg]; exact (below_size (by with_reducible repeat first | exact HB.1 | apply pw_below_drewN)) : w.heap.size ≤ gb201)); have GE201 := Aside0.mk ((by rw [hg]; exact (below_size (by with_reducible repeat first | exact HB.1 | apply pw_below_drewN)) : w.heap.size ≤ gb201)); replace HB := Aside0.mk (below_step (by with_reducible repeat first | exact HB.1 | apply pw_below_drewN) hb); clear hb hbox hg) | ((with_reducible refine gate_callee (f := 40) rfl ?_); refine goesL_ (some 6) rfl rfl Tryd.func40 (by kernel_rfl) rfl #[.int .i64 a0] rfl (by (try simp only [List.map_toArray, List.map_cons, List.map_nil]); first | done | rfl | (simp only [List.length_drop, List.length_take]; rfl)) ?_; (with_reducible refine (sat_Clip.calls k a0 t202 _ A3.out).mono ?_); rintro e w' ⟨rfl, ⟨nd, rfl⟩⟩; refine ⟨_, rfl, ?_⟩; (try ((repeat rw [World.drewN_drewN]); rw [drewN_self w5]; generalize hq_ : World.drewN w5 _ = w5; have n0_ : Aside0 (w5.heap[gb201]? = some (.cells #[.int .i64 0, .int .i64 0] 25 (0, 0))) := ⟨by rw [← hq_]; exact (by with_reducible repeat first | exact BK201.1 | apply bN)⟩; have n1_ : Aside0 (Below w.heap.size w w5) := ⟨by rw [← hq_]; exact (by repeat (first | (with_reducible first | exact HB.1 | apply below_alloc | apply pw_below_drewN | apply below_drew1 | refine below_set ?_ GE201.out) | exact HB.1))⟩; clear BK201 HB hq_; have BK201 := n0_; have HB := n1_; clear n0_ n1_))) | ((with_reducible refine gate_callee (f := 40) rfl ?_); refine goesL_ (some 8) rfl rfl Tryd.func40 (by kernel_rfl) rfl #[.int .i64 a1] rfl (by (try simp only [List.map_toArray, List.map_cons, List.map_nil]); first | done | rfl | (simp only [List.length_drop, List.length_take]; rfl)) ?_; (with_reducible refine (sat_Clip.calls k a1 t203 _ A4.out).mono ?_); rintro e w' ⟨rfl, ⟨nd, rfl⟩⟩; refine ⟨_, rfl, ?_⟩; (try ((repeat rw [World.drewN_drewN]); rw [drewN_self w5]; generalize hq_ : World.drewN w5 _ = w5; have n0_ : Aside0 (w5.heap[gb201]? = some (.cells #[.int .i64 0, .int .i64 0] 25 (0, 0))) := ⟨by rw [← hq_]; exact (by with_reducible repeat first | exact BK201.1 | apply bN)⟩; have n1_ : Aside0 (Below w.heap.size w w5) := ⟨by rw [← hq_]; exact (by repeat (first | (with_reducible first | exact HB.1 | apply below_alloc | apply pw_below_drewN | apply below_drew1 | refine below_set ?_ GE201.out) | exact HB.1))⟩; clear BK201 HB hq_; have BK201 := n0_; have HB := n1_; clear n0_ n1_)); obtain ⟨hcz6_0, hcz6_1⟩ := cc2 BK201.1; obtain ⟨hfz6_0, hfz6_1⟩ := cf2 BK201.1))
 refine bodyPost_ret (results_cell_row rfl _ _ gb201 25 #[.int .i64 t202, .int .i64 t203] (0, 0) _ rfl (by (with_reducible repeat (first | refine blk_drewN ?_ _ | refine blk_drew ?_ | refine blk_alloc ?_ _)); refine blk_put (cs := #[.int .i64 t202, .int .i64 0]) ?_ 1 _ rfl; (with_reducible repeat (first | refine blk_drewN ?_ _ | refine blk_drew ?_ | refine blk_alloc ?_ _)); refine blk_put (cs := #[.int .i64 0, .int .i64 0]) ?_ 0 _ rfl; (with_reducible repeat (first | refine blk_drewN ?_ _ | refine blk_drew ?_ | refine blk_alloc ?_ _)); exact BK201.1) Tryd.underlying25 rfl (by kernel_rfl)) rfl ?_
 exact ⟨by first | rfl | (simp [errW_none, errW_some] <;> rfl) | (simp [*, errW_none, errW_some] <;> rfl), by repeat (first | (with_reducible first | exact HB.1 | apply below_alloc | apply pw_below_drewN | apply below_drew1 | refine below_set ?_ GE201.out) | exact HB.1)⟩

/-! ### span_Empty: function 58 -/
def span_Empty.f (a0_0 : Int) (a0_1 : Int) : Option (Bool) := some (decide (a0_0 > a0_1))
set_option maxHeartbeats 8000000 in
set_option maxRecDepth 100000 in
theorem span_Empty.calls (a0_0 : Int) (a0_1 : Int) (r : Bool) (w : World) (h : span_Empty.f a0_0 a0_1 = some r) :
  Calls Tryd.prog 58 #[.agg #[.int .i64 a0_0, .int .i64 a0_1]] w fun e w' => e = .returned (.bool r) ∧ Below w.heap.size w w' := by
 have hu25 := Tryd.underlying25
 have HB := Aside0.mk (Below.refl w.heap.size w)
 have H : (some (decide (a0_0 > a0_1))) = some r := h
 clear h
 obtain rfl := Option.some.inj H
 go_enter Tryd.func58, Tryd.ntmps58
 go_wp2_with (first | ((with_reducible refine gate_dst (N := 1) rfl ?_); refine bx 1 #[.int .i64 a0_0, .int .i64 a0_1] 25 ?_; intro gb204 hg w2 hbox hb; have BK204 := Aside0.mk (hbox); have GW204 := Aside0.mk ((by rw [hg]; exact (below_size (by repeat (first | (with_reducible first | exact HB.1 | apply below_alloc | apply pw_below_drewN | apply below_drew1) | exact HB.1))) : w.heap.size ≤ gb204)); have GE204 := Aside0.mk ((by rw [hg]; exact (below_size (by repeat (first | (with_reducible first | exact HB.1 | apply below_alloc | apply pw_below_drewN | apply below_drew1) | exact HB.1))) : w.heap.size ≤ gb204)); replace HB := Aside0.mk (below_step (by repeat (first | (with_reducible first | exact HB.1 | apply below_alloc | apply pw_below_drewN | apply below_drew1) | exact HB.1)) hb); clear hb hbox hg; obtain ⟨hcz3_0, hcz3_1⟩ := cc2 BK204.1; obtain ⟨hfz3_0, hfz3_1⟩ := cf2 BK204.1))
 go_ret
 exact ⟨by first | rfl | (simp [errW_none, errW_some] <;> rfl) | (simp [*, errW_none, errW_some] <;> rfl), by repeat (first | (with_reducible first | exact HB.1 | apply below_alloc | apply pw_below_drewN | apply below_drew1 | refine below_set ?_ GE204.out) | exact HB.1)⟩

/-! ### span_All: function 59 -/
def span_All.f  : Option (Int × Int) := some ((-2305843009213693952), 2305843009213693952)
set_option maxHeartbeats 8000000 in
set_option maxRecDepth 100000 in
theorem span_All.calls  (r1 : Int) (r2 : Int) (w : World) (h : span_All.f  = some (r1, r2)) :
  Calls Tryd.prog 59 #[] w fun e w' => e = .returned (.agg #[.int .i64 r1, .int .i64 r2]) ∧ Below w.heap.size w w' := by
 have hu25 := Tryd.underlying25
 have HB := Aside0.mk (Below.refl w.heap.size w)
 have H : (some ((-2305843009213693952), 2305843009213693952)) = some (r1, r2) := h
 clear h
 simp only [Option.some.injEq, Prod.mk.injEq] at H
 obtain ⟨rfl, rfl⟩ := H
 go_enter Tryd.func59, Tryd.ntmps59
 go_wp2_with (first | ((with_reducible refine gate_dst (N := 0) rfl ?_); refine bx 0 #[.int .i64 0, .int .i64 0] 25 ?_; intro gb205 hg w1 hbox hb; have BK205 := Aside0.mk (hbox); have GW205 := Aside0.mk ((by rw [hg]; exact (below_size (by repeat (first | (with_reducible first | exact HB.1 | apply below_alloc | apply pw_below_drewN | apply below_drew1) | exact HB.1))) : w.heap.size ≤ gb205)); have GE205 := Aside0.mk ((by rw [hg]; exact (below_size (by repeat (first | (with_reducible first | exact HB.1 | apply below_alloc | apply pw_below_drewN | apply below_drew1) | exact HB.1))) : w.heap.size ≤ gb205)); replace HB := Aside0.mk (below_step (by repeat (first | (with_reducible first | exact HB.1 | apply below_alloc | apply pw_below_drewN | apply below_drew1) | exact HB.1)) hb); clear hb hbox hg; obtain ⟨hcz2_0, hcz2_1⟩ := cc2 BK205.1; obtain ⟨hfz2_0, hfz2_1⟩ := cf2 BK205.1))
 refine bodyPost_ret (results_cell_row rfl _ _ gb205 25 #[.int .i64 (-2305843009213693952), .int .i64 2305843009213693952] (0, 0) _ rfl (by (with_reducible repeat (first | refine blk_drewN ?_ _ | refine blk_drew ?_ | refine blk_alloc ?_ _)); refine blk_put (cs := #[.int .i64 (-2305843009213693952), .int .i64 0]) ?_ 1 _ rfl; (with_reducible repeat (first | refine blk_drewN ?_ _ | refine blk_drew ?_ | refine blk_alloc ?_ _)); refine blk_put (cs := #[.int .i64 0, .int .i64 0]) ?_ 0 _ rfl; (with_reducible repeat (first | refine blk_drewN ?_ _ | refine blk_drew ?_ | refine blk_alloc ?_ _)); exact BK205.1) Tryd.underlying25 rfl (by kernel_rfl)) rfl ?_
 exact ⟨by first | rfl | (simp [errW_none, errW_some] <;> rfl) | (simp [*, errW_none, errW_some] <;> rfl), by repeat (first | (with_reducible first | exact HB.1 | apply below_alloc | apply pw_below_drewN | apply below_drew1 | refine below_set ?_ GE205.out) | exact HB.1)⟩

/-! ### slices_Clone: function 60 -/
def slices_Clone.f (l0 : List (S82)) : Option (List (S82)) := if l0.length * 16 ≤ 140737488355328 then some l0 else none
theorem slices_Clone.eqi (w : World) (d : Nat) (a : Option Addr) (n c : Nat) : (Op.equalIn (d + 1) 26 (.slice a n c) (.slice none 0 0)).run Tryd.prog w = .ok a.isNone w := by
  cases a <;> simp [Op.equalIn, run_underlying Tryd.underlying26]
theorem slices_Clone.eqn (w : World) (a : Option Addr) (n c : Nat) : (binOp .eql 26 (.slice a n c) (.slice none 0 0)).run Tryd.prog w = .ok (.bool a.isNone) w := by
  simp only [binOp]
  simp [Op.equal, Op.maxDepth, slices_Clone.eqi w 9999 a n c]
set_option maxHeartbeats 8000000 in
set_option maxRecDepth 100000 in
theorem slices_Clone.calls (A0 : Option Addr) (c0 : Nat) (l0 : List (S82)) (r : List (S82)) (w : World) (hr0 : Kd.C k82 w A0 l0.length l0) (hc0 : l0.length ≤ c0) (h : slices_Clone.f l0 = some r) :
    Calls Tryd.prog 60 #[.slice A0 l0.length c0] w fun e w' => ∃ v0_ : Value, e = .returned v0_ ∧ Kd.R k82 82 w' w.heap.size (fun _ => True) v0_ r ∧ Below w.heap.size w w' := by
  have hlm : l0.length * 16 ≤ 140737488355328 := by
    rcases Nat.lt_or_ge 140737488355328 (l0.length * 16) with q | q
    · unfold slices_Clone.f at h
      rw [if_neg (by omega)] at h
      cases h
    · exact q
  obtain rfl : l0 = r := by
    unfold slices_Clone.f at h
    rw [if_pos hlm] at h
    exact Option.some.inj h
  have HR0 := Aside0.mk hr0
  have HC0 := Aside0.mk hc0
  have HLN := Aside0.mk hlm
  clear hr0 hc0 h hlm
  have HB := Aside0.mk (Below.refl w.heap.size w)
  cases A0 with
  | none =>
    have hl : l0 = [] := by
      cases l0 with
      | nil => rfl
      | cons x xs =>
        obtain ⟨ad, e, _⟩ := HR0.1.2.2 (by simp)
        cases e
    subst hl
    have hq : ∀ (w : World) (n : Nat), (binOp .eql 26 (.slice none n c0) (.slice none 0 0)).run Tryd.prog w = .ok (.bool true) w := fun w n => slices_Clone.eqn w none n c0
    go_enter Tryd.func60, Tryd.ntmps60
    go_wp2
    go_ret
    exact ⟨.slice none 0 0, rfl, Kd.R_nil _ _ _ _ _, HB.1⟩
  | some ad =>
    have hq : ∀ (w : World), (binOp .eql 26 (.slice (some ad) l0.length c0) (.slice none 0 0)).run Tryd.prog w = .ok (.bool false) w := fun w => slices_Clone.eqn w (some ad) _ c0
    go_enter Tryd.func60, Tryd.ntmps60
    go_wp2_with (first | ((with_reducible refine gate_dst (N := 5) rfl ?_); refine Kd.R_lit k82 _ 82 ?hg (N := 5) ?hd (xs := ([] : List (S82))) (inner := []) (ok := fun _ => True) (okp := fun _ => True) ?hr ?hp (fun _ hk => hk) trivial (Below.refl _ _) (Nat.le_refl _) (by simp) ?_; (case hd => rfl); (case hg => rfl); (case hr => first | (go_simp; done) | (go_simp; rfl)); (case hp => exact Reps.none _ _); intro v5 w2 ho hb hg_ hnew_; have HO5 := Aside0.mk (Kd.R_lower ho (below_size HB.1)); replace HB := Aside0.mk (below_step HB.1 hb); clear hb hg_ hnew_ ho) | ((with_reducible refine gate_dst (N := 7) rfl ?_); refine Kd.R_append_rows k82 (w0 := w) w.heap.size rfl (.tmp 5) (.tmp 6) 26 82 (.agg #[(.int .i64 0), (.int .i64 0)]) 16 rfl Tryd.underlying26 info82 rfl (by decide) (by omega) v5 [] l0 _ _ _ (fun _ => True) (fun _ => False) rfl rfl HO5.1 (Kd.C_below HR0.1 HB.1) (fun _ _ h => h) (fun _ h => h.elim) (fun _ _ => trivial) HB.1 (below_size HB.1) ?aL ?_; (case aL => have := HLN.1; simp; omega); intro v7 w3 ho hb hg hat; have HO7 := Aside0.mk ho; clear HB; have HB := Aside0.mk hb; clear ho hb hg hat))
    go_ret
    exact ⟨v7, rfl, HO7.1, HB.1⟩

/-! words for walks by hand -/
theorem hx.gb_below {w W W1 : World} {g : Nat} (h : w.grownBy W (some g)) (hb : Below W.heap.size W W1) : w.grownBy W1 (some g) := ⟨hb.os.trans h.os, hb.tape.trans h.tape, hb.output.trans h.output, Nat.le_trans h.size hb.size, fun k hk hn => (hb.block k (Nat.lt_of_lt_of_le hk h.size)).trans (h.block k hk hn)⟩
theorem hx.gb_drew {w W : World} {g : Nat} (h : w.grownBy W (some g)) : w.grownBy W.drew (some g) := ⟨h.os, h.tape, h.output, h.size, h.block⟩
theorem hx.gb_set {w W : World} {g j : Nat} {v : Value} (h : w.grownBy W (some g)) : w.grownBy (W.setCell ⟨g, j, none⟩ v) (some g) := by
 have hz : (W.setCell ⟨g, j, none⟩ v).heap.size = W.heap.size := by simp [World.setCell]
 exact ⟨h.os, h.tape, h.output, by rw [hz]; exact h.size, fun k hk hn => (Below.heap_setCell W _ v k (fun e => hn (by rw [e]))).trans (h.block k hk hn)⟩
theorem hx.gb_setl {w W : World} {g b j : Nat} {v : Value} (h : w.grownBy W (some g)) (hb : w.heap.size ≤ b) : w.grownBy (W.setCell ⟨b, j, none⟩ v) (some g) := by
 have hz : (W.setCell ⟨b, j, none⟩ v).heap.size = W.heap.size := by simp [World.setCell]
 exact ⟨h.os, h.tape, h.output, by rw [hz]; exact h.size, fun k hk hn => (Below.heap_setCell W _ v k (by show k ≠ b; omega)).trans (h.block k hk hn)⟩
theorem hx.add2 (k : Nat) (A : Option Addr) (c : Nat) (x y r : Int) (w : World) (hr : Kd.C (Kd.int .i64) w A [x, y].length [x, y]) (hc : [x, y].length ≤ c) (h : sat_Add.f k [x, y] = some r) : Calls Tryd.prog 34 #[.slice A 2 c] w fun e w' => e = .returned (.int .i64 r) ∧ Drawn0 w w' := sat_Add.calls k A c [x, y] r w hr hc h
theorem hx.add2l (k : Nat) (A : Option Addr) (c : Nat) (x y r : Int) (w : World) (hr : Kd.C (Kd.int .i64) w A [x, y].length [x, y]) (hc : 2 ≤ c) (h : sat_Add.f k [x, y] = some r) : Calls Tryd.prog 34 #[.slice A 2 c] w fun e w' => e = .returned (.int .i64 r) ∧ Drawn0 w w' := sat_Add.calls k A c [x, y] r w hr hc h
theorem hx.fl (x0 x1 : Value) (w : World) : (Instr.field 63 (.agg #[x0, x1]) 0).run Tryd.prog w = .ok (.agg #[x0, x1]) w := by kernel_rfl
attribute [local go_sem] hx.fl
theorem hx.tight {α : Type} {d : Kd α} {e base : Nat} {w : World} {ok : Nat → Prop} {v : Value} {xs : List α} (hE : d.E = []) (h : d.R e w base ok v xs) : d.R e w base (fun k => some k = v.ownBlock) v xs := by
 obtain ⟨h0, inner, ho, hr⟩ := h
 refine ⟨fun k hk => hk.symm, inner, ho, hr.imp_ (fun p c hp => d.M_mono (fun k hk => ?_) (d.M_bound hp))⟩
 obtain ⟨_, _, _, q, hq, _⟩ := hk
 rw [hE] at hq
 cases hq
theorem hx.away {α : Type} {d : Kd α} {e base : Nat} {w : World} {ok : Nat → Prop} {v : Value} {xs : List α} (h : d.R e w base ok v xs) {g t : Nat} {cells : Array Value} (hb : w.heap[g]? = some (.cells cells t (0, 0))) (ht : e ≠ t) : ∀ k, some k = v.ownBlock → k ≠ g := fun k hk q => Kd.R_ne h hb ht (q ▸ hk)

end Go.Proofs.YtigkjbaclpklpaaDoor.Q
