/- The calls of these Go functions answer what the Lean functions beside them answer; written by a program (wip/pr2.py, out of the print of the loaded program); under no condition but those that stand in the theorems. -/
import Derived.Test.YtigkjbaclpklpaaQx0
import Derived.Test.YtigkjbaclpklpaaQx2
import Derived.Test.YtigkjbaclpklpaaQx4
namespace Go.Proofs.Ytigkjbaclpklpaa.Q
open Go.RowKit Go.Proofs.YtigkjbaclpklpaaW.PrintWords Go.Proofs.YtigkjbaclpklpaaW.PrintLast Go.Proofs.YtigkjbaclpklpaaW.PrintMore
attribute [local go_sem] max2_int min2_int max_two min_two max_three min_three max_four min_four   -- for this text's walks alone
set_option linter.unusedVariables false
set_option linter.unusedSimpArgs false

-- NOT PRINTED: function 71 (slices_IndexFunc)

-- NOT PRINTED: function 59 (slices_ContainsFunc)

/-! ### leap_Good: function 35 -/
def leap_Good.p (x : S42) : Bool := Int.tmod (wrap64 (x.f0 - x.f1)) 86400 != 0
theorem leap_Good.one (x0 x1 : Int) (w : World) :
    Calls Try.prog 60 #[.agg #[.int .i64 x0, .int .i64 x1]] w fun e w' => e = .returned (.bool (leap_Good.p ⟨x0, x1⟩)) ∧ Below w.heap.size w w' := by
  have HB := Aside0.mk (Below.refl w.heap.size w)
  go_enter Try.func60, Try.ntmps60
  go_wp2
  go_ret
  exact ⟨rfl, below_alloc HB.out _⟩

def leap_Good.idx : List (S42) → Int → Int
  | [], _ => -1
  | x :: xs, i => if leap_Good.p x = true then i else leap_Good.idx  xs (i + 1)
theorem leap_Good.dropc (l : List (S42)) (i : Nat) (h : i < l.length) : l.drop i = rd_T42 l (i : Int) :: l.drop (i + 1) := by
  rw [List.drop_eq_getElem_cons h]
  congr 1
  simp [rd_T42, List.getD_eq_getElem?_getD, List.getElem?_eq_getElem h]
set_option maxHeartbeats 8000000 in
set_option maxRecDepth 100000 in
theorem leap_Good.find (A0 : Option Addr) (c0 : Nat) (l0 : List (S42)) (w : World) (hr0 : Kd.C k42 w A0 l0.length l0) (hc0 : l0.length ≤ c0) :
    Calls Try.prog 71 #[.slice A0 l0.length c0, .func (.func 60) #[] #[]] w fun e w' => e = .returned (.int .i64 (leap_Good.idx  l0 0)) ∧ Below w.heap.size w w' := by
  have hu25 := Try.underlying42
  have HR0 := Aside0.mk hr0
  have HC0 := Aside0.mk hc0
  clear hr0 hc0
  have HB := Aside0.mk (Below.refl w.heap.size w)
  obtain ⟨r, HR⟩ : ∃ r, r = leap_Good.idx  l0 0 := ⟨_, rfl⟩
  rw [← HR]
  have NR := Aside0.mk HR
  clear HR
  go_enter Try.func71, Try.ntmps71
  go_wp2
  go_loopg [8] l0.length (fun kq v8 w' => ∃ (i : Nat), v8 = .int .i64 (i : Int) ∧ Aside0 (i + kq = l0.length ∧ leap_Good.idx  (l0.drop i) (i : Int) = r) ∧ Aside0 (Below w.heap.size w w'))
  case atStart => exact ⟨0, rfl, ⟨by omega, NR.out.symm⟩, ⟨by repeat (first | exact HB.out | apply below_alloc | apply pw_below_drewN | apply below_drew1)⟩⟩
  case round =>
    clear HB
    obtain ⟨i, rfl, HI, HB⟩ := hrel
    have hm : l0.length ≤ 9223372036854775807 := HR0.out.2.1
    by_cases hlt : i < l0.length
    · have hil : (i : Int) < (l0.length : Int) := by omega
      have hxs := HI.out.2
      rw [leap_Good.dropc l0 i hlt] at hxs
      obtain ⟨ad, e1, hx1, hx2⟩ := at_T42 HR0.out (i : Int) (by omega) hil
      cases e1
      replace hx1 := (HB.out.cell (World.block_lt_of_cell? w _ hx1)).trans hx1
      replace hx2 := (HB.out.cell (World.block_lt_of_cell? w _ hx2)).trans hx2
      obtain ⟨s, HS⟩ : ∃ s, s = rd_T42 l0 (i : Int) := ⟨_, rfl⟩
      rw [← HS] at hx1 hx2 hxs
      clear HS
      obtain ⟨x0, x1⟩ := s
      simp only [Int.toNat_natCast] at hx1 hx2
      by_cases hp : leap_Good.p ⟨x0, x1⟩ = true
      · have e2 : leap_Good.idx  (⟨x0, x1⟩ :: l0.drop (i + 1)) (i : Int) = (i : Int) := if_pos hp
        rw [e2] at hxs
        subst hxs
        go_wp2_with (first | (go_at_call 60; (with_reducible refine (leap_Good.one x0 x1 _).mono ?_); rintro e w5 ⟨rfl, hb⟩; have n1_ := Aside0.mk (below_step HB.out hb); clear HB hx1 hx2; have HB := n1_; clear n1_ hb))
        go_ret
        exact ⟨rfl, HB.out⟩
      · have hp : leap_Good.p ⟨x0, x1⟩ = false := by cases h_ : leap_Good.p ⟨x0, x1⟩ <;> simp_all
        have e2 : leap_Good.idx  (⟨x0, x1⟩ :: l0.drop (i + 1)) (i : Int) = leap_Good.idx  (l0.drop (i + 1)) ((i : Int) + 1) := if_neg (by rw [hp]; decide)
        rw [e2] at hxs
        have NX := Aside0.mk hxs
        clear hxs
        go_wp2_with (first | (go_at_call 60; (with_reducible refine (leap_Good.one x0 x1 _).mono ?_); rintro e w5 ⟨rfl, hb⟩; have n1_ := Aside0.mk (below_step HB.out hb); clear HB hx1 hx2; have HB := n1_; clear n1_ hb))
        go_roundg (gk - 1)
        case measure => have := HI.out.1; omega
        case rel => exact ⟨i + 1, by go_num, ⟨by have := HI.out.1; omega, by rw [← NX.out]; congr 1⟩, ⟨HB.out⟩⟩
    · have hil : i = l0.length := by have := HI.out.1; omega
      have hxs := HI.out.2
      rw [List.drop_eq_nil_of_le (by omega)] at hxs
      have hxs : r = -1 := hxs.symm
      subst hxs
      subst hil
      go_wp2
      go_ret
      exact ⟨rfl, HB.out⟩

set_option maxHeartbeats 8000000 in
theorem leap_Good.contains (A0 : Option Addr) (c0 : Nat) (l0 : List (S42)) (w : World) (hr0 : Kd.C k42 w A0 l0.length l0) (hc0 : l0.length ≤ c0) :
    Calls Try.prog 59 #[.slice A0 l0.length c0, .func (.func 60) #[] #[]] w fun e w' => e = .returned (.bool (decide (leap_Good.idx l0 0 ≥ 0))) ∧ Below w.heap.size w w' := by
  have HR0 := Aside0.mk hr0
  have HC0 := Aside0.mk hc0
  clear hr0 hc0
  have HB := Aside0.mk (Below.refl w.heap.size w)
  obtain ⟨r, HR⟩ : ∃ r, r = leap_Good.idx l0 0 := ⟨_, rfl⟩
  rw [← HR]
  have NR := Aside0.mk HR
  clear HR
  go_enter Try.func59, Try.ntmps59
  go_wp2_with (first | (go_at_call 71; (refine (leap_Good.find A0 c0 l0 _ HR0.out HC0.out).mono ?_); rintro e w5 ⟨rfl, hb⟩; have n1_ := Aside0.mk (below_step HB.out hb); clear HB; have HB := n1_; clear n1_ hb; rw [← NR.out]))
  go_ret
  exact ⟨rfl, HB.out⟩
def leap_Good.f (k : Nat) (l0 : List (S42)) : Option Bool := (wire_Table.f k l0).bind fun t => some (t && !decide (leap_Good.idx l0 0 ≥ 0))
theorem leap_Good.mono : ∀ a0 k, LeO (leap_Good.f k a0) (leap_Good.f (k + 1) a0) := by
  intro a0 k
  unfold leap_Good.f
  exact LeO.bind (wire_Table.mono _ _) fun _ => LeO.refl _
set_option maxHeartbeats 8000000 in
theorem leap_Good.calls (k : Nat) (A0 : Option Addr) (c0 : Nat) (l0 : List (S42)) (r : Bool) (w : World) (hr0 : Kd.C k42 w A0 l0.length l0) (hc0 : l0.length ≤ c0) (h : leap_Good.f k l0 = some r) :
    Calls Try.prog 35 #[.slice A0 l0.length c0] w fun e w' => e = .returned (.bool r) ∧ Below w.heap.size w w' := by
  have HR0 := Aside0.mk hr0
  have HC0 := Aside0.mk hc0
  clear hr0 hc0
  have HB := Aside0.mk (Below.refl w.heap.size w)
  unfold leap_Good.f at h
  replace h := Option.bind_eq_some_iff.mp h
  obtain ⟨t, ht, h⟩ := h
  replace h := Option.some.inj h
  have A1 := Aside0.mk ht
  clear ht
  obtain ⟨b, HR⟩ : ∃ b, b = decide (leap_Good.idx l0 0 ≥ 0) := ⟨_, rfl⟩
  rw [← HR] at h
  have NR := Aside0.mk HR
  clear HR
  subst h
  cases t with
  | false =>
    go_enter Try.func35, Try.ntmps35
    go_wp2_with (first | (go_at_call 58; (with_reducible refine (wire_Table.calls k A0 c0 l0 false _ HR0.out HC0.out A1.out).mono ?_); rintro e w5 ⟨rfl, hb⟩; have n1_ := Aside0.mk (below_step HB.out hb); clear HB; have HB := n1_; clear n1_ hb))
    go_ret
    exact ⟨rfl, HB.out⟩
  | true =>
    go_enter Try.func35, Try.ntmps35
    go_wp2_with (first | (go_at_call 58; (with_reducible refine (wire_Table.calls k A0 c0 l0 true _ HR0.out HC0.out A1.out).mono ?_); rintro e w5 ⟨rfl, hb⟩; have n1_ := Aside0.mk (below_step HB.out hb); have n2_ := Aside0.mk (Kd.C_below HR0.out (below_step HB.out hb)); clear HB; have HB := n1_; clear n1_ hb) | (go_at_call 59; (refine (leap_Good.contains A0 c0 l0 _ n2_.out HC0.out).mono ?_); rintro e w6 ⟨rfl, hb⟩; have n1_ := Aside0.mk (below_step HB.out hb); clear HB; have HB := n1_; clear n1_ hb; rw [← NR.out]))
    go_ret
    exact ⟨rfl, HB.out⟩

/-! ### hlc_Right: function 36 -/
def hlc_Right.f (a0_0 : Int) (a0_1 : Int) : Option (Bool) := if a0_0 ≥ (-2305843009213693952) then (if a0_0 ≤ 2305843009213693952 then (if a0_1 ≥ 0 then (some (decide (a0_1 ≤ 1073741824))) else (some false)) else (some false)) else (some false)
set_option maxHeartbeats 8000000 in
set_option maxRecDepth 100000 in
theorem hlc_Right.calls (a0_0 : Int) (a0_1 : Int) (r : Bool) (w : World) (h : hlc_Right.f a0_0 a0_1 = some r) :
  Calls Try.prog 36 #[.agg #[.int .i64 a0_0, .int .i64 a0_1]] w fun e w' => e = .returned (.bool r) ∧ Below w.heap.size w w' := by
 have hu28 := Try.underlying28
 have HB := mk (Below.refl w.heap.size w)
 have H : (if a0_0 ≥ (-2305843009213693952) then (if a0_0 ≤ 2305843009213693952 then (if a0_1 ≥ 0 then (some (decide (a0_1 ≤ 1073741824))) else (some false)) else (some false)) else (some false)) = some r := h
 clear h
 by_cases c2 : a0_0 ≥ (-2305843009213693952)
 ·rw [if_pos c2] at H
  have c2b0 : decide ((-2305843009213693952) ≤ a0_0) = true := decide_eq_true c2
  clear c2
  by_cases c3 : a0_0 ≤ 2305843009213693952
  ·rw [if_pos c3] at H
   have c3b0 : decide (a0_0 ≤ 2305843009213693952) = true := decide_eq_true c3
   clear c3
   by_cases c4 : a0_1 ≥ 0
   ·rw [if_pos c4] at H
    have c4b0 : decide (0 ≤ a0_1) = true := decide_eq_true c4
    clear c4
    obtain rfl := Option.some.inj H
    go_enter Try.func36, Try.ntmps36
    go_wp2_with (first | ((with_reducible refine gate_dst (N := 1) rfl ?_); refine box_event ?hg (N := 1) ?hd (cs := #[.int .i64 a0_0, .int .i64 a0_1]) (t := 28) ?hr ?_; (case hd => rfl); (case hg => rfl); (case hr => first | (go_simp; done) | (go_simp; rfl)); intro g0_ hg w5 hbox hb; have n0_ := mk (below_step (by repeat first | exact HB.1 | apply pD | apply b1 | refine bT (by assumption) ?_ | apply bA) hb); have n1_ := mk (hbox); have n2_ := gl hg (by repeat first | exact HB.1 | apply pD | apply b1 | refine bT (by assumption) ?_ | apply bA); have n3_ := gl hg (by repeat first | exact HB.1 | apply pD | apply b1 | refine bT (by assumption) ?_ | apply bA); clear HB; have HB := n0_; have B0_ := n1_; have W0_ := n2_; have E0_ := n3_; clear n0_ n1_ n2_ n3_; clear hb hbox hg; have hcz6_0 : w5.cell? ⟨g0_, 0, none⟩ = some (.int .i64 a0_0) := bQ B0_.1 0; have hcz6_1 : w5.cell? ⟨g0_, 1, none⟩ = some (.int .i64 a0_1) := bQ B0_.1 1; have hfz6_0 := blk_frozen B0_.1 0; have hfz6_1 := blk_frozen B0_.1 1))
    go_ret
    exact ⟨by first | rfl | (simp [errW_none, errW_some] <;> rfl) | (simp [*, errW_none, errW_some] <;> rfl), by repeat (first | (with_reducible first | exact HB.1 | apply bA | apply pD | apply b1 | apply bS E0_.1) | exact HB.1)⟩
   rw [if_neg c4] at H
   have c4b0 : decide (0 ≤ a0_1) = false := decide_eq_false c4
   clear c4
   obtain rfl := Option.some.inj H
   go_enter Try.func36, Try.ntmps36
   go_wp2_with (first | ((with_reducible refine gate_dst (N := 1) rfl ?_); refine box_event ?hg (N := 1) ?hd (cs := #[.int .i64 a0_0, .int .i64 a0_1]) (t := 28) ?hr ?_; (case hd => rfl); (case hg => rfl); (case hr => first | (go_simp; done) | (go_simp; rfl)); intro g0_ hg w7 hbox hb; have n0_ := mk (below_step (by repeat first | exact HB.1 | apply pD | apply b1 | refine bT (by assumption) ?_ | apply bA) hb); have n1_ := mk (hbox); have n2_ := gl hg (by repeat first | exact HB.1 | apply pD | apply b1 | refine bT (by assumption) ?_ | apply bA); have n3_ := gl hg (by repeat first | exact HB.1 | apply pD | apply b1 | refine bT (by assumption) ?_ | apply bA); clear HB; have HB := n0_; have B0_ := n1_; have W0_ := n2_; have E0_ := n3_; clear n0_ n1_ n2_ n3_; clear hb hbox hg; have hcz8_0 : w7.cell? ⟨g0_, 0, none⟩ = some (.int .i64 a0_0) := bQ B0_.1 0; have hcz8_1 : w7.cell? ⟨g0_, 1, none⟩ = some (.int .i64 a0_1) := bQ B0_.1 1; have hfz8_0 := blk_frozen B0_.1 0; have hfz8_1 := blk_frozen B0_.1 1))
   go_ret
   exact ⟨by first | rfl | (simp [errW_none, errW_some] <;> rfl) | (simp [*, errW_none, errW_some] <;> rfl), by repeat (first | (with_reducible first | exact HB.1 | apply bA | apply pD | apply b1 | apply bS E0_.1) | exact HB.1)⟩
  rw [if_neg c3] at H
  have c3b0 : decide (a0_0 ≤ 2305843009213693952) = false := decide_eq_false c3
  clear c3
  obtain rfl := Option.some.inj H
  go_enter Try.func36, Try.ntmps36
  go_wp2_with (first | ((with_reducible refine gate_dst (N := 1) rfl ?_); refine box_event ?hg (N := 1) ?hd (cs := #[.int .i64 a0_0, .int .i64 a0_1]) (t := 28) ?hr ?_; (case hd => rfl); (case hg => rfl); (case hr => first | (go_simp; done) | (go_simp; rfl)); intro g0_ hg w9 hbox hb; have n0_ := mk (below_step (by repeat first | exact HB.1 | apply pD | apply b1 | refine bT (by assumption) ?_ | apply bA) hb); have n1_ := mk (hbox); have n2_ := gl hg (by repeat first | exact HB.1 | apply pD | apply b1 | refine bT (by assumption) ?_ | apply bA); have n3_ := gl hg (by repeat first | exact HB.1 | apply pD | apply b1 | refine bT (by assumption) ?_ | apply bA); clear HB; have HB := n0_; have B0_ := n1_; have W0_ := n2_; have E0_ := n3_; clear n0_ n1_ n2_ n3_; clear hb hbox hg; have hcz10_0 : w9.cell? ⟨g0_, 0, none⟩ = some (.int .i64 a0_0) := bQ B0_.1 0; have hfz10_0 := blk_frozen B0_.1 0))
  go_ret
  exact ⟨by first | rfl | (simp [errW_none, errW_some] <;> rfl) | (simp [*, errW_none, errW_some] <;> rfl), by repeat (first | (with_reducible first | exact HB.1 | apply bA | apply pD | apply b1 | apply bS E0_.1) | exact HB.1)⟩
 rw [if_neg c2] at H
 have c2b0 : decide ((-2305843009213693952) ≤ a0_0) = false := decide_eq_false c2
 clear c2
 obtain rfl := Option.some.inj H
 go_enter Try.func36, Try.ntmps36
 go_wp2_with (first | ((with_reducible refine gate_dst (N := 1) rfl ?_); refine box_event ?hg (N := 1) ?hd (cs := #[.int .i64 a0_0, .int .i64 a0_1]) (t := 28) ?hr ?_; (case hd => rfl); (case hg => rfl); (case hr => first | (go_simp; done) | (go_simp; rfl)); intro g0_ hg w11 hbox hb; have n0_ := mk (below_step (by repeat first | exact HB.1 | apply pD | apply b1 | refine bT (by assumption) ?_ | apply bA) hb); have n1_ := mk (hbox); have n2_ := gl hg (by repeat first | exact HB.1 | apply pD | apply b1 | refine bT (by assumption) ?_ | apply bA); have n3_ := gl hg (by repeat first | exact HB.1 | apply pD | apply b1 | refine bT (by assumption) ?_ | apply bA); clear HB; have HB := n0_; have B0_ := n1_; have W0_ := n2_; have E0_ := n3_; clear n0_ n1_ n2_ n3_; clear hb hbox hg; have hcz12_0 : w11.cell? ⟨g0_, 0, none⟩ = some (.int .i64 a0_0) := bQ B0_.1 0; have hfz12_0 := blk_frozen B0_.1 0))
 go_ret
 exact ⟨by first | rfl | (simp [errW_none, errW_some] <;> rfl) | (simp [*, errW_none, errW_some] <;> rfl), by repeat (first | (with_reducible first | exact HB.1 | apply bA | apply pD | apply b1 | apply bS E0_.1) | exact HB.1)⟩

/-! words for walks by hand -/
theorem hx.gb_below {w W W1 : World} {g : Nat} (h : w.grownBy W (some g)) (hb : Below W.heap.size W W1) : w.grownBy W1 (some g) := ⟨hb.os.trans h.os, hb.tape.trans h.tape, hb.output.trans h.output, Nat.le_trans h.size hb.size, fun k hk hn => (hb.block k (Nat.lt_of_lt_of_le hk h.size)).trans (h.block k hk hn)⟩
theorem hx.gb_drew {w W : World} {g : Nat} (h : w.grownBy W (some g)) : w.grownBy W.drew (some g) := ⟨h.os, h.tape, h.output, h.size, h.block⟩
theorem hx.gb_set {w W : World} {g j : Nat} {v : Value} (h : w.grownBy W (some g)) : w.grownBy (W.setCell ⟨g, j, none⟩ v) (some g) := by
 have hz : (W.setCell ⟨g, j, none⟩ v).heap.size = W.heap.size := by simp [World.setCell]
 exact ⟨h.os, h.tape, h.output, by rw [hz]; exact h.size, fun k hk hn => (Below.heap_setCell W _ v k (fun e => hn (by rw [e]))).trans (h.block k hk hn)⟩
theorem hx.gb_setl {w W : World} {g b j : Nat} {v : Value} (h : w.grownBy W (some g)) (hb : w.heap.size ≤ b) : w.grownBy (W.setCell ⟨b, j, none⟩ v) (some g) := by
 have hz : (W.setCell ⟨b, j, none⟩ v).heap.size = W.heap.size := by simp [World.setCell]
 exact ⟨h.os, h.tape, h.output, by rw [hz]; exact h.size, fun k hk hn => (Below.heap_setCell W _ v k (by show k ≠ b; omega)).trans (h.block k hk hn)⟩
theorem hx.add2 (k : Nat) (A : Option Addr) (c : Nat) (x y r : Int) (w : World) (hr : Kd.C (Kd.int .i64) w A [x, y].length [x, y]) (hc : [x, y].length ≤ c) (h : sat_Add.f k [x, y] = some r) : Calls Try.prog 33 #[.slice A 2 c] w fun e w' => e = .returned (.int .i64 r) ∧ Drawn0 w w' := sat_Add.calls k A c [x, y] r w hr hc h
theorem hx.add2l (k : Nat) (A : Option Addr) (c : Nat) (x y r : Int) (w : World) (hr : Kd.C (Kd.int .i64) w A [x, y].length [x, y]) (hc : 2 ≤ c) (h : sat_Add.f k [x, y] = some r) : Calls Try.prog 33 #[.slice A 2 c] w fun e w' => e = .returned (.int .i64 r) ∧ Drawn0 w w' := sat_Add.calls k A c [x, y] r w hr hc h
theorem hx.fl (x0 x1 : Value) (w : World) : (Instr.field 78 (.agg #[x0, x1]) 0).run Try.prog w = .ok (.agg #[x0, x1]) w := by kernel_rfl
attribute [local go_sem] hx.fl
theorem hx.tight {α : Type} {d : Kd α} {e base : Nat} {w : World} {ok : Nat → Prop} {v : Value} {xs : List α} (hE : d.E = []) (h : d.R e w base ok v xs) : d.R e w base (fun k => some k = v.ownBlock) v xs := by
 obtain ⟨h0, inner, ho, hr⟩ := h
 refine ⟨fun k hk => hk.symm, inner, ho, hr.imp_ (fun p c hp => d.M_mono (fun k hk => ?_) (d.M_bound hp))⟩
 obtain ⟨_, _, _, q, hq, _⟩ := hk
 rw [hE] at hq
 cases hq
theorem hx.away {α : Type} {d : Kd α} {e base : Nat} {w : World} {ok : Nat → Prop} {v : Value} {xs : List α} (h : d.R e w base ok v xs) {g t : Nat} {cells : Array Value} (hb : w.heap[g]? = some (.cells cells t (0, 0))) (ht : e ≠ t) : ∀ k, some k = v.ownBlock → k ≠ g := fun k hk q => Kd.R_ne h hb ht (q ▸ hk)

end Go.Proofs.Ytigkjbaclpklpaa.Q
