/- The calls of these Go functions answer what the Lean functions beside them answer; written by a program (wip/pr2.py, out of the print of the loaded program); under no condition but those that stand in the theorems. -/
import Derived.Test.YtigpigfoahlfjaaQx0
import Derived.Test.YtigpigfoahlfjaaQx4
namespace Go.Proofs.Ytigpigfoahlfjaa.Q
open Go.RowKit Go.Proofs.YtigpigfoahlfjaaW.PrintWords Go.Proofs.YtigpigfoahlfjaaW.PrintLast Go.Proofs.YtigpigfoahlfjaaW.PrintMore
attribute [local go_sem] max2_int min2_int max_two min_two max_three min_three max_four min_four   -- for this text's walks alone
set_option linter.unusedVariables false
set_option linter.unusedSimpArgs false

/-! ### span_Meet: function 55 -/
def span_Meet.g (p : Int × Int) (s : S25) : Int × Int := (mx p.1 s.f0, mn p.2 s.f1)
def span_Meet.f (k : Nat) (l0 : List (S25)) : Option (Int × Int) := span_Of.f k (l0.foldl span_Meet.g ((-2305843009213693952), 2305843009213693952)).1 (l0.foldl span_Meet.g ((-2305843009213693952), 2305843009213693952)).2
theorem span_Meet.mono : ∀ a0 k, LeO (span_Meet.f k a0) (span_Meet.f (k + 1) a0) := fun a0 k => span_Of.mono _ _ k
theorem span_Meet.next (l : List (S25)) (p : Int × Int) (x : Int) (h0 : 0 ≤ x) (h1 : x < (l.length : Int)) :
    (l.take (x + 1).toNat).foldl span_Meet.g p = span_Meet.g ((l.take x.toNat).foldl span_Meet.g p) (rd_T25 l x) := by
  have hl : x.toNat < l.length := by omega
  rw [show (x + 1).toNat = x.toNat + 1 from by omega, List.take_succ_eq_append_getElem hl, List.foldl_append]
  simp only [List.foldl_cons, List.foldl_nil]
  congr 1
  simp [rd_T25, List.getD_eq_getElem?_getD, List.getElem?_eq_getElem hl]
set_option maxHeartbeats 8000000 in
set_option maxRecDepth 100000 in
theorem span_Meet.calls (k : Nat) (A0 : Option Addr) (c0 : Nat) (l0 : List (S25)) (r1 : Int) (r2 : Int) (w : World) (hr0 : Kd.C k25 w A0 l0.length l0) (hc0 : l0.length ≤ c0) (h : span_Meet.f k l0 = some (r1, r2)) :
    Calls Try.prog 55 #[.slice A0 l0.length c0] w fun e w' => e = .returned (.agg #[.int .i64 r1, .int .i64 r2]) ∧ Below w.heap.size w w' := by
  have hu25 := Try.underlying25
  have HR0 := Aside0.mk hr0
  have HC0 := Aside0.mk hc0
  clear hr0 hc0
  have HB := Aside0.mk (Below.refl w.heap.size w)
  have A1 := Aside0.mk h
  clear h
  go_enter Try.func55, Try.ntmps55
  go_wp2_with (first | ((with_reducible refine gate_dst (N := 2) rfl ?_); refine box_event ?hg (N := 2) ?hd (cs := #[.int .i64 0, .int .i64 0]) (t := 25) ?hr ?_; (case hd => rfl); (case hg => rfl); (case hr => first | (go_simp; done) | (go_simp; rfl)); intro gb2 hg w2 hbox hb; have n0_ := Aside0.mk (below_step (by repeat (first | (with_reducible first | exact HB.out | apply below_alloc | apply pw_below_drewN | apply below_drew1) | exact HB.out)) hb); have n1_ := Aside0.mk (hbox); have n2_ := Aside0.mk ((by rw [hg]; exact (below_size (by repeat (first | (with_reducible first | exact HB.out | apply below_alloc | apply pw_below_drewN | apply below_drew1) | exact HB.out))) : w.heap.size ≤ gb2)); clear HB; have HB := n0_; have BK2 := n1_; have GE2 := n2_; clear n0_ n1_ n2_; clear hb hbox hg) | (go_at_call 62; (with_reducible refine (span_All.calls (-2305843009213693952) 2305843009213693952 _ rfl).mono ?_); rintro e w3 ⟨rfl, hb⟩; have n0_ := Aside0.mk (blk_below (g := gb2) (o := .cells #[.int .i64 0, .int .i64 0] 25 (0, 0)) (by (with_reducible repeat (first | refine blk_drewN ?_ _ | refine blk_drew ?_ | refine blk_alloc ?_ _)); exact BK2.out) hb); have n1_ := Aside0.mk (below_step (by repeat (first | (with_reducible first | exact HB.out | apply below_alloc | apply pw_below_drewN | apply below_drew1 | refine below_set ?_ GE2.out) | exact HB.out)) hb); clear BK2 HB; have BK2 := n0_; have HB := n1_; clear n0_ n1_; clear hb) | ((with_reducible refine gate_dst (N := 3) rfl ?_); refine box_event ?hg (N := 3) ?hd (cs := #[.int .i64 0, .int .i64 0]) (t := 25) ?hr ?_; (case hd => rfl); (case hg => rfl); (case hr => first | (go_simp; done) | (go_simp; rfl)); intro gb3 hg w4 hbox hb; have n0_ := Aside0.mk (blk_below (g := gb2) (o := .cells #[.int .i64 0, .int .i64 0] 25 (0, 0)) (by (with_reducible repeat (first | refine blk_drewN ?_ _ | refine blk_drew ?_ | refine blk_alloc ?_ _)); exact BK2.out) hb); have n1_ := Aside0.mk (below_step (by repeat (first | (with_reducible first | exact HB.out | apply below_alloc | apply pw_below_drewN | apply below_drew1 | refine below_set ?_ GE2.out) | exact HB.out)) hb); have n2_ := Aside0.mk (hbox); have n3_ := Aside0.mk ((by rw [hg]; exact (below_size (by repeat (first | (with_reducible first | exact HB.out | apply below_alloc | apply pw_below_drewN | apply below_drew1 | refine below_set ?_ GE2.out) | exact HB.out))) : w.heap.size ≤ gb3)); have n4_ := Aside0.mk ((by rw [hg]; exact Nat.ne_of_lt (blk_lt (g := gb2) (o := .cells #[.int .i64 0, .int .i64 0] 25 (0, 0)) (by (with_reducible repeat (first | refine blk_drewN ?_ _ | refine blk_drew ?_ | refine blk_alloc ?_ _)); exact BK2.out)) : gb2 ≠ gb3)); clear BK2 HB; have BK2 := n0_; have HB := n1_; have BK3 := n2_; have GE3 := n3_; have NB2_3 := n4_; clear n0_ n1_ n2_ n3_ n4_; clear hb hbox hg; have hcz_0 : w4.cell? ⟨gb3, 0, none⟩ = some (.int .i64 0) := (blk_cell BK3.out 0).trans rfl; have hcz_1 : w4.cell? ⟨gb3, 1, none⟩ = some (.int .i64 0) := (blk_cell BK3.out 1).trans rfl; have hfz_0 := blk_frozen BK3.out 0; have hfz_1 := blk_frozen BK3.out 1))
  clear hcz_0 hcz_1 hfz_0 hfz_1
  go_loopg [9] l0.length (fun kq v9 w' => ∃ (x : Int), v9 = .int .i64 x ∧ Aside0 (0 ≤ x ∧ x + kq = l0.length) ∧ Aside0 (w'.heap[gb2]? = some (.cells #[.int .i64 0, .int .i64 0] 25 (0, 0))) ∧ Aside0 (w'.heap[gb3]? = some (.cells #[.int .i64 ((l0.take x.toNat).foldl span_Meet.g ((-2305843009213693952), 2305843009213693952)).1, .int .i64 ((l0.take x.toNat).foldl span_Meet.g ((-2305843009213693952), 2305843009213693952)).2] 25 (0, 0))) ∧ Aside0 (Below w.heap.size w w'))
  case atStart => exact ⟨0, rfl, ⟨Int.le_refl _, by omega⟩, ⟨by (with_reducible repeat (first | refine blk_drewN ?_ _ | refine blk_drew ?_ | refine blk_alloc ?_ _)); refine blk_far ?_ NB2_3.out _; (with_reducible repeat (first | refine blk_drewN ?_ _ | refine blk_drew ?_ | refine blk_alloc ?_ _)); refine blk_far ?_ NB2_3.out _; exact BK2.out⟩, ⟨by refine blk_put (cs := #[.int .i64 (-2305843009213693952), .int .i64 0]) ?_ 1 _ rfl; refine blk_put (cs := #[.int .i64 0, .int .i64 0]) ?_ 0 _ rfl; exact BK3.out⟩, ⟨by repeat (first | (with_reducible first | exact HB.out | apply below_alloc | apply pw_below_drewN | apply below_drew1 | refine below_set ?_ GE2.out | refine below_set ?_ GE3.out) | exact HB.out)⟩⟩
  case round =>
    have hn23 := NB2_3
    clear BK2 BK3 HB
    obtain ⟨x, rfl, HX, BK2, BK3, HB⟩ := hrel
    have hx0 : 0 ≤ x := HX.out.1
    obtain ⟨p, HP⟩ : ∃ p, p = (l0.take x.toNat).foldl span_Meet.g ((-2305843009213693952), 2305843009213693952) := ⟨_, rfl⟩
    have NP := Aside0.mk HP
    rw [← HP] at BK3
    clear HP
    obtain ⟨pa, pb⟩ := p
    by_cases hlt : x < (l0.length : Int)
    · cases gk with
      | zero => exact absurd HX.out.2 (by omega)
      | succ gk =>
      have c1 : decide (x < (l0.length : Int)) = true := decide_eq_true hlt
      obtain ⟨ad, e1, hx1, hx2⟩ := at_T25 HR0.out x hx0 hlt
      cases e1
      replace hx1 := (HB.out.cell (World.block_lt_of_cell? w _ hx1)).trans hx1
      replace hx2 := (HB.out.cell (World.block_lt_of_cell? w _ hx2)).trans hx2
      obtain ⟨s, HS⟩ : ∃ s, s = rd_T25 l0 x := ⟨_, rfl⟩
      have NS := Aside0.mk HS
      rw [← HS] at hx1 hx2
      clear HS
      replace hx0 := eq_true hx0
      replace hlt := eq_true hlt
      go_wp2_with (first | ((with_reducible refine gate_dst (N := 5) rfl ?_); refine box_event ?hg (N := 5) ?hd (cs := #[.int .i64 0, .int .i64 0]) (t := 25) ?hr ?_; (case hd => rfl); (case hg => rfl); (case hr => first | (go_simp; done) | (go_simp; rfl)); intro gb5 hg w8 hbox hb; have n0_ := Aside0.mk (blk_below (g := gb2) (o := .cells #[.int .i64 0, .int .i64 0] 25 (0, 0)) BK2.out hb); have n1_ := Aside0.mk (blk_below (g := gb3) (o := .cells #[.int .i64 pa, .int .i64 pb] 25 (0, 0)) BK3.out hb); have n2_ := Aside0.mk (below_step HB.out hb); have n3_ := Aside0.mk hbox; have n4_ := Aside0.mk ((by rw [hg]; exact below_size HB.out) : w.heap.size ≤ gb5); have n5_ := Aside0.mk ((by rw [hg]; exact Nat.ne_of_lt (blk_lt BK2.out)) : gb2 ≠ gb5); have n6_ := Aside0.mk ((by rw [hg]; exact Nat.ne_of_lt (blk_lt BK3.out)) : gb3 ≠ gb5); clear BK2 BK3 HB; have BK2 := n0_; have BK3 := n1_; have HB := n2_; have BK5 := n3_; have GE5 := n4_; have NB2_5 := n5_; have NB3_5 := n6_; clear n0_ n1_ n2_ n3_ n4_ n5_ n6_; clear hb hbox hg; have hcz_0 : w8.cell? ⟨gb5, 0, none⟩ = some (.int .i64 0) := (blk_cell BK5.out 0).trans rfl; have hcz_1 : w8.cell? ⟨gb5, 1, none⟩ = some (.int .i64 0) := (blk_cell BK5.out 1).trans rfl; have hfz_0 := blk_frozen BK5.out 0; have hfz_1 := blk_frozen BK5.out 1))
      clear hcz_0 hcz_1 hfz_0 hfz_1 hx1 hx2
      have n0_ : Aside0 (((w8.setCell ⟨gb5, 0, none⟩ (.int .i64 s.f0)).setCell ⟨gb5, 1, none⟩ (.int .i64 s.f1)).heap[gb2]? = some (.cells #[.int .i64 0, .int .i64 0] 25 (0, 0))) := ⟨by refine blk_far ?_ NB2_5.out _; refine blk_far ?_ NB2_5.out _; exact BK2.out⟩
      have n1_ : Aside0 (((w8.setCell ⟨gb5, 0, none⟩ (.int .i64 s.f0)).setCell ⟨gb5, 1, none⟩ (.int .i64 s.f1)).heap[gb3]? = some (.cells #[.int .i64 pa, .int .i64 pb] 25 (0, 0))) := ⟨by refine blk_far ?_ NB3_5.out _; refine blk_far ?_ NB3_5.out _; exact BK3.out⟩
      have n2_ : Aside0 (((w8.setCell ⟨gb5, 0, none⟩ (.int .i64 s.f0)).setCell ⟨gb5, 1, none⟩ (.int .i64 s.f1)).heap[gb5]? = some (.cells #[.int .i64 s.f0, .int .i64 s.f1] 25 (0, 0))) := ⟨by refine blk_put (cs := #[.int .i64 s.f0, .int .i64 0]) ?_ 1 _ rfl; refine blk_put (cs := #[.int .i64 0, .int .i64 0]) ?_ 0 _ rfl; exact BK5.out⟩
      have n3_ : Aside0 (Below w.heap.size w ((w8.setCell ⟨gb5, 0, none⟩ (.int .i64 s.f0)).setCell ⟨gb5, 1, none⟩ (.int .i64 s.f1))) := ⟨by refine below_set ?_ GE5.out; refine below_set ?_ GE5.out; exact HB.out⟩
      clear BK2 BK3 BK5 HB
      generalize ((w8.setCell ⟨gb5, 0, none⟩ (.int .i64 s.f0)).setCell ⟨gb5, 1, none⟩ (.int .i64 s.f1)) = w9 at n0_ n1_ n2_ n3_ ⊢
      have hn35 := NB3_5.out
      have hn53 := (NB3_5.out).symm
      have h30 : w9.cell? ⟨gb3, 0, none⟩ = some (.int .i64 pa) := (blk_cell n1_.out 0).trans rfl
      have h31 : w9.cell? ⟨gb3, 1, none⟩ = some (.int .i64 pb) := (blk_cell n1_.out 1).trans rfl
      have h50 : w9.cell? ⟨gb5, 0, none⟩ = some (.int .i64 s.f0) := (blk_cell n2_.out 0).trans rfl
      have h51 : w9.cell? ⟨gb5, 1, none⟩ = some (.int .i64 s.f1) := (blk_cell n2_.out 1).trans rfl
      have f30 := blk_frozen n1_.out 0
      have f31 := blk_frozen n1_.out 1
      go_region
      clear h30 h31 h50 h51 f30 f31 hn35 hn53
      obtain ⟨ma, hma⟩ : ∃ m, m = mx pa s.f0 := ⟨_, rfl⟩
      obtain ⟨mb, hmb⟩ : ∃ m, m = mn pb s.f1 := ⟨_, rfl⟩
      have e1_ : (if pa < s.f0 then s.f0 else pa) = ma := hma.symm
      have e2_ : (if s.f1 < pb then s.f1 else pb) = mb := hmb.symm
      simp only [e1_, e2_]
      have NM := Aside0.mk (And.intro hma hmb)
      clear e1_ e2_ hma hmb
      go_wp2
      go_roundg gk
      case measure => omega
      case rel =>
        have h0 : 0 ≤ x := HX.out.1
        have h1 : x < (l0.length : Int) := by have := HX.out.2; omega
        have hm := HR0.out.2.1
        have hnx := span_Meet.next l0 ((-2305843009213693952), 2305843009213693952) x h0 h1
        rw [← NP.out, ← NS.out] at hnx
        have hnx2 : span_Meet.g (pa, pb) s = (ma, mb) := by rw [NM.out.1, NM.out.2]; rfl
        rw [hnx2] at hnx
        have hw : wrap64 (x + 1) = x + 1 := by unfold wrap64; omega
        refine ⟨x + 1, by first | rfl | rw [hw] | (simp only [i64_w]; rw [hw]), ⟨by omega, by have := HX.out.2; omega⟩, ⟨?_⟩, ⟨?_⟩, ⟨?_⟩⟩
        · refine blk_drew ?_; refine blk_far ?_ hn23.out _; refine blk_far ?_ hn23.out _; exact n0_.out
        · rw [hnx]; refine blk_drew ?_; refine blk_put (cs := #[.int .i64 ma, .int .i64 pb]) ?_ 1 _ rfl; refine blk_put (cs := #[.int .i64 pa, .int .i64 pb]) ?_ 0 _ rfl; exact n1_.out
        · exact below_drew1 (below_set (below_set n3_.out GE3.out) GE3.out)
    · have hN : (l0.take x.toNat) = l0 := List.take_of_length_le (by have := HX.out; omega)
      rw [hN] at NP
      have h2 : span_Of.f k pa pb = some (r1, r2) := by have h3 := A1.out; unfold span_Meet.f at h3; rw [← NP.out] at h3; exact h3
      have A2 := Aside0.mk h2
      clear h2 hN
      have c1 : decide (x < (l0.length : Int)) = false := decide_eq_false hlt
      have hlt2 : (x < (l0.length : Int)) = False := eq_false hlt
      clear hlt
      have h30 : wr.cell? ⟨gb3, 0, none⟩ = some (.int .i64 pa) := (blk_cell BK3.out 0).trans rfl
      have h31 : wr.cell? ⟨gb3, 1, none⟩ = some (.int .i64 pb) := (blk_cell BK3.out 1).trans rfl
      go_wp2_with (first | (go_at_call 63; (with_reducible refine (span_Of.calls k pa pb r1 r2 _ A2.out).mono ?_); rintro e w5 ⟨rfl, hb⟩; have n0_ := Aside0.mk (blk_below (g := gb2) (o := .cells #[.int .i64 0, .int .i64 0] 25 (0, 0)) BK2.out hb); have n1_ := Aside0.mk (below_step HB.out hb); clear BK2 HB BK3 h30 h31; have BK2 := n0_; have HB := n1_; clear n0_ n1_; clear hb; have hcz_0 : w5.cell? ⟨gb2, 0, none⟩ = some (.int .i64 0) := (blk_cell BK2.out 0).trans rfl; have hcz_1 : w5.cell? ⟨gb2, 1, none⟩ = some (.int .i64 0) := (blk_cell BK2.out 1).trans rfl; have hfz_0 := blk_frozen BK2.out 0; have hfz_1 := blk_frozen BK2.out 1))
      refine bodyPost_ret (results_cell_row rfl _ _ gb2 25 #[.int .i64 r1, .int .i64 r2] (0, 0) _ rfl (by refine blk_put (cs := #[.int .i64 r1, .int .i64 0]) ?_ 1 _ rfl; refine blk_put (cs := #[.int .i64 0, .int .i64 0]) ?_ 0 _ rfl; exact BK2.out) Try.underlying25 rfl (by kernel_rfl)) rfl ?_
      exact ⟨rfl, by refine below_set ?_ GE2.out; refine below_set ?_ GE2.out; exact HB.out⟩

end Go.Proofs.Ytigpigfoahlfjaa.Q
