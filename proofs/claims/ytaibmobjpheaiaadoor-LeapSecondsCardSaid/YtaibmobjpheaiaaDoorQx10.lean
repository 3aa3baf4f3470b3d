/- The calls of these Go functions answer what the Lean functions beside them answer; written by a program (wip/pr2.py, out of the print of the loaded program); under no condition but those that stand in the theorems. -/
import Derived.RangeFuncNested
import Derived.RangeFuncBound
import Derived.RangeFuncCalls
import Derived.RangeFuncLeaves
import Derived.RangeFuncFrom
import Derived.Shelf.Abstract
import Derived.Shelf.RegionOpen
import Derived.WalkKit
import Derived.OwnWalkIn
import Derived.TacticsInMore
import Derived.LoopNIn
import Derived.LoopIn
import Derived.Test.YtaibmobjpheaiaaDoorQx0
import Derived.Test.YtaibmobjpheaiaaDoorQx5
import Derived.Test.YtaibmobjpheaiaaDoorQx8
import Derived.Test.YtaibmobjpheaiaaDoorQx9
namespace Go.Proofs.YtaibmobjpheaiaaDoor.Q
open Go.RowKit Go.Proofs.YtaibmobjpheaiaaDoorW.PrintWords Go.Proofs.YtaibmobjpheaiaaDoorW.PrintLast Go.Proofs.YtaibmobjpheaiaaDoorW.PrintMore
attribute [local go_sem] max2_int min2_int max_two min_two max_three min_three max_four min_four   -- for this text's walks alone
set_option linter.unusedVariables false
set_option linter.unusedSimpArgs false

/-! ### leap_ToCount: function 15 -/
section
open Go.Shelf
attribute [local go_sem] Oper.semAt_some
def toc.o (l0 : List (S40)) (i : Nat) : Int := (0 :: l0.map (fun x => x.f1)).getD i 0
theorem toc.o0 (l0 : List (S40)) : toc.o l0 0 = 0 := rfl
theorem toc.os (l0 : List (S40)) (i : Nat) (h : i < l0.length) : toc.o l0 (i + 1) = (rd_T40 l0 (i : Int)).f1 := by
  simp [toc.o, rd_T40, List.getD_eq_getElem?_getD, List.getElem?_eq_getElem h]
set_option maxHeartbeats 8000000 in
set_option maxRecDepth 100000 in
theorem toc.iter (F : Fence) (n : Nat) (h44 : F.fn 44) (hro : F.round = none) (hn : 1 ≤ n) (l Bs n₀ : Nat) (A0 : Option Addr) (c0 : Nat) (l0 : List (S40)) (w W : World) (hr0 : Kd.C k40 w A0 l0.length l0) (hwW : Below w.heap.size w W) (hwn : w.heap.size ≤ n₀) (hnW : n₀ ≤ W.heap.size) (hBn : Bs < n₀) (hBs : W.cell? ⟨Bs, 0, none⟩ = some (.slice A0 l0.length c0))
    (J Jx : List Nat → World → Prop) (hJ : AbidesFrom W.heap.size J)
    (hY : ∀ pre i W1, J pre W1 → pre.length < l0.length + 1 → YieldAt F (n - 1) Tryd.prog l #[.int .i64 (toc.o l0 i)] W1 fun e W' =>
      (e = .returned (.bool true) ∧ J (pre ++ [i]) W' ∧ Below n₀ W1 W') ∨ (e = .returned (.bool false) ∧ Jx (pre ++ [i]) W'))
    (h0 : J [] W) :
    CallsIn F n Tryd.prog 44 #[.func (.yield l) #[] #[], .pointer (some ⟨Bs, 0, none⟩)] W fun e W' => (∃ v, e = .returned v) ∧
      ((∃ ys, ys = List.range (l0.length + 1) ∧ J ys W') ∨ (∃ pre, (∃ k, k ≤ l0.length + 1 ∧ pre = List.range k) ∧ Jx pre W')) := by
  refine callsIn_of_wp Tryd.func44 rfl h44 ?_ hro
  simp only [Tryd.ntmps44, List.size_toArray, List.length_cons, List.length_nil, Nat.reduceAdd, Nat.reduceSub, Array.replicate_succ, Array.replicate_zero, List.push_toArray, List.append_toArray, List.nil_append, List.cons_append]
  obtain ⟨fn, tmps, assign, body, hy, hR⟩ := hY [] 0 W h0 (by simp)
  rw [toc.o0] at hy
  gi_wp2
  refine hR.mono ?_
  rintro e W3 (⟨rfl, hJ3, hk3⟩ | ⟨rfl, hJx3⟩)
  · clear hy hR
    have hbs3 : W3.cell? ⟨Bs, 0, none⟩ = some (.slice A0 l0.length c0) := (hk3.cell (p := ⟨Bs, 0, none⟩) hBn).trans hBs
    gi_wp2
    gi_loopw [10] (fun v wr => ∃ k : Nat, k ≤ l0.length ∧ v = .int .i64 (k : Int) ∧ J (List.range (k + 1)) wr ∧ Below n₀ W wr)
      (fun v _ => l0.length - (intOf v).toNat)
    case atStart => exact ⟨0, Nat.zero_le _, rfl, hJ3, hk3⟩
    case round =>
      obtain ⟨k, hk, rfl, hJs, hnx⟩ := hrel
      have hm : l0.length ≤ 9223372036854775807 := hr0.2.1
      by_cases hlt : k < l0.length
      · have hil : (k : Int) < (l0.length : Int) := by omega
        obtain ⟨ad, e1, hx1, hx2⟩ := at_T40 hr0 (k : Int) (by omega) hil
        cases e1
        have hbl : Below w.heap.size w wr := hwW.trans (hnx.mono hwn)
        replace hx1 := (hbl.cell (World.block_lt_of_cell? w _ hx1)).trans hx1
        replace hx2 := (hbl.cell (World.block_lt_of_cell? w _ hx2)).trans hx2
        have ho := toc.os l0 k hlt
        obtain ⟨s, HS⟩ : ∃ s, s = rd_T40 l0 (k : Int) := ⟨_, rfl⟩
        rw [← HS] at hx1 hx2 ho
        clear HS
        obtain ⟨x0, x1⟩ := s
        simp only [Int.toNat_natCast] at hx1 hx2 ho
        obtain ⟨fn, tmps, assign, body, hy, hR⟩ := hY _ (k + 1) (wr.alloc (.cells #[.int .i64 x0, .int .i64 x1] 40 (0, 0))) (hJ _ _ _ none hJs (World.grownBy_alloc _ _ none) (fun r e => by cases e)) (by simp; omega)
        rw [ho] at hy
        gi_wp2
        refine hR.mono ?_
        rintro e W4 (⟨rfl, hJ4, hk4⟩ | ⟨rfl, hJx4⟩)
        · clear hy hR
          gi_wp2
          go_roundw
          case rel => exact ⟨k + 1, by omega, by simp, by rw [List.range_succ (n := k + 1)]; exact hJ4, hnx.trans (Below.trans ((Below.refl n₀ wr).alloc (by have := hnx.size; omega) _) hk4)⟩
          case measure => simp [intOf]; omega
        · gi_wp2
          refine bodyPost_ret (results_none rfl _ _ _) rfl ?_
          exact ⟨⟨_, rfl⟩, .inr ⟨_, ⟨k + 2, by omega, (List.range_succ (n := k + 1)).symm⟩, hJx4⟩⟩
      · obtain rfl : k = l0.length := by omega
        gi_wp2
        go_end0
        exact ⟨⟨_, rfl⟩, .inl ⟨_, rfl, hJs⟩⟩
  · gi_wp2
    refine bodyPost_ret (results_none rfl _ _ _) rfl ?_
    exact ⟨⟨_, rfl⟩, .inr ⟨_, ⟨1, by omega, rfl⟩, hJx3⟩⟩
theorem toc.size (w : World) (o : Obj) : (w.alloc o).heap.size = w.heap.size + 1 := by
  show (w.heap.push o).size = _
  simp
theorem toc.offsets (F : Fence) (n : Nat) (h32 : F.fn 32) (hro : F.round = none) (a : Option Addr) (len cap : Nat) (w : World) :
    CallsIn F n Tryd.prog 32 #[.slice a len cap] w fun e w' => e = .returned (.func (.func 44) #[] #[.pointer (some ⟨w.heap.size, 0, none⟩)]) ∧ w' = w.alloc (.cells #[.slice a len cap] 22 (0, 0)) := by
  refine callsIn_of_wp Tryd.func32 rfl h32 ?_ hro
  simp only [Tryd.ntmps32, List.size_toArray, List.length_cons, List.length_nil, Nat.reduceAdd, Nat.reduceSub, Array.replicate_succ, Array.replicate_zero, List.push_toArray, List.append_toArray, List.nil_append, List.cons_append]
  gi_wp2
  go_ret
  exact ⟨rfl, rfl⟩
theorem toc.keeps {B : Nat} {W W' : World} (h : Below W.heap.size W W') : KeepsFrom B W W' := ⟨h.size, fun k o _ hk _ => (h.block k (Array.getElem?_eq_some_iff.1 hk).1).trans hk⟩
def toc.same (t : Option (Int × Int × Int × Int × Int × Int × Int)) (y mo d ho mi se : Int) : Bool := match t with
  | some (t1, t2, t3, t4, t5, t6, e) => decide (e = 0) && (decide (t1 = y) && (decide (t2 = mo) && (decide (t3 = d) && (decide (t4 = ho) && (decide (t5 = mi) && decide (t6 = se))))))
  | none => false
def toc.first (k : Nat) (l0 : List (S40)) (u y mo d ho mi se : Int) : List Int → Int × Int
  | [] => (0, 30)
  | off :: os => if toc.same (leap_ToLabel.f k l0 (wrap64 (u + off))) y mo d ho mi se = true then (wrap64 (u + off), 0) else toc.first k l0 u y mo d ho mi se os
def toc.bad (ok : Bool) (ho mi se : Int) : Bool := !ok || (decide (ho < 0) || (decide (23 < ho) || (decide (mi < 0) || (decide (59 < mi) || (decide (se < 0) || decide (60 < se))))))
def toc.u (n ho mi se : Int) : Int := wrap64 (wrap64 (wrap64 (wrap64 (n * 86400) + wrap64 (ho * 3600)) + wrap64 (mi * 60)) + se)
def leap_ToCount.f (k : Nat) (l0 : List (S40)) (y mo d ho mi se : Int) : Option (Int × Int) :=
  (leap_Good.f k l0).bind fun g => if g = true then
    (civil_Day.f k y mo d).bind fun p => if toc.bad p.2 ho mi se = true then some (0, 30) else
      if ((0 :: l0.map (fun x => x.f1)).all fun off => (leap_ToLabel.f k l0 (wrap64 (toc.u p.1 ho mi se + off))).isSome) = true then some (toc.first k l0 (toc.u p.1 ho mi se) y mo d ho mi se (0 :: l0.map (fun x => x.f1))) else none
    else some (0, 31)
theorem toc.mem (l0 : List (S40)) (i : Nat) : toc.o l0 i ∈ (0 :: l0.map (fun x => x.f1)) := by
  unfold toc.o
  rw [List.getD_eq_getElem?_getD]
  by_cases h : i < (0 :: l0.map (fun x => x.f1)).length
  · rw [List.getElem?_eq_getElem h]; exact List.getElem_mem h
  · rw [List.getElem?_eq_none (by omega)]; exact List.mem_cons_self
theorem toc.list (l0 : List (S40)) : (0 :: l0.map (fun x => x.f1)) = (List.range (l0.length + 1)).map (toc.o l0) := by
  apply List.ext_getElem
  · simp
  · intro i h1 h2
    simp only [List.getElem_map, List.getElem_range]
    unfold toc.o
    rw [List.getD_eq_getElem?_getD, List.getElem?_eq_getElem h1, Option.getD_some]
theorem toc.first_none (k : Nat) (l0 : List (S40)) (u y mo d ho mi se : Int) : ∀ os : List Int, (∀ x ∈ os, toc.same (leap_ToLabel.f k l0 (wrap64 (u + x))) y mo d ho mi se = false) → toc.first k l0 u y mo d ho mi se os = (0, 30) := by
  intro os
  induction os with
  | nil => intro _; rfl
  | cons x xs ih =>
    intro h
    unfold toc.first
    rw [h x List.mem_cons_self, if_neg (by decide)]
    exact ih (fun z hz => h z (List.mem_cons_of_mem _ hz))
theorem toc.first_some (k : Nat) (l0 : List (S40)) (u y mo d ho mi se : Int) (last : Int) (rest : List Int) (h2 : toc.same (leap_ToLabel.f k l0 (wrap64 (u + last))) y mo d ho mi se = true) : ∀ ini : List Int, (∀ x ∈ ini, toc.same (leap_ToLabel.f k l0 (wrap64 (u + x))) y mo d ho mi se = false) → toc.first k l0 u y mo d ho mi se (ini ++ last :: rest) = (wrap64 (u + last), 0) := by
  intro ini
  induction ini with
  | nil => intro _; simp only [List.nil_append]; unfold toc.first; rw [h2, if_pos rfl]
  | cons x xs ih =>
    intro h
    simp only [List.cons_append]
    unfold toc.first
    rw [h x List.mem_cons_self, if_neg (by decide)]
    exact ih (fun z hz => h z (List.mem_cons_of_mem _ hz))
theorem toc.first_mono (k : Nat) (l0 : List (S40)) (u y mo d ho mi se : Int) : ∀ os : List Int, (∀ x ∈ os, leap_ToLabel.f (k + 1) l0 (wrap64 (u + x)) = leap_ToLabel.f k l0 (wrap64 (u + x))) → toc.first (k + 1) l0 u y mo d ho mi se os = toc.first k l0 u y mo d ho mi se os := by
  intro os
  induction os with
  | nil => intro _; rfl
  | cons x xs ih =>
    intro h
    unfold toc.first
    rw [h x List.mem_cons_self, ih (fun z hz => h z (List.mem_cons_of_mem _ hz))]
theorem leap_ToCount.mono : ∀ a0 a1 a2 a3 a4 a5 a6 k, LeO (leap_ToCount.f k a0 a1 a2 a3 a4 a5 a6) (leap_ToCount.f (k + 1) a0 a1 a2 a3 a4 a5 a6) := by
  intro l0 y mo d ho mi se k
  unfold leap_ToCount.f
  refine LeO.bind (leap_Good.mono _ _) (fun g => ?_)
  refine LeO.ite ?_ (LeO.refl _)
  refine LeO.bind (civil_Day.mono _ _ _ _) (fun p => ?_)
  refine LeO.ite (LeO.refl _) ?_
  intro r h
  by_cases ha : ((0 :: l0.map (fun x => x.f1)).all fun off => (leap_ToLabel.f k l0 (wrap64 (toc.u p.1 ho mi se + off))).isSome) = true
  · rw [if_pos ha] at h
    have hx : ∀ x ∈ (0 :: l0.map (fun x => x.f1)), leap_ToLabel.f (k + 1) l0 (wrap64 (toc.u p.1 ho mi se + x)) = leap_ToLabel.f k l0 (wrap64 (toc.u p.1 ho mi se + x)) := by
      intro x hx
      obtain ⟨t, ht⟩ := Option.isSome_iff_exists.mp (List.all_eq_true.mp ha x hx)
      rw [ht]
      exact leap_ToLabel.mono _ _ _ _ ht
    have ha2 : ((0 :: l0.map (fun x => x.f1)).all fun off => (leap_ToLabel.f (k + 1) l0 (wrap64 (toc.u p.1 ho mi se + off))).isSome) = true := by
      refine List.all_eq_true.mpr (fun x hx2 => ?_)
      rw [hx x hx2]
      exact List.all_eq_true.mp ha x hx2
    rw [if_pos ha2, toc.first_mono k l0 _ _ _ _ _ _ _ _ hx]
    exact h
  · rw [if_neg ha] at h
    cases h
theorem toc.resc (tm : Array Value) (g4 g5 : Nat) (x y : Int) (W : World) (h4 : tm.getD 4 undef = .pointer (some ⟨g4, 0, none⟩)) (h5 : tm.getD 5 undef = .pointer (some ⟨g5, 0, none⟩)) (c4 : W.cell? ⟨g4, 0, none⟩ = some (.int .i64 x)) (c5 : W.cell? ⟨g5, 0, none⟩ = some (.int .i64 y)) :
    (results Tryd.f15 tm).run Tryd.prog W = .ok (.tuple #[.int .i64 x, .int .i64 y]) W := by
  have h4' : tm[4]?.getD undef = .pointer (some ⟨g4, 0, none⟩) := by simpa using h4
  have h5' : tm[5]?.getD undef = .pointer (some ⟨g5, 0, none⟩) := by simpa using h5
  simp [results, Tryd.f15, go_sem, h4', h5', c4, c5]
theorem toc.res (tm : Array Value) (g4 g5 : Nat) (x y : Int) (W : World) (h4 : tm.getD 4 undef = .pointer (some ⟨g4, 0, none⟩)) (h5 : tm.getD 5 undef = .pointer (some ⟨g5, 0, none⟩)) (b4 : W.heap[g4]? = some (.cells #[.int .i64 x] 3 (0, 0))) (b5 : W.heap[g5]? = some (.cells #[.int .i64 y] 27 (0, 0))) :
    (results Tryd.f15 tm).run Tryd.prog W = .ok (.tuple #[.int .i64 x, .int .i64 y]) W := by
  have c4 : W.cell? ⟨g4, 0, none⟩ = some (.int .i64 x) := (blk_cell b4 0).trans rfl
  have c5 : W.cell? ⟨g5, 0, none⟩ = some (.int .i64 y) := (blk_cell b5 0).trans rfl
  have h4' : tm[4]?.getD undef = .pointer (some ⟨g4, 0, none⟩) := by simpa using h4
  have h5' : tm[5]?.getD undef = .pointer (some ⟨g5, 0, none⟩) := by simpa using h5
  simp [results, Tryd.f15, go_sem, h4', h5', c4, c5]
set_option maxHeartbeats 8000000 in
set_option maxRecDepth 100000 in
theorem leap_ToCount.calls (k : Nat) (A0 : Option Addr) (c0 : Nat) (l0 : List (S40)) (a1_0 a1_1 a1_2 a1_3 a1_4 a1_5 : Int) (r1 r2 : Int) (w : World) (hM : GM w) (hr0 : Kd.C k40 w A0 l0.length l0) (hc0 : l0.length ≤ c0) (h : leap_ToCount.f k l0 a1_0 a1_1 a1_2 a1_3 a1_4 a1_5 = some (r1, r2)) :
    Calls Tryd.prog 15 #[.slice A0 l0.length c0, .agg #[.int .i64 a1_0, .int .i64 a1_1, .int .i64 a1_2, .int .i64 a1_3, .int .i64 a1_4, .int .i64 a1_5]] w fun e w' => e = .returned (.tuple #[.int .i64 r1, .int .i64 r2]) ∧ Below w.heap.size w w' := by
  have HR0 := Aside0.mk hr0
  have HC0 := Aside0.mk hc0
  have HM := Aside0.mk hM
  have HB := Aside0.mk (Below.refl w.heap.size w)
  have A1 := Aside0.mk h
  clear hr0 hc0 hM h
  refine (callsIn_wide (n := 8)).1 ?_
  have hro : Fence.wide.round = none := rfl
  refine callsIn_of_wp_marks Tryd.func15 rfl trivial ?_ hro
  simp only [Tryd.ntmps15, List.size_toArray, List.length_cons, List.length_nil, Nat.reduceAdd, Nat.reduceSub, Array.replicate_succ, Array.replicate_zero, List.push_toArray, List.append_toArray, List.nil_append, List.cons_append]
  gi_wp2_with (fail)
  have n7_ : Aside0 (Below w.heap.size w ((((w.alloc (.cells #[.slice A0 l0.length c0] 22 (0, 0))).alloc (.cells #[.int .i64 a1_0, .int .i64 a1_1, .int .i64 a1_2, .int .i64 a1_3, .int .i64 a1_4, .int .i64 a1_5] 26 (0, 0))).alloc (.cells #[.int .i64 0] 3 (0, 0))).alloc (.cells #[.int .i64 0] 27 (0, 0)))) := ⟨by repeat (first | exact HB.out | apply below_alloc)⟩
  have n2_ : Aside0 (((((w.alloc (.cells #[.slice A0 l0.length c0] 22 (0, 0))).alloc (.cells #[.int .i64 a1_0, .int .i64 a1_1, .int .i64 a1_2, .int .i64 a1_3, .int .i64 a1_4, .int .i64 a1_5] 26 (0, 0))).alloc (.cells #[.int .i64 0] 3 (0, 0))).alloc (.cells #[.int .i64 0] 27 (0, 0))).heap[w.heap.size]? = some (.cells #[.slice A0 l0.length c0] 22 (0, 0))) := ⟨by repeat (first | exact blk_new _ _ | refine blk_alloc ?_ _)⟩
  have n3_ : Aside0 (((((w.alloc (.cells #[.slice A0 l0.length c0] 22 (0, 0))).alloc (.cells #[.int .i64 a1_0, .int .i64 a1_1, .int .i64 a1_2, .int .i64 a1_3, .int .i64 a1_4, .int .i64 a1_5] 26 (0, 0))).alloc (.cells #[.int .i64 0] 3 (0, 0))).alloc (.cells #[.int .i64 0] 27 (0, 0))).heap[w.heap.size + 1]? = some (.cells #[.int .i64 a1_0, .int .i64 a1_1, .int .i64 a1_2, .int .i64 a1_3, .int .i64 a1_4, .int .i64 a1_5] 26 (0, 0))) := ⟨by rw [← toc.size w (.cells #[.slice A0 l0.length c0] 22 (0, 0))]; repeat (first | exact blk_new _ _ | refine blk_alloc ?_ _)⟩
  have n4_ : Aside0 (((((w.alloc (.cells #[.slice A0 l0.length c0] 22 (0, 0))).alloc (.cells #[.int .i64 a1_0, .int .i64 a1_1, .int .i64 a1_2, .int .i64 a1_3, .int .i64 a1_4, .int .i64 a1_5] 26 (0, 0))).alloc (.cells #[.int .i64 0] 3 (0, 0))).alloc (.cells #[.int .i64 0] 27 (0, 0))).heap[w.heap.size + 1 + 1]? = some (.cells #[.int .i64 0] 3 (0, 0))) := ⟨by rw [← toc.size w (.cells #[.slice A0 l0.length c0] 22 (0, 0)), ← toc.size _ (.cells #[.int .i64 a1_0, .int .i64 a1_1, .int .i64 a1_2, .int .i64 a1_3, .int .i64 a1_4, .int .i64 a1_5] 26 (0, 0))]; repeat (first | exact blk_new _ _ | refine blk_alloc ?_ _)⟩
  have n5_ : Aside0 (((((w.alloc (.cells #[.slice A0 l0.length c0] 22 (0, 0))).alloc (.cells #[.int .i64 a1_0, .int .i64 a1_1, .int .i64 a1_2, .int .i64 a1_3, .int .i64 a1_4, .int .i64 a1_5] 26 (0, 0))).alloc (.cells #[.int .i64 0] 3 (0, 0))).alloc (.cells #[.int .i64 0] 27 (0, 0))).heap[w.heap.size + 1 + 1 + 1]? = some (.cells #[.int .i64 0] 27 (0, 0))) := ⟨by rw [← toc.size w (.cells #[.slice A0 l0.length c0] 22 (0, 0)), ← toc.size _ (.cells #[.int .i64 a1_0, .int .i64 a1_1, .int .i64 a1_2, .int .i64 a1_3, .int .i64 a1_4, .int .i64 a1_5] 26 (0, 0)), ← toc.size _ (.cells #[.int .i64 0] 3 (0, 0))]; exact blk_new _ _⟩
  clear HB
  generalize ((((w.alloc (.cells #[.slice A0 l0.length c0] 22 (0, 0))).alloc (.cells #[.int .i64 a1_0, .int .i64 a1_1, .int .i64 a1_2, .int .i64 a1_3, .int .i64 a1_4, .int .i64 a1_5] 26 (0, 0))).alloc (.cells #[.int .i64 0] 3 (0, 0))).alloc (.cells #[.int .i64 0] 27 (0, 0))) = wA at n2_ n3_ n4_ n5_ n7_ ⊢
  have G5 : Aside0 (w.heap.size ≤ w.heap.size + 1 + 1 + 1 ∧ w.heap.size ≤ w.heap.size + 1 + 1 ∧ w.heap.size + 1 + 1 ≠ w.heap.size + 1 + 1 + 1) := ⟨by omega⟩
  have GE2 : Aside0 (w.heap.size ≤ w.heap.size) := ⟨by omega⟩
  generalize w.heap.size + 1 + 1 + 1 = g5 at n5_ G5 ⊢
  generalize w.heap.size + 1 + 1 = g4 at n4_ G5 ⊢
  generalize w.heap.size + 1 = g3 at n3_ ⊢
  obtain ⟨g2, hg2⟩ : ∃ g, g = w.heap.size := ⟨_, rfl⟩
  rw [← hg2] at n2_
  have h1 := A1.out
  unfold leap_ToCount.f at h1
  clear A1
  replace h1 := Option.bind_eq_some_iff.mp h1
  obtain ⟨g, hg, h1⟩ := h1
  have A2 := Aside0.mk hg
  have A3 := Aside0.mk h1
  clear hg h1
  rw [show (Value.pointer (some ({ block := w.heap.size, off := 0 } : Addr))) = Value.pointer (some ({ block := g2, off := 0 } : Addr)) from by rw [hg2]]
  have NG2 := Aside0.mk hg2
  clear hg2
  refine ⟨trivial, ?_⟩
  refine (callsIn_wide.2 (leap_Good.calls k A0 c0 l0 g _ (Kd.C_below HR0.out n7_.out) HC0.out A2.out)).mono ?_
  rintro e w5 ⟨rfl, hb⟩
  have m2_ := Aside0.mk (blk_below n2_.out hb)
  have m3_ := Aside0.mk (blk_below n3_.out hb)
  have m4_ := Aside0.mk (blk_below n4_.out hb)
  have m5_ := Aside0.mk (blk_below n5_.out hb)
  have m7_ := Aside0.mk (below_step n7_.out hb)
  clear n2_ n3_ n4_ n5_ n7_ hb
  have c40 : w5.cell? ⟨g4, 0, none⟩ = some (.int .i64 0) := (blk_cell m4_.out 0).trans rfl
  have c50 : w5.cell? ⟨g5, 0, none⟩ = some (.int .i64 0) := (blk_cell m5_.out 0).trans rfl
  have f40 := blk_frozen m4_.out 0
  have f50 := blk_frozen m5_.out 0
  cases g with
  | false =>
    have h1 := A3.out
    rw [if_neg (by decide)] at h1
    have h2 := Option.some.inj h1
    simp only [Prod.mk.injEq] at h2
    obtain ⟨rfl, rfl⟩ := h2
    clear A3 h1
    have hne45 := G5.out.2.2
    have hne54 := (G5.out.2.2).symm
    gi_wp2
    refine ⟨.tuple #[.int .i64 0, .int .i64 31], toc.res _ g4 g5 0 31 _ rfl rfl (by refine blk_far ?_ hne45 _; refine blk_put (cs := #[.int .i64 0]) ?_ 0 _ rfl; exact m4_.out) (by refine blk_put (cs := #[.int .i64 0]) ?_ 0 _ rfl; refine blk_far ?_ hne54 _; exact m5_.out), rfl, by refine below_set ?_ G5.out.1; refine below_set ?_ G5.out.2.1; exact m7_.out⟩
  | true =>
    have h1 := A3.out
    rw [if_pos rfl] at h1
    clear A3
    replace h1 := Option.bind_eq_some_iff.mp h1
    obtain ⟨⟨n, ok⟩, hg, h1⟩ := h1
    have A4 := Aside0.mk hg
    have A5 := Aside0.mk h1
    clear hg h1
    have c30 : w5.cell? ⟨g3, 0, none⟩ = some (.int .i64 a1_0) := (blk_cell m3_.out 0).trans rfl
    have c31 : w5.cell? ⟨g3, 1, none⟩ = some (.int .i64 a1_1) := (blk_cell m3_.out 1).trans rfl
    have c32 : w5.cell? ⟨g3, 2, none⟩ = some (.int .i64 a1_2) := (blk_cell m3_.out 2).trans rfl
    gi_wp2_with (fail)
    refine ⟨trivial, ?_⟩
    refine (callsIn_wide.2 (civil_Day.calls k a1_0 a1_1 a1_2 n ok _ (GM.below HM.out m7_.out) A4.out)).mono ?_
    rintro e w6 ⟨rfl, hb⟩
    have n2_ := Aside0.mk (blk_below m2_.out hb)
    have n3_ := Aside0.mk (blk_below m3_.out hb)
    have n4_ := Aside0.mk (blk_below m4_.out hb)
    have n5_ := Aside0.mk (blk_below m5_.out hb)
    have n7_ := Aside0.mk (below_step m7_.out hb)
    clear m2_ m3_ m4_ m5_ m7_ hb c30 c31 c32 c40 c50 f40 f50
    have c40 : w6.cell? ⟨g4, 0, none⟩ = some (.int .i64 0) := (blk_cell n4_.out 0).trans rfl
    have c50 : w6.cell? ⟨g5, 0, none⟩ = some (.int .i64 0) := (blk_cell n5_.out 0).trans rfl
    have f40 := blk_frozen n4_.out 0
    have f50 := blk_frozen n5_.out 0
    have c33 : w6.cell? ⟨g3, 3, none⟩ = some (.int .i64 a1_3) := (blk_cell n3_.out 3).trans rfl
    have c34 : w6.cell? ⟨g3, 4, none⟩ = some (.int .i64 a1_4) := (blk_cell n3_.out 4).trans rfl
    have c35 : w6.cell? ⟨g3, 5, none⟩ = some (.int .i64 a1_5) := (blk_cell n3_.out 5).trans rfl
    have hne45 := G5.out.2.2
    have hne54 := (G5.out.2.2).symm
    have badway : toc.bad ok a1_3 a1_4 a1_5 = true → r1 = 0 ∧ r2 = 30 := by
      intro hb
      have h1 := A5.out
      rw [if_pos hb] at h1
      have h2 := Option.some.inj h1
      simp only [Prod.mk.injEq] at h2
      exact ⟨h2.1.symm, h2.2.symm⟩
    have BW := Aside0.mk badway
    clear badway
    cases ok with
    | false =>
      obtain ⟨rfl, rfl⟩ := BW.out rfl
      gi_wp2
      refine ⟨.tuple #[.int .i64 0, .int .i64 30], toc.res _ g4 g5 0 30 _ rfl rfl (by refine blk_far ?_ hne45 _; refine blk_put (cs := #[.int .i64 0]) ?_ 0 _ rfl; exact n4_.out) (by refine blk_put (cs := #[.int .i64 0]) ?_ 0 _ rfl; refine blk_far ?_ hne54 _; exact n5_.out), rfl, by refine below_set ?_ G5.out.1; refine below_set ?_ G5.out.2.1; exact n7_.out⟩
    | true =>
      by_cases q0 : a1_3 < 0
      · obtain ⟨rfl, rfl⟩ := BW.out (by simp [toc.bad, q0])
        have d0 : decide (a1_3 < 0) = true := decide_eq_true q0
        clear q0
        gi_wp2
        refine ⟨.tuple #[.int .i64 0, .int .i64 30], toc.res _ g4 g5 0 30 _ rfl rfl (by refine blk_far ?_ hne45 _; refine blk_put (cs := #[.int .i64 0]) ?_ 0 _ rfl; exact n4_.out) (by refine blk_put (cs := #[.int .i64 0]) ?_ 0 _ rfl; refine blk_far ?_ hne54 _; exact n5_.out), rfl, by refine below_set ?_ G5.out.1; refine below_set ?_ G5.out.2.1; exact n7_.out⟩
      have d0 : decide (a1_3 < 0) = false := decide_eq_false q0
      by_cases q1 : 23 < a1_3
      · obtain ⟨rfl, rfl⟩ := BW.out (by simp [toc.bad, q1])
        have d1 : decide (23 < a1_3) = true := decide_eq_true q1
        clear q1 q0
        gi_wp2
        refine ⟨.tuple #[.int .i64 0, .int .i64 30], toc.res _ g4 g5 0 30 _ rfl rfl (by refine blk_far ?_ hne45 _; refine blk_put (cs := #[.int .i64 0]) ?_ 0 _ rfl; exact n4_.out) (by refine blk_put (cs := #[.int .i64 0]) ?_ 0 _ rfl; refine blk_far ?_ hne54 _; exact n5_.out), rfl, by refine below_set ?_ G5.out.1; refine below_set ?_ G5.out.2.1; exact n7_.out⟩
      have d1 : decide (23 < a1_3) = false := decide_eq_false q1
      by_cases q2 : a1_4 < 0
      · obtain ⟨rfl, rfl⟩ := BW.out (by simp [toc.bad, q2])
        have d2 : decide (a1_4 < 0) = true := decide_eq_true q2
        clear q2 q0 q1
        gi_wp2
        refine ⟨.tuple #[.int .i64 0, .int .i64 30], toc.res _ g4 g5 0 30 _ rfl rfl (by refine blk_far ?_ hne45 _; refine blk_put (cs := #[.int .i64 0]) ?_ 0 _ rfl; exact n4_.out) (by refine blk_put (cs := #[.int .i64 0]) ?_ 0 _ rfl; refine blk_far ?_ hne54 _; exact n5_.out), rfl, by refine below_set ?_ G5.out.1; refine below_set ?_ G5.out.2.1; exact n7_.out⟩
      have d2 : decide (a1_4 < 0) = false := decide_eq_false q2
      by_cases q3 : 59 < a1_4
      · obtain ⟨rfl, rfl⟩ := BW.out (by simp [toc.bad, q3])
        have d3 : decide (59 < a1_4) = true := decide_eq_true q3
        clear q3 q0 q1 q2
        gi_wp2
        refine ⟨.tuple #[.int .i64 0, .int .i64 30], toc.res _ g4 g5 0 30 _ rfl rfl (by refine blk_far ?_ hne45 _; refine blk_put (cs := #[.int .i64 0]) ?_ 0 _ rfl; exact n4_.out) (by refine blk_put (cs := #[.int .i64 0]) ?_ 0 _ rfl; refine blk_far ?_ hne54 _; exact n5_.out), rfl, by refine below_set ?_ G5.out.1; refine below_set ?_ G5.out.2.1; exact n7_.out⟩
      have d3 : decide (59 < a1_4) = false := decide_eq_false q3
      by_cases q4 : a1_5 < 0
      · obtain ⟨rfl, rfl⟩ := BW.out (by simp [toc.bad, q4])
        have d4 : decide (a1_5 < 0) = true := decide_eq_true q4
        clear q4 q0 q1 q2 q3
        gi_wp2
        refine ⟨.tuple #[.int .i64 0, .int .i64 30], toc.res _ g4 g5 0 30 _ rfl rfl (by refine blk_far ?_ hne45 _; refine blk_put (cs := #[.int .i64 0]) ?_ 0 _ rfl; exact n4_.out) (by refine blk_put (cs := #[.int .i64 0]) ?_ 0 _ rfl; refine blk_far ?_ hne54 _; exact n5_.out), rfl, by refine below_set ?_ G5.out.1; refine below_set ?_ G5.out.2.1; exact n7_.out⟩
      have d4 : decide (a1_5 < 0) = false := decide_eq_false q4
      by_cases q5 : 60 < a1_5
      · obtain ⟨rfl, rfl⟩ := BW.out (by simp [toc.bad, q5])
        have d5 : decide (60 < a1_5) = true := decide_eq_true q5
        clear q5 q0 q1 q2 q3 q4
        gi_wp2
        refine ⟨.tuple #[.int .i64 0, .int .i64 30], toc.res _ g4 g5 0 30 _ rfl rfl (by refine blk_far ?_ hne45 _; refine blk_put (cs := #[.int .i64 0]) ?_ 0 _ rfl; exact n4_.out) (by refine blk_put (cs := #[.int .i64 0]) ?_ 0 _ rfl; refine blk_far ?_ hne54 _; exact n5_.out), rfl, by refine below_set ?_ G5.out.1; refine below_set ?_ G5.out.2.1; exact n7_.out⟩
      have d5 : decide (60 < a1_5) = false := decide_eq_false q5
      have hnb : toc.bad true a1_3 a1_4 a1_5 = false := by simp [toc.bad, d0, d1, d2, d3, d4, d5]
      clear q0 q1 q2 q3 q4 q5 BW
      have h1 := A5.out
      rw [if_neg (by rw [hnb]; decide)] at h1
      clear A5 hnb
      by_cases hall : ((0 :: l0.map (fun x => x.f1)).all fun off => (leap_ToLabel.f k l0 (wrap64 (toc.u n a1_3 a1_4 a1_5 + off))).isSome) = true
      case neg => rw [if_neg hall] at h1; cases h1
      rw [if_pos hall] at h1
      have AH := Aside0.mk hall
      have A6 := Aside0.mk (Option.some.inj h1)
      clear h1 hall
      have c20 : (w6.alloc (.cells #[.int .i64 (wrap64 (wrap64 (wrap64 (wrap64 (n * 86400) + wrap64 (a1_3 * 3600)) + wrap64 (a1_4 * 60)) + a1_5))] 3 (0, 0))).cell? ⟨g2, 0, none⟩ = some (.slice A0 l0.length c0) := (blk_cell (blk_alloc n2_.out _) 0).trans rfl
      gi_wp2_with (fail)
      refine ⟨trivial, ?_⟩
      refine (toc.offsets Fence.wide _ trivial hro _ _ _ _).mono ?_
      rintro e w7 ⟨rfl, rfl⟩
      have hug : wrap64 (wrap64 (wrap64 (wrap64 (n * 86400) + wrap64 (a1_3 * 3600)) + wrap64 (a1_4 * 60)) + a1_5) = toc.u n a1_3 a1_4 a1_5 := rfl
      rw [hug]
      gi_wp2
      have p2_ := Aside0.mk (blk_alloc (blk_alloc n2_.out (.cells #[.int .i64 (toc.u n a1_3 a1_4 a1_5)] 3 (0, 0))) (.cells #[.slice A0 l0.length c0] 22 (0, 0)))
      have p3_ := Aside0.mk (blk_alloc (blk_alloc n3_.out (.cells #[.int .i64 (toc.u n a1_3 a1_4 a1_5)] 3 (0, 0))) (.cells #[.slice A0 l0.length c0] 22 (0, 0)))
      have p4_ := Aside0.mk (blk_alloc (blk_alloc n4_.out (.cells #[.int .i64 (toc.u n a1_3 a1_4 a1_5)] 3 (0, 0))) (.cells #[.slice A0 l0.length c0] 22 (0, 0)))
      have p5_ := Aside0.mk (blk_alloc (blk_alloc n5_.out (.cells #[.int .i64 (toc.u n a1_3 a1_4 a1_5)] 3 (0, 0))) (.cells #[.slice A0 l0.length c0] 22 (0, 0)))
      have p7_ := Aside0.mk (below_alloc (below_alloc n7_.out (.cells #[.int .i64 (toc.u n a1_3 a1_4 a1_5)] 3 (0, 0))) (.cells #[.slice A0 l0.length c0] 22 (0, 0)))
      have p8_ := Aside0.mk (blk_alloc (blk_new w6 (.cells #[.int .i64 (toc.u n a1_3 a1_4 a1_5)] 3 (0, 0))) (.cells #[.slice A0 l0.length c0] 22 (0, 0)))
      have pS_ := Aside0.mk (blk_new (w6.alloc (.cells #[.int .i64 (toc.u n a1_3 a1_4 a1_5)] 3 (0, 0))) (.cells #[.slice A0 l0.length c0] 22 (0, 0)))
      rw [toc.size] at pS_
      clear n2_ n3_ n4_ n5_ n7_ c40 c50 f40 f50 c33 c34 c35 c20
      generalize (w6.alloc (.cells #[.int .i64 (toc.u n a1_3 a1_4 a1_5)] 3 (0, 0))).alloc (.cells #[.slice A0 l0.length c0] 22 (0, 0)) = wl at p2_ p3_ p4_ p5_ p7_ p8_ pS_ ⊢
      generalize w6.heap.size + 1 = gS at pS_ ⊢
      generalize w6.heap.size = g8 at p8_ ⊢
      obtain ⟨u, hu⟩ : ∃ u, u = toc.u n a1_3 a1_4 a1_5 := ⟨_, rfl⟩
      rw [← hu] at p8_ AH A6 ⊢
      clear hug hu
      have hcS : wl.cell? ⟨gS, 0, none⟩ = some (.slice A0 l0.length c0) := (blk_cell pS_.out 0).trans rfl
      refine wpIn_rangeFunc_ownG hro (by omega) (gf := 44) (lb := #[.pointer (some ⟨gS, 0, none⟩)]) rfl trivial (enters_of Tryd.func44 (by kernel_rfl) rfl)
        (encs := fun x : Nat => #[Value.int .i64 (toc.o l0 x)]) (Kp := Below wl.heap.size) (S := fun ys => ys = List.range (l0.length + 1)) (Sp := fun pre => ∃ k, k ≤ l0.length + 1 ∧ pre = List.range k) (N := l0.length + 1) (w0 := wl)
        (fun l J Jx W hW hJ hJx hY h0 => toc.iter Fence.wide _ trivial hro (by omega) l gS wl.heap.size A0 c0 l0 w W HR0.out (below_step p7_.out hW) (below_size p7_.out) (below_size hW) (blk_lt pS_.out) ((hW.cell (p := ⟨gS, 0, none⟩) (blk_lt pS_.out)).trans hcS) J Jx hJ hY h0)
        belowK_t (belowK_b (Nat.le_refl _)) (Below.refl _ _) (fun _ => rfl)
        (fun pre W => (∀ i ∈ pre, toc.same (leap_ToLabel.f k l0 (wrap64 (u + toc.o l0 i))) a1_0 a1_1 a1_2 a1_3 a1_4 a1_5 = false) ∧ Below wl.heap.size wl W)
        (fun c pre W => (c = .ret ∧ ∃ ini last, pre = ini ++ [last] ∧ (∀ i ∈ ini, toc.same (leap_ToLabel.f k l0 (wrap64 (u + toc.o l0 i))) a1_0 a1_1 a1_2 a1_3 a1_4 a1_5 = false) ∧ toc.same (leap_ToLabel.f k l0 (wrap64 (u + toc.o l0 last))) a1_0 a1_1 a1_2 a1_3 a1_4 a1_5 = true ∧ W.cell? ⟨g4, 0, none⟩ = some (.int .i64 (wrap64 (u + toc.o l0 last))) ∧ W.cell? ⟨g5, 0, none⟩ = some (.int .i64 0)) ∧ Below w.heap.size w W)
        (OwnFrom.and (Own.from (fun s A B row hs hg hr => hs) _) (ownFrom_below (Nat.le_refl _) (Nat.le_refl _)))
        (fun c => OwnFrom.and (Own.from (fun s A B row hs hg hr => by obtain ⟨hc, ini, last, e1, e2, e3, e4, e5⟩ := hs; exact ⟨hc, ini, last, e1, e2, e3, cell_kept e4 hg hr, cell_kept e5 hg hr⟩) _) (ownFrom_below (Nat.le_refl _) (below_size p7_.out)))
        ⟨by simp, Below.refl _ _⟩
        (fun x => { tmps := #[Value.slice A0 l0.length c0, Value.agg #[Value.int IntKind.i64 a1_0, Value.int IntKind.i64 a1_1, Value.int IntKind.i64 a1_2, Value.int IntKind.i64 a1_3, Value.int IntKind.i64 a1_4, Value.int IntKind.i64 a1_5], Value.pointer (some ⟨g2, 0, none⟩), Value.pointer (some ⟨g3, 0, none⟩), Value.pointer (some ⟨g4, 0, none⟩), Value.pointer (some ⟨g5, 0, none⟩), Value.int IntKind.i64 n, Value.bool true, Value.pointer (some ⟨g8, 0, none⟩), Value.int IntKind.i64 (toc.o l0 x), undef, undef, Value.slice A0 l0.length c0, Value.bool true, Value.bool false, Value.tuple #[Value.int IntKind.i64 n, Value.bool true], Value.pointer (some ⟨g3, 0, none⟩), Value.int IntKind.i64 a1_0, Value.pointer (some ⟨g3, 1, none⟩), Value.int IntKind.i64 a1_1, Value.pointer (some ⟨g3, 2, none⟩), Value.int IntKind.i64 a1_2, Value.tuple #[Value.int IntKind.i64 n, Value.bool true], Value.int IntKind.i64 n, Value.bool true, Value.bool true, Value.bool false, Value.bool false, Value.pointer (some ⟨g3, 3, none⟩), Value.int IntKind.i64 a1_3, Value.bool false, Value.bool false, Value.bool false, Value.pointer (some ⟨g3, 3, none⟩), Value.int IntKind.i64 a1_3, Value.bool false, Value.bool false, Value.bool false, Value.pointer (some ⟨g3, 4, none⟩), Value.int IntKind.i64 a1_4, Value.bool false, Value.bool false, Value.bool false, Value.pointer (some ⟨g3, 4, none⟩), Value.int IntKind.i64 a1_4, Value.bool false, Value.bool false, Value.bool false, Value.pointer (some ⟨g3, 5, none⟩), Value.int IntKind.i64 a1_5, Value.bool false, Value.bool false, Value.bool false, Value.pointer (some ⟨g3, 5, none⟩), Value.int IntKind.i64 a1_5, Value.bool false, Value.bool false, Value.int IntKind.i64 n, Value.int IntKind.i64 (wrap64 (n * 86400)), Value.pointer (some ⟨g3, 3, none⟩), Value.int IntKind.i64 a1_3, Value.int IntKind.i64 (wrap64 (a1_3 * 3600)), Value.int IntKind.i64 (wrap64 (wrap64 (n * 86400) + wrap64 (a1_3 * 3600))), Value.pointer (some ⟨g3, 4, none⟩), Value.int IntKind.i64 a1_4, Value.int IntKind.i64 (wrap64 (a1_4 * 60)), Value.int IntKind.i64 (wrap64 (wrap64 (wrap64 (n * 86400) + wrap64 (a1_3 * 3600)) + wrap64 (a1_4 * 60))), Value.pointer (some ⟨g3, 5, none⟩), Value.int IntKind.i64 a1_5, Value.int IntKind.i64 (u), Value.slice A0 l0.length c0, Value.func (Fn.func 44) #[] #[Value.pointer (some ⟨gS, 0, none⟩)], Value.int IntKind.i64 (toc.o l0 x), undef, undef, undef, undef, undef, undef, undef, undef, undef, undef, undef, undef, undef, undef, undef, undef, undef, undef], defers := [] }) ?assign ?body ?done ?stop
      case assign =>
        intro l x W K hK
        gi_wp2
        exact hK
      case body =>
        rintro l pre x W ⟨hp, hB⟩ _
        have hBw := below_step p7_.out hB
        have b2 := blk_below p2_.out hB
        have b3 := blk_below p3_.out hB
        have b4 := blk_below p4_.out hB
        have b5 := blk_below p5_.out hB
        have b8 := blk_below p8_.out hB
        have c20 : W.cell? ⟨g2, 0, none⟩ = some (.slice A0 l0.length c0) := (blk_cell b2 0).trans rfl
        have c80 : W.cell? ⟨g8, 0, none⟩ = some (.int .i64 u) := (blk_cell b8 0).trans rfl
        have hsm := List.all_eq_true.mp AH.out (toc.o l0 x) (toc.mem l0 x)
        obtain ⟨⟨t1, t2, t3, t4, t5, t6, t7⟩, htl⟩ := Option.isSome_iff_exists.mp hsm
        have B2 := Aside0.mk b2
        have B3 := Aside0.mk b3
        have B4 := Aside0.mk b4
        have B5 := Aside0.mk b5
        have B8 := Aside0.mk b8
        have HBW := Aside0.mk hBw
        have HTL := Aside0.mk htl
        have HP := Aside0.mk hp
        have HBL := Aside0.mk hB
        clear b2 b3 b4 b5 b8 hBw hsm htl hp hB
        gi_wp2_with (fail)
        refine ⟨trivial, ?_⟩
        refine (CallsIn.inRound l (callsIn_wide.2 (leap_ToLabel.calls k A0 c0 l0 (wrap64 (u + toc.o l0 x)) t1 t2 t3 t4 t5 t6 t7 W (GM.below HM.out HBW.out) (Kd.C_below HR0.out HBW.out) HC0.out HTL.out))).mono ?_
        rintro e w8 ⟨rfl, hb⟩
        have HBX := Aside0.mk hb
        have b3 := blk_alloc (blk_below B3.out hb) (.cells #[.int .i64 t1, .int .i64 t2, .int .i64 t3, .int .i64 t4, .int .i64 t5, .int .i64 t6] 26 (0, 0))
        have b4 := blk_alloc (blk_below B4.out hb) (.cells #[.int .i64 t1, .int .i64 t2, .int .i64 t3, .int .i64 t4, .int .i64 t5, .int .i64 t6] 26 (0, 0))
        have b5 := blk_alloc (blk_below B5.out hb) (.cells #[.int .i64 t1, .int .i64 t2, .int .i64 t3, .int .i64 t4, .int .i64 t5, .int .i64 t6] 26 (0, 0))
        have b8 := blk_alloc (blk_below B8.out hb) (.cells #[.int .i64 t1, .int .i64 t2, .int .i64 t3, .int .i64 t4, .int .i64 t5, .int .i64 t6] 26 (0, 0))
        have bX := blk_new w8 (.cells #[.int .i64 t1, .int .i64 t2, .int .i64 t3, .int .i64 t4, .int .i64 t5, .int .i64 t6] 26 (0, 0))
        have cx0 := (blk_cell bX 0).trans rfl
        have c30 : (w8.alloc (.cells #[.int .i64 t1, .int .i64 t2, .int .i64 t3, .int .i64 t4, .int .i64 t5, .int .i64 t6] 26 (0, 0))).cell? ⟨g3, 0, none⟩ = some (.int .i64 a1_0) := (blk_cell b3 0).trans rfl
        have c31 : (w8.alloc (.cells #[.int .i64 t1, .int .i64 t2, .int .i64 t3, .int .i64 t4, .int .i64 t5, .int .i64 t6] 26 (0, 0))).cell? ⟨g3, 1, none⟩ = some (.int .i64 a1_1) := (blk_cell b3 1).trans rfl
        have c32 : (w8.alloc (.cells #[.int .i64 t1, .int .i64 t2, .int .i64 t3, .int .i64 t4, .int .i64 t5, .int .i64 t6] 26 (0, 0))).cell? ⟨g3, 2, none⟩ = some (.int .i64 a1_2) := (blk_cell b3 2).trans rfl
        have c33 : (w8.alloc (.cells #[.int .i64 t1, .int .i64 t2, .int .i64 t3, .int .i64 t4, .int .i64 t5, .int .i64 t6] 26 (0, 0))).cell? ⟨g3, 3, none⟩ = some (.int .i64 a1_3) := (blk_cell b3 3).trans rfl
        have c34 : (w8.alloc (.cells #[.int .i64 t1, .int .i64 t2, .int .i64 t3, .int .i64 t4, .int .i64 t5, .int .i64 t6] 26 (0, 0))).cell? ⟨g3, 4, none⟩ = some (.int .i64 a1_4) := (blk_cell b3 4).trans rfl
        have c35 : (w8.alloc (.cells #[.int .i64 t1, .int .i64 t2, .int .i64 t3, .int .i64 t4, .int .i64 t5, .int .i64 t6] 26 (0, 0))).cell? ⟨g3, 5, none⟩ = some (.int .i64 a1_5) := (blk_cell b3 5).trans rfl
        have c81 : (w8.alloc (.cells #[.int .i64 t1, .int .i64 t2, .int .i64 t3, .int .i64 t4, .int .i64 t5, .int .i64 t6] 26 (0, 0))).cell? ⟨g8, 0, none⟩ = some (.int .i64 u) := (blk_cell b8 0).trans rfl
        have c40 : (w8.alloc (.cells #[.int .i64 t1, .int .i64 t2, .int .i64 t3, .int .i64 t4, .int .i64 t5, .int .i64 t6] 26 (0, 0))).cell? ⟨g4, 0, none⟩ = some (.int .i64 0) := (blk_cell b4 0).trans rfl
        have c50 : (w8.alloc (.cells #[.int .i64 t1, .int .i64 t2, .int .i64 t3, .int .i64 t4, .int .i64 t5, .int .i64 t6] 26 (0, 0))).cell? ⟨g5, 0, none⟩ = some (.int .i64 0) := (blk_cell b5 0).trans rfl
        have f40 := blk_frozen b4 0
        have f50 := blk_frozen b5 0
        have C4 := Aside0.mk b4
        have C5 := Aside0.mk b5
        clear b3 b4 b5 b8 bX cx0 hb c20 c80
        have SM := Aside0.mk (congrArg (fun z => toc.same z a1_0 a1_1 a1_2 a1_3 a1_4 a1_5) HTL.out)
        by_cases he : t7 = 0
        case neg =>
          have he1 : (t7 == 0) = false := by simpa using he
          have hs : toc.same (leap_ToLabel.f k l0 (wrap64 (u + toc.o l0 x))) a1_0 a1_1 a1_2 a1_3 a1_4 a1_5 = false := by rw [SM.out]; simp [toc.same, he]
          have HS := Aside0.mk hs
          clear he hs SM
          gi_wp2
          have hbz := below_alloc HBX.out (.cells #[.int .i64 t1, .int .i64 t2, .int .i64 t3, .int .i64 t4, .int .i64 t5, .int .i64 t6] 26 (0, 0))
          exact ⟨toc.keeps hbz, hbz.mono (below_size HBL.out), fun i hi => by
            rcases List.mem_append.mp hi with h_ | h_
            · exact HP.out i h_
            · rw [List.mem_singleton.mp h_]; exact HS.out, below_step HBL.out hbz⟩
        subst he
        by_cases he : a1_0 = t1
        case neg =>
          have he1 : (t1 == a1_0) = false := by simpa using fun h_ => he h_.symm
          have he2 : (t1 = a1_0) = False := eq_false fun h_ => he h_.symm
          have hs : toc.same (leap_ToLabel.f k l0 (wrap64 (u + toc.o l0 x))) a1_0 a1_1 a1_2 a1_3 a1_4 a1_5 = false := by rw [SM.out]; simp [toc.same, he2]
          have HS := Aside0.mk hs
          clear he hs SM
          gi_wp2
          have hbz := below_alloc HBX.out (.cells #[.int .i64 t1, .int .i64 t2, .int .i64 t3, .int .i64 t4, .int .i64 t5, .int .i64 t6] 26 (0, 0))
          exact ⟨toc.keeps hbz, hbz.mono (below_size HBL.out), fun i hi => by
            rcases List.mem_append.mp hi with h_ | h_
            · exact HP.out i h_
            · rw [List.mem_singleton.mp h_]; exact HS.out, below_step HBL.out hbz⟩
        subst he
        by_cases he : a1_1 = t2
        case neg =>
          have he1 : (t2 == a1_1) = false := by simpa using fun h_ => he h_.symm
          have he2 : (t2 = a1_1) = False := eq_false fun h_ => he h_.symm
          have hs : toc.same (leap_ToLabel.f k l0 (wrap64 (u + toc.o l0 x))) a1_0 a1_1 a1_2 a1_3 a1_4 a1_5 = false := by rw [SM.out]; simp [toc.same, he2]
          have HS := Aside0.mk hs
          clear he hs SM
          gi_wp2
          have hbz := below_alloc HBX.out (.cells #[.int .i64 a1_0, .int .i64 t2, .int .i64 t3, .int .i64 t4, .int .i64 t5, .int .i64 t6] 26 (0, 0))
          exact ⟨toc.keeps hbz, hbz.mono (below_size HBL.out), fun i hi => by
            rcases List.mem_append.mp hi with h_ | h_
            · exact HP.out i h_
            · rw [List.mem_singleton.mp h_]; exact HS.out, below_step HBL.out hbz⟩
        subst he
        by_cases he : a1_2 = t3
        case neg =>
          have he1 : (t3 == a1_2) = false := by simpa using fun h_ => he h_.symm
          have he2 : (t3 = a1_2) = False := eq_false fun h_ => he h_.symm
          have hs : toc.same (leap_ToLabel.f k l0 (wrap64 (u + toc.o l0 x))) a1_0 a1_1 a1_2 a1_3 a1_4 a1_5 = false := by rw [SM.out]; simp [toc.same, he2]
          have HS := Aside0.mk hs
          clear he hs SM
          gi_wp2
          have hbz := below_alloc HBX.out (.cells #[.int .i64 a1_0, .int .i64 a1_1, .int .i64 t3, .int .i64 t4, .int .i64 t5, .int .i64 t6] 26 (0, 0))
          exact ⟨toc.keeps hbz, hbz.mono (below_size HBL.out), fun i hi => by
            rcases List.mem_append.mp hi with h_ | h_
            · exact HP.out i h_
            · rw [List.mem_singleton.mp h_]; exact HS.out, below_step HBL.out hbz⟩
        subst he
        by_cases he : a1_3 = t4
        case neg =>
          have he1 : (t4 == a1_3) = false := by simpa using fun h_ => he h_.symm
          have he2 : (t4 = a1_3) = False := eq_false fun h_ => he h_.symm
          have hs : toc.same (leap_ToLabel.f k l0 (wrap64 (u + toc.o l0 x))) a1_0 a1_1 a1_2 a1_3 a1_4 a1_5 = false := by rw [SM.out]; simp [toc.same, he2]
          have HS := Aside0.mk hs
          clear he hs SM
          gi_wp2
          have hbz := below_alloc HBX.out (.cells #[.int .i64 a1_0, .int .i64 a1_1, .int .i64 a1_2, .int .i64 t4, .int .i64 t5, .int .i64 t6] 26 (0, 0))
          exact ⟨toc.keeps hbz, hbz.mono (below_size HBL.out), fun i hi => by
            rcases List.mem_append.mp hi with h_ | h_
            · exact HP.out i h_
            · rw [List.mem_singleton.mp h_]; exact HS.out, below_step HBL.out hbz⟩
        subst he
        by_cases he : a1_4 = t5
        case neg =>
          have he1 : (t5 == a1_4) = false := by simpa using fun h_ => he h_.symm
          have he2 : (t5 = a1_4) = False := eq_false fun h_ => he h_.symm
          have hs : toc.same (leap_ToLabel.f k l0 (wrap64 (u + toc.o l0 x))) a1_0 a1_1 a1_2 a1_3 a1_4 a1_5 = false := by rw [SM.out]; simp [toc.same, he2]
          have HS := Aside0.mk hs
          clear he hs SM
          gi_wp2
          have hbz := below_alloc HBX.out (.cells #[.int .i64 a1_0, .int .i64 a1_1, .int .i64 a1_2, .int .i64 a1_3, .int .i64 t5, .int .i64 t6] 26 (0, 0))
          exact ⟨toc.keeps hbz, hbz.mono (below_size HBL.out), fun i hi => by
            rcases List.mem_append.mp hi with h_ | h_
            · exact HP.out i h_
            · rw [List.mem_singleton.mp h_]; exact HS.out, below_step HBL.out hbz⟩
        subst he
        by_cases he : a1_5 = t6
        case neg =>
          have he1 : (t6 == a1_5) = false := by simpa using fun h_ => he h_.symm
          have he2 : (t6 = a1_5) = False := eq_false fun h_ => he h_.symm
          have hs : toc.same (leap_ToLabel.f k l0 (wrap64 (u + toc.o l0 x))) a1_0 a1_1 a1_2 a1_3 a1_4 a1_5 = false := by rw [SM.out]; simp [toc.same, he2]
          have HS := Aside0.mk hs
          clear he hs SM
          gi_wp2
          have hbz := below_alloc HBX.out (.cells #[.int .i64 a1_0, .int .i64 a1_1, .int .i64 a1_2, .int .i64 a1_3, .int .i64 a1_4, .int .i64 t6] 26 (0, 0))
          exact ⟨toc.keeps hbz, hbz.mono (below_size HBL.out), fun i hi => by
            rcases List.mem_append.mp hi with h_ | h_
            · exact HP.out i h_
            · rw [List.mem_singleton.mp h_]; exact HS.out, below_step HBL.out hbz⟩
        subst he
        have hs : toc.same (leap_ToLabel.f k l0 (wrap64 (u + toc.o l0 x))) a1_0 a1_1 a1_2 a1_3 a1_4 a1_5 = true := by rw [SM.out]; simp [toc.same]
        have HS := Aside0.mk hs
        clear hs SM
        have hne45 := G5.out.2.2
        have hne54 := (G5.out.2.2).symm
        gi_wp2
        have hbz := below_alloc HBX.out (.cells #[.int .i64 a1_0, .int .i64 a1_1, .int .i64 a1_2, .int .i64 a1_3, .int .i64 a1_4, .int .i64 a1_5] 26 (0, 0))
        exact ⟨(toc.keeps hbz).trans (((KeepsOthers.setCell _ _ _).trans (KeepsOthers.setCell _ _ _)).from _), ⟨rfl, pre, x, rfl, HP.out, HS.out, (blk_cell (blk_far (blk_put (cs := #[.int .i64 0]) C4.out 0 _ rfl) hne45 _) 0).trans rfl, (blk_cell (blk_put (cs := #[.int .i64 0]) (blk_far C5.out hne54 _) 0 _ rfl) 0).trans rfl⟩, by refine below_set ?_ G5.out.1; refine below_set ?_ G5.out.2.1; exact below_step HBW.out hbz⟩
      case done =>
        rintro D ys W hD rfl ⟨hne, hB⟩ hK
        have h0 := A6.out
        rw [toc.list, toc.first_none _ _ _ _ _ _ _ _ _ _ (by
          intro z hz
          obtain ⟨i, hi, rfl⟩ := List.mem_map.mp hz
          exact hne i hi)] at h0
        simp only [Prod.mk.injEq] at h0
        obtain ⟨rfl, rfl⟩ := h0
        have b4 := blk_below p4_.out hB
        have b5 := blk_below p5_.out hB
        have c40 : W.cell? ⟨g4, 0, none⟩ = some (.int .i64 0) := (blk_cell b4 0).trans rfl
        have c50 : W.cell? ⟨g5, 0, none⟩ = some (.int .i64 0) := (blk_cell b5 0).trans rfl
        have f40 := blk_frozen b4 0
        have f50 := blk_frozen b5 0
        have hne45 := G5.out.2.2
        have hne54 := (G5.out.2.2).symm
        have B4 := Aside0.mk b4
        have B5 := Aside0.mk b5
        have HK := Aside0.mk hK
        have HBL := Aside0.mk hB
        clear b4 b5 hK hB hne
        gi_wp2
        have hK' := ((KeepsOthers.setCell W ⟨g4, 0, none⟩ (.int .i64 0)).trans (KeepsOthers.setCell _ ⟨g5, 0, none⟩ (.int .i64 30))).same D _ HK.out rfl
        refine ⟨by simp, .inl ⟨_, _, rfl, run_takeDeferred hK', ?_⟩⟩
        refine ⟨.tuple #[.int .i64 0, .int .i64 30], toc.resc _ g4 g5 0 30 _ rfl rfl (cell_kept ((blk_cell (blk_far (blk_put (cs := #[.int .i64 0]) B4.out 0 (.int .i64 0) rfl) hne45 (.int .i64 30)) 0).trans rfl) (grownBy_putObj' _ D (.deferred none)) (fun r e => by cases e; exact ⟨_, hK', rfl⟩)) (cell_kept ((blk_cell (blk_put (cs := #[.int .i64 0]) (blk_far B5.out hne54 (.int .i64 0)) 0 (.int .i64 30) rfl) 0).trans rfl) (grownBy_putObj' _ D (.deferred none)) (fun r e => by cases e; exact ⟨_, hK', rfl⟩)), rfl, ?_⟩
        refine Below.trans (?_ : Below w.heap.size w _) (belowK_b (w := w) (Nat.le_refl _) _ D _ _ (Nat.le_trans (below_size p7_.out) hD) hK' rfl rfl)
        refine below_set ?_ G5.out.1
        refine below_set ?_ G5.out.2.1
        exact below_step p7_.out HBL.out
      case stop =>
        rintro D c pre W hD ⟨kk, hkk, rfl⟩ ⟨⟨rfl, ini, last, e1, e2, e3, e4, e5⟩, hB⟩ hK
        obtain ⟨j, rfl⟩ : ∃ j, kk = j + 1 := by
          cases kk with
          | zero => simp at e1
          | succ j => exact ⟨j, rfl⟩
        rw [List.range_succ] at e1
        obtain ⟨rfl, e6⟩ := List.append_inj' e1 rfl
        obtain rfl : j = last := by simpa using e6
        have h0 := A6.out
        obtain ⟨rest, hrest⟩ : ∃ rest, List.range (l0.length + 1) = List.range j ++ j :: rest := by
          refine ⟨(List.range (l0.length + 1)).drop (j + 1), ?_⟩
          have h1 := List.take_append_drop j (List.range (l0.length + 1))
          rw [List.take_range, Nat.min_eq_left (by omega), List.drop_eq_getElem_cons (by simp; omega), List.getElem_range] at h1
          exact h1.symm
        rw [toc.list, hrest, List.map_append, List.map_cons, toc.first_some _ _ _ _ _ _ _ _ _ _ _ e3 _ (by
          intro z hz
          obtain ⟨i, hi, rfl⟩ := List.mem_map.mp hz
          exact e2 i hi)] at h0
        simp only [Prod.mk.injEq] at h0
        obtain ⟨rfl, rfl⟩ := h0
        clear e1 e6 e2 e3 hrest
        gi_wp2
        refine ⟨by simp, .inl ⟨_, _, rfl, run_takeDeferred hK, ?_⟩⟩
        refine ⟨.tuple #[.int .i64 (wrap64 (u + toc.o l0 j)), .int .i64 0], toc.resc _ g4 g5 _ 0 _ rfl rfl (cell_kept e4 (grownBy_putObj' _ D (.deferred none)) (fun r e => by cases e; exact ⟨_, hK, rfl⟩)) (cell_kept e5 (grownBy_putObj' _ D (.deferred none)) (fun r e => by cases e; exact ⟨_, hK, rfl⟩)), rfl, ?_⟩
        exact Below.trans hB (belowK_b (w := w) (Nat.le_refl _) _ D _ _ (Nat.le_trans (below_size p7_.out) hD) hK rfl rfl)
end

end Go.Proofs.YtaibmobjpheaiaaDoor.Q
