/- The calls of these Go functions answer what the Lean functions beside them answer; written by a program (wip/pr2.py, out of the print of the loaded program); under no condition but those that stand in the theorems. -/
import Derived.Test.YtopnmlambbimpaaQx0
import Derived.Test.YtopnmlambbimpaaQx11
namespace Go.Proofs.Ytopnmlambbimpaa.Q
open Go.RowKit Go.Proofs.YtopnmlambbimpaaW.PrintWords Go.Proofs.YtopnmlambbimpaaW.PrintLast Go.Proofs.YtopnmlambbimpaaW.PrintMore
attribute [local go_sem] max2_int min2_int max_two min_two max_three min_three max_four min_four   -- for this text's walks alone
set_option linter.unusedVariables false
set_option linter.unusedSimpArgs false

/-! ### clepsydraref02_Digits: function 51 -/
def dg.row (l : List Int) : Array Value := (l.map (Value.int .i64)).toArray
def dg.bit (a : Int) (i : Nat) : Int := Go.bits .and .i64 (a / 2 ^ i) 1
def dg.put (a b : Int) (i k : Nat) (s : List Int) : List Int := s.set (127 - i - k) (wrap64 (s.getD (127 - i - k) 0 + wrap64 (dg.bit a i * dg.bit b k)))
def dg.inner (a b : Int) (i : Nat) (s : List Int) : Nat → List Int
  | 0 => s
  | k + 1 => dg.put a b i k (dg.inner a b i s k)
def dg.outer (a b : Int) : Nat → List Int
  | 0 => List.replicate 128 0
  | i + 1 => dg.inner a b i (dg.outer a b i) 62
def dg.down (i : Nat) (s : List Int) : List Int := (s.set (i - 1) (wrap64 (s.getD (i - 1) 0 + wrap64 (Int.tdiv (s.getD i 0) 2)))).set i (Int.tmod (s.getD i 0) 2)
def dg.carry (s : List Int) : Nat → List Int
  | 0 => s
  | n + 1 => dg.down (127 - n) (dg.carry s n)
def clepsydraref02_Digits.f (a b : Int) : Option (List Int) := some (dg.carry (dg.outer a b 62) 127)
theorem dg.len_inner (a b : Int) (i : Nat) (s : List Int) (k : Nat) : (dg.inner a b i s k).length = s.length := by
  induction k with
  | zero => rfl
  | succ k ih => simp only [dg.inner, dg.put, List.length_set, ih]
theorem dg.len_outer (a b : Int) (i : Nat) : (dg.outer a b i).length = 128 := by
  induction i with
  | zero => rfl
  | succ i ih => simp only [dg.outer, dg.len_inner, ih]
theorem dg.len_carry (s : List Int) (n : Nat) : (dg.carry s n).length = s.length := by
  induction n with
  | zero => rfl
  | succ n ih => simp only [dg.carry, dg.down, List.length_set, ih]
theorem dg.cell {w : World} {g : Nat} {t : TypeId} {s : List Int} (h : w.heap[g]? = some (.cells (dg.row s) t (0, 0))) (j : Nat) (hj : j < s.length) : w.cell? ⟨g, j, none⟩ = some (.int .i64 (s.getD j 0)) := by
  rw [blk_cell h j]
  simp [dg.row, List.getElem?_map, List.getElem?_eq_getElem hj, List.getD_eq_getElem?_getD]
theorem dg.set {w : World} {g : Nat} {t : TypeId} {s : List Int} (h : w.heap[g]? = some (.cells (dg.row s) t (0, 0))) (j : Nat) (x : Int) : (w.setCell ⟨g, j, none⟩ (.int .i64 x)).heap[g]? = some (.cells (dg.row (s.set j x)) t (0, 0)) := by
  refine blk_put h j _ ?_
  simp [dg.row, List.map_set]
set_option maxHeartbeats 8000000 in
set_option maxRecDepth 100000 in
theorem clepsydraref02_Digits.calls (a0 a1 : Int) (r : List Int) (w : World) (h : clepsydraref02_Digits.f a0 a1 = some r) :
    Calls Try.prog 51 #[.int .i64 a0, .int .i64 a1] w fun e w' => ∃ v0_ : Value, e = .returned v0_ ∧ Kd.R (Kd.int .i64) 63 w' w.heap.size (fun _ => True) v0_ r ∧ Below w.heap.size w w' := by
  have HB := Aside0.mk (Below.refl w.heap.size w)
  have A1 := Aside0.mk h
  clear h
  go_enter Try.func51, Try.ntmps51
  go_wp2_with (first | ((with_reducible refine gate_dst (N := 5) rfl ?_); refine box_event ?hg (N := 5) ?hd (cs := dg.row (List.replicate 128 0)) (t := 63) ?hr ?_; (case hd => rfl); (case hg => rfl); (case hr => first | (go_simp; done) | (go_simp; rfl)); intro gb5 hg w2 hbox hb; have n0_ := Aside0.mk (below_step HB.out hb); have n1_ := Aside0.mk (hbox); have n2_ := Aside0.mk ((by rw [hg]; exact (below_size HB.out)) : w.heap.size ≤ gb5); clear HB; have HB := n0_; have BK5 := n1_; have GE5 := n2_; clear n0_ n1_ n2_; clear hb hbox hg))
  go_loopg [6] 62 (fun kq v6 w' => ∃ i : Nat, v6 = .int .i64 (i : Int) ∧ Aside0 (i + kq = 62) ∧ Aside0 (w'.heap[gb5]? = some (.cells (dg.row (dg.outer a0 a1 i)) 63 (0, 0))) ∧ Aside0 (Below w.heap.size w w'))
  case atStart => exact ⟨0, rfl, ⟨rfl⟩, ⟨BK5.out⟩, ⟨HB.out⟩⟩
  case round =>
    clear BK5 HB
    obtain ⟨i, rfl, HI, BK5, HB⟩ := hrel
    obtain ⟨wo, ho⟩ : ∃ wo : World, wo = wr := ⟨_, rfl⟩
    subst ho
    by_cases hlt : (i : Int) < 62
    · have hi62 : (i : Int) ≤ 61 := by omega
      go_wp2
      go_loopg [7] 62 (fun kq v7 w' => ∃ k : Nat, v7 = .int .i64 (k : Int) ∧ Aside0 (k + kq = 62) ∧ Aside0 (w'.heap[gb5]? = some (.cells (dg.row (dg.inner a0 a1 i (dg.outer a0 a1 i) k)) 63 (0, 0))) ∧ Aside0 (Below w.heap.size w w'))
      case atStart => exact ⟨0, rfl, ⟨rfl⟩, ⟨BK5.out⟩, ⟨HB.out⟩⟩
      case round =>
        clear BK5 HB
        obtain ⟨k, rfl, HK, BK5, HB⟩ := hrel
        by_cases hlk : (k : Int) < 62
        · have hk62 : (k : Int) ≤ 61 := by omega
          have hlen : (dg.inner a0 a1 i (dg.outer a0 a1 i) k).length = 128 := by rw [dg.len_inner, dg.len_outer]
          have hx1 := dg.cell BK5.out (127 - i - k) (by omega)
          have hf1 := blk_frozen BK5.out (127 - i - k)
          obtain ⟨s, HS⟩ : ∃ s, s = dg.inner a0 a1 i (dg.outer a0 a1 i) k := ⟨_, rfl⟩
          rw [← HS] at BK5 hx1 hlen
          obtain ⟨x, HX⟩ : ∃ x, x = s.getD (127 - i - k) 0 := ⟨_, rfl⟩
          rw [← HX] at hx1
          have NS := Aside0.mk (And.intro HS (And.intro HX hlen))
          clear HS HX hlen
          go_wp2
          have n0_ := Aside0.mk (dg.set BK5.out (127 - i - k) (wrap64 (x + wrap64 (dg.bit a0 i * dg.bit a1 k))))
          go_roundg (gk - 1)
          case measure => have := HK.out; omega
          case rel =>
            refine ⟨k + 1, by go_num, ⟨by have := HK.out; omega⟩, ⟨?_⟩, ⟨below_set HB.out GE5.out⟩⟩
            have h1 := NS.out.1
            have h2 := NS.out.2.1
            rw [show dg.inner a0 a1 i (dg.outer a0 a1 i) (k + 1) = s.set (127 - i - k) (wrap64 (x + wrap64 (dg.bit a0 i * dg.bit a1 k))) from by rw [h2, h1]; rfl]
            exact n0_.out
        · have hk : k = 62 := by have := HK.out; omega
          subst hk
          go_wp2
          go_roundg (62 - (i + 1))
          case measure => have := HI.out; omega
          case rel => exact ⟨i + 1, by go_num, ⟨by omega⟩, ⟨BK5.out⟩, ⟨HB.out⟩⟩
    · have hi : i = 62 := by have := HI.out; omega
      subst hi
      clear hlt
      go_wp2
      go_loopg [8] 127 (fun kq v8 w' => ∃ n : Nat, v8 = .int .i64 (127 - (n : Int)) ∧ Aside0 (n + kq = 127) ∧ Aside0 (w'.heap[gb5]? = some (.cells (dg.row (dg.carry (dg.outer a0 a1 62) n)) 63 (0, 0))) ∧ Aside0 (Below w.heap.size w w'))
      case atStart => exact ⟨0, rfl, ⟨rfl⟩, ⟨BK5.out⟩, ⟨HB.out⟩⟩
      case round =>
        clear BK5 HB
        obtain ⟨n, rfl, HN, BK5, HB⟩ := hrel
        by_cases hln : 0 < gk
        · obtain ⟨m, hm⟩ : ∃ m : Nat, 127 - (n : Int) = m + 1 := ⟨126 - n, by have := HN.out; omega⟩
          rw [hm]
          have hm2 : (m : Int) ≤ 126 := by omega
          have hlen : (dg.carry (dg.outer a0 a1 62) n).length = 128 := by rw [dg.len_carry, dg.len_outer]
          have hx1 := dg.cell BK5.out m (by omega)
          have hx2 := dg.cell BK5.out (m + 1) (by omega)
          have hf1 := blk_frozen BK5.out m
          have hf2 := blk_frozen BK5.out (m + 1)
          obtain ⟨s, HS⟩ : ∃ s, s = dg.carry (dg.outer a0 a1 62) n := ⟨_, rfl⟩
          rw [← HS] at BK5 hx1 hx2 hlen
          obtain ⟨x, HX⟩ : ∃ x, x = s.getD m 0 := ⟨_, rfl⟩
          obtain ⟨y, HY⟩ : ∃ y, y = s.getD (m + 1) 0 := ⟨_, rfl⟩
          rw [← HX] at hx1
          rw [← HY] at hx2
          have NS := Aside0.mk (And.intro HS (And.intro HX (And.intro HY (And.intro hlen hm))))
          clear HS HX HY hlen hm
          go_wp2
          go_region
          have n0_ : Aside0 (((wr.setCell ⟨gb5, m, none⟩ (.int .i64 (wrap64 (x + wrap64 (Int.tdiv y 2))))).drew).heap[gb5]? = some (.cells (dg.row (s.set m (wrap64 (x + wrap64 (Int.tdiv y 2))))) 63 (0, 0))) := ⟨blk_drew (dg.set BK5.out m _)⟩
          have n1_ : Aside0 (Below w.heap.size w ((wr.setCell ⟨gb5, m, none⟩ (.int .i64 (wrap64 (x + wrap64 (Int.tdiv y 2))))).drew)) := ⟨below_drew1 (below_set HB.out GE5.out)⟩
          clear BK5 HB hx1 hx2 hf1 hf2
          generalize ((wr.setCell ⟨gb5, m, none⟩ (.int .i64 (wrap64 (x + wrap64 (Int.tdiv y 2))))).drew) = w9 at n0_ n1_ ⊢
          have hy2 : w9.cell? ⟨gb5, m + 1, none⟩ = some (.int .i64 y) := by
            have h3 := dg.cell n0_.out (m + 1) (by rw [List.length_set]; have := NS.out.2.2.2.1; omega)
            rw [h3, NS.out.2.2.1]
            simp [List.getD_eq_getElem?_getD, List.getElem?_set_ne]
          have hf3 := blk_frozen n0_.out (m + 1)
          go_wp2
          have n2_ := Aside0.mk (dg.set n0_.out (m + 1) (Int.tmod y 2))
          go_roundg (gk - 1)
          case measure => have := HN.out; omega
          case rel =>
            refine ⟨n + 1, by have := NS.out.2.2.2.2; go_num, ⟨by have := HN.out; omega⟩, ⟨?_⟩, ⟨below_set n1_.out GE5.out⟩⟩
            have h1 := NS.out.1
            have h2 := NS.out.2.1
            have h3 := NS.out.2.2.1
            have h4 := NS.out.2.2.2.2
            have h5 : 127 - n = m + 1 := by omega
            rw [show dg.carry (dg.outer a0 a1 62) (n + 1) = (s.set m (wrap64 (x + wrap64 (Int.tdiv y 2)))).set (m + 1) (Int.tmod y 2) from by rw [h2, h3, h1]; simp only [dg.carry, dg.down, h5, Nat.add_sub_cancel]]
            exact n2_.out
        · have hn : n = 127 := by have := HN.out; omega
          subst hn
          go_wp2
          go_ret
          have e1 : r = dg.carry (dg.outer a0 a1 62) 127 := (Option.some.inj A1.out).symm
          have hlen : r.length = 128 := by rw [e1, dg.len_carry, dg.len_outer]
          rw [← e1] at BK5
          refine ⟨_, rfl, ⟨fun _ _ => trivial, r.map (Value.int .i64), ?_, ?_⟩, HB.out⟩
          · refine ⟨by simp [Kd.int, Kd.scalar], .inr ⟨gb5, 128, dg.row r, by rw [hlen]; rfl, GE5.out, BK5.out, by omega, by decide, by simp [dg.row, hlen, Kd.int, Kd.scalar], ?_⟩⟩
            simp [dg.row, Kd.int, Kd.scalar, List.take_of_length_le]
          · refine ⟨by simp [Kd.int, Kd.scalar], ?_⟩
            intro j p hj
            have hl := (List.getElem?_eq_some_iff.1 hj).1
            simp only [Kd.int, Kd.scalar, Nat.mul_one]
            rw [List.drop_eq_getElem_cons (by simpa using hl)]
            simp only [List.take_succ_cons, List.take_zero, List.getElem_map]
            rw [(List.getElem?_eq_some_iff.1 hj).2]

/-! ### clepsydraref02_Ratio: function 46 -/
def clepsydraref02_Ratio.l0 : Nat → Int → Int → Int → List Int → Int → Int → Option (Int × Bool)
  | 0, _, _, _, _, _, _ => none
  | k + 1, x2, x8, x9, x14, x15, x16 => if x16 < x15 then (if 0 ≤ x16 then (if x16 < (x14.length : Int) then ((clepsydraref01_Clip.f (wrap64 (2 * x8))).bind fun t285 => (if (wrap64 ((wrap64 (2 * x9)) + (rd x14 x16))) ≥ x2 then ((clepsydraref01_Clip.f (wrap64 (t285 + 1))).bind fun t286 => (clepsydraref02_Ratio.l0 k x2 t286 (wrap64 ((wrap64 ((wrap64 (2 * x9)) + (rd x14 x16))) - x2)) x14 x15 (wrap64 (x16 + 1)))) else (clepsydraref02_Ratio.l0 k x2 t285 (wrap64 ((wrap64 (2 * x9)) + (rd x14 x16))) x14 x15 (wrap64 (x16 + 1))))) else (none)) else (none)) else (some (x8, decide (x9 > 0)))
def clepsydraref02_Ratio.f (k : Nat) (a0 : Int) (a1 : Int) (a2 : Int) : Option (Int × Bool) := (clepsydraref02_Digits.f a0 a1).bind fun t281 => (clepsydraref02_Ratio.l0 k a2 0 0 t281 (t281.length : Int) 0)
theorem clepsydraref02_Ratio.mono_l : ∀ k, (∀ y0 y1 y2 y3 y4 y5, LeO (clepsydraref02_Ratio.l0 k y0 y1 y2 y3 y4 y5) (clepsydraref02_Ratio.l0 (k + 1) y0 y1 y2 y3 y4 y5))
  | 0 => fun _ _ _ _ _ _ r h => by simp [clepsydraref02_Ratio.l0] at h
  | k + 1 => by
    have ih0 := clepsydraref02_Ratio.mono_l k
    · intro y0 y1 y2 y3 y4 y5
      unfold clepsydraref02_Ratio.l0
      repeat' first
      | (with_reducible exact ih0 _ _ _ _ _ _)
      | (with_reducible exact LeO.refl _)
      | (with_reducible exact LeO.none _)
      | (with_reducible refine LeO.ite ?_ ?_)
      | (with_reducible refine LeO.bind ?_ (fun _ => ?_))
      | exact ih0 _ _ _ _ _ _
      | exact LeO.none _
      | refine LeO.ite ?_ ?_
      | refine LeO.bind ?_ (fun _ => ?_)
theorem clepsydraref02_Ratio.mono : ∀ a0 a1 a2 k, LeO (clepsydraref02_Ratio.f k a0 a1 a2) (clepsydraref02_Ratio.f (k + 1) a0 a1 a2) := by
  intro a0 a1 a2 k
  have ih0 := clepsydraref02_Ratio.mono_l k
  unfold clepsydraref02_Ratio.f
  repeat' first
      | (with_reducible exact ih0 _ _ _ _ _ _)
      | (with_reducible exact LeO.refl _)
      | (with_reducible exact LeO.none _)
      | (with_reducible refine LeO.ite ?_ ?_)
      | (with_reducible refine LeO.bind ?_ (fun _ => ?_))
      | exact ih0 _ _ _ _ _ _
      | exact LeO.none _
      | refine LeO.ite ?_ ?_
      | refine LeO.bind ?_ (fun _ => ?_)
set_option maxHeartbeats 8000000 in
set_option maxRecDepth 100000 in
theorem clepsydraref02_Ratio.calls (k : Nat) (a0 : Int) (a1 : Int) (a2 : Int) (r1 : Int) (r2 : Bool) (w : World) (h : clepsydraref02_Ratio.f k a0 a1 a2 = some (r1, r2)) :
    Calls Try.prog 46 #[.int .i64 a0, .int .i64 a1, .int .i64 a2] w fun e w' => e = .returned (.tuple #[.int .i64 r1, .bool r2]) ∧ Below w.heap.size w w' := by
  have HB := Aside0.mk (Below.refl w.heap.size w)
  have H : ((clepsydraref02_Digits.f a0 a1).bind fun t281 => (clepsydraref02_Ratio.l0 k a2 0 0 t281 (t281.length : Int) 0)) = some (r1, r2) := h
  clear h
  replace H := Option.bind_eq_some_iff.mp H
  obtain ⟨t281, A40, H⟩ := H
  replace H : (clepsydraref02_Ratio.l0 k a2 0 0 t281 (t281.length : Int) 0) = some (r1, r2) := H
  have A4 := Aside0.mk A40
  clear A40
  have H' := Aside0.mk H
  clear H
  go_enter Try.func46, Try.ntmps46
  go_wp2_with (first | ((with_reducible refine gate_callee (f := 51) rfl ?_); refine goesL_ (some 14) rfl rfl Try.func51 (by kernel_rfl) rfl #[.int .i64 a0, .int .i64 a1] rfl (by (try simp only [List.map_toArray, List.map_cons, List.map_nil]); first | done | rfl | (simp only [List.length_drop, List.length_take]; rfl)) ?_; (with_reducible refine (clepsydraref02_Digits.calls a0 a1 t281 _ A4.out).mono ?_); rintro e w5 ⟨v282, rfl, ho0, hb⟩; refine ⟨_, rfl, ?_⟩; have n0_ := Aside0.mk (Kd.R_lower ho0 (below_size (by repeat (first | (with_reducible first | exact HB.out | apply below_alloc | apply pw_below_drewN | apply below_drew1) | exact HB.out)))); have n1_ := Aside0.mk (below_step (by repeat (first | (with_reducible first | exact HB.out | apply below_alloc | apply pw_below_drewN | apply below_drew1) | exact HB.out)) hb); clear HB; have HO283 := n0_; have HB := n1_; clear n0_ n1_; (try clear hb); (try clear hb2); (try clear hk); (try clear hi); (try clear ho0); obtain ⟨Ao6, co6, eo6⟩ := Kd.R_slice HO283.out; subst eo6))
  go_loopg [8, 9, 16] k (fun kq v8 v9 v16 w' => ∃ (x8_1 : Int) (x9_1 : Int) (x16_1 : Int), v8 = .int .i64 x8_1 ∧ v9 = .int .i64 x9_1 ∧ v16 = .int .i64 x16_1 ∧ Aside0 (clepsydraref02_Ratio.l0 kq a2 x8_1 x9_1 t281 (t281.length : Int) x16_1 = some (r1, r2)) ∧ Aside0 (kq ≤ k) ∧ Aside0 (Kd.R (Kd.int .i64) 63 w' w.heap.size (fun _ => True) (.slice Ao6 t281.length co6) t281) ∧ Aside0 (Below w.heap.size w w'))
  case atStart => exact ⟨(0), (0), (0), (by first | rfl | (simp; done) | (simp [*]; done) | (simp [Int.tdiv_eq_ediv_of_nonneg]; done) | (simp [Go.RowKit.wrap64]; done) | (simp [*, Go.RowKit.wrap64]; done)), (by first | rfl | (simp; done) | (simp [*]; done) | (simp [Int.tdiv_eq_ediv_of_nonneg]; done) | (simp [Go.RowKit.wrap64]; done) | (simp [*, Go.RowKit.wrap64]; done)), (by first | rfl | (simp; done) | (simp [*]; done) | (simp [Int.tdiv_eq_ediv_of_nonneg]; done) | (simp [Go.RowKit.wrap64]; done) | (simp [*, Go.RowKit.wrap64]; done)), H', ⟨Nat.le_refl _⟩, ⟨by (with_reducible repeat (first | apply Kd.R_alloc | apply Kd.R_drewN | apply Kd.R_drew)); exact HO283.out⟩, ⟨by repeat (first | (with_reducible first | exact HB.out | apply below_alloc | apply pw_below_drewN | apply below_drew1) | exact HB.out)⟩⟩
  case round =>
    clear H'
    try clear p2
    try clear c4
    try clear c5
    obtain ⟨x8_1, x9_1, x16_1, rfl, rfl, rfl, HA, HK1, HO_14, HB⟩ := hrel
    cases gk with
    | zero => exact absurd HA.out (by simp [clepsydraref02_Ratio.l0])
    | succ k1 =>
      have H := HA.out
      clear HA
      simp only [clepsydraref02_Ratio.l0] at H
      by_cases c7 : x16_1 < (t281.length : Int)
      · rw [if_pos c7] at H
        have c7b0 : decide (x16_1 < (t281.length : Int)) = true := decide_eq_true c7
        clear c7
        by_cases c8 : 0 ≤ x16_1
        · rw [if_pos c8] at H
          have c8b0 : decide (0 ≤ x16_1) = true := decide_eq_true c8
          clear c8
          by_cases c9 : x16_1 < (t281.length : Int)
          · rw [if_pos c9] at H
            have c9b0 : decide (x16_1 < (t281.length : Int)) = true := decide_eq_true c9
            clear c9
            replace H := Option.bind_eq_some_iff.mp H
            obtain ⟨t285, A100, H⟩ := H
            replace H : (if (wrap64 ((wrap64 (2 * x9_1)) + (rd t281 x16_1))) ≥ a2 then ((clepsydraref01_Clip.f (wrap64 (t285 + 1))).bind fun t286 => (clepsydraref02_Ratio.l0 k1 a2 t286 (wrap64 ((wrap64 ((wrap64 (2 * x9_1)) + (rd t281 x16_1))) - a2)) t281 (t281.length : Int) (wrap64 (x16_1 + 1)))) else (clepsydraref02_Ratio.l0 k1 a2 t285 (wrap64 ((wrap64 (2 * x9_1)) + (rd t281 x16_1))) t281 (t281.length : Int) (wrap64 (x16_1 + 1)))) = some (r1, r2) := H
            have A10 := Aside0.mk A100
            clear A100
            by_cases c11 : (wrap64 ((wrap64 (2 * x9_1)) + (rd t281 x16_1))) ≥ a2
            · rw [if_pos c11] at H
              have c11b0 : decide (a2 ≤ (wrap64 ((wrap64 (2 * x9_1)) + (rd t281 x16_1)))) = true := decide_eq_true c11
              clear c11
              replace H := Option.bind_eq_some_iff.mp H
              obtain ⟨t286, A120, H⟩ := H
              replace H : (clepsydraref02_Ratio.l0 k1 a2 t286 (wrap64 ((wrap64 ((wrap64 (2 * x9_1)) + (rd t281 x16_1))) - a2)) t281 (t281.length : Int) (wrap64 (x16_1 + 1))) = some (r1, r2) := H
              have A12 := Aside0.mk A120
              clear A120
              have H' := Aside0.mk H
              clear H
              have p284 : 0 ≤ (x16_1 : Int) := of_decide_eq_true (by first | (with_reducible assumption) | assumption)
              have q284 : x16_1 < (t281.length : Int) := of_decide_eq_true (by first | (with_reducible assumption) | assumption)
              obtain ⟨ad284, e284, hx284_0⟩ := Kd.at_int (Kd.R_reads' HO_14.out).2.2 x16_1 p284 q284
              cases e284
              replace p284 := eq_true p284
              replace q284 := eq_true q284
              go_wp2_with (first | ((with_reducible refine gate_callee (f := 14) rfl ?_); refine goesL_ (some 26) rfl rfl Try.func14 (by kernel_rfl) rfl #[.int .i64 (wrap64 (2 * x8_1))] rfl (by (try simp only [List.map_toArray, List.map_cons, List.map_nil]); first | done | rfl | (simp only [List.length_drop, List.length_take]; rfl)) ?_; (with_reducible refine (clepsydraref01_Clip.calls (wrap64 (2 * x8_1)) t285 _ A10.out).mono ?_); rintro e w' ⟨rfl, ⟨nd, rfl⟩⟩; refine ⟨_, rfl, ?_⟩) | ((with_reducible refine gate_callee (f := 14) rfl ?_); refine goesL_ (some 35) rfl rfl Try.func14 (by kernel_rfl) rfl #[.int .i64 (wrap64 (t285 + 1))] rfl (by (try simp only [List.map_toArray, List.map_cons, List.map_nil]); first | done | rfl | (simp only [List.length_drop, List.length_take]; rfl)) ?_; (with_reducible refine (clepsydraref01_Clip.calls (wrap64 (t285 + 1)) t286 _ A12.out).mono ?_); rintro e w' ⟨rfl, ⟨nd, rfl⟩⟩; refine ⟨_, rfl, ?_⟩))
              go_roundg k1
              case measure => have := HK1.out; omega
              case rel => exact ⟨(t286), (wrap64 ((wrap64 ((wrap64 (2 * x9_1)) + (rd t281 x16_1))) - a2)), (wrap64 (x16_1 + 1)), (by first | rfl | (simp; done) | (simp [*]; done) | (simp [Int.tdiv_eq_ediv_of_nonneg]; done) | (simp [Go.RowKit.wrap64]; done) | (simp [*, Go.RowKit.wrap64]; done)), (by first | rfl | (simp; done) | (simp [*]; done) | (simp [Int.tdiv_eq_ediv_of_nonneg]; done) | (simp [Go.RowKit.wrap64]; done) | (simp [*, Go.RowKit.wrap64]; done)), (by first | rfl | (simp; done) | (simp [*]; done) | (simp [Int.tdiv_eq_ediv_of_nonneg]; done) | (simp [Go.RowKit.wrap64]; done) | (simp [*, Go.RowKit.wrap64]; done)), H', ⟨by have := HK1.out; omega⟩, ⟨by (with_reducible repeat (first | apply Kd.R_alloc | apply Kd.R_drewN | apply Kd.R_drew)); exact HO_14.out⟩, ⟨by repeat (first | (with_reducible first | exact HB.out | apply below_alloc | apply pw_below_drewN | apply below_drew1) | exact HB.out)⟩⟩
            · rw [if_neg c11] at H
              have c11b0 : decide (a2 ≤ (wrap64 ((wrap64 (2 * x9_1)) + (rd t281 x16_1)))) = false := decide_eq_false c11
              clear c11
              have H' := Aside0.mk H
              clear H
              have p284 : 0 ≤ (x16_1 : Int) := of_decide_eq_true (by first | (with_reducible assumption) | assumption)
              have q284 : x16_1 < (t281.length : Int) := of_decide_eq_true (by first | (with_reducible assumption) | assumption)
              obtain ⟨ad284, e284, hx284_0⟩ := Kd.at_int (Kd.R_reads' HO_14.out).2.2 x16_1 p284 q284
              cases e284
              replace p284 := eq_true p284
              replace q284 := eq_true q284
              go_wp2_with (first | ((with_reducible refine gate_callee (f := 14) rfl ?_); refine goesL_ (some 26) rfl rfl Try.func14 (by kernel_rfl) rfl #[.int .i64 (wrap64 (2 * x8_1))] rfl (by (try simp only [List.map_toArray, List.map_cons, List.map_nil]); first | done | rfl | (simp only [List.length_drop, List.length_take]; rfl)) ?_; (with_reducible refine (clepsydraref01_Clip.calls (wrap64 (2 * x8_1)) t285 _ A10.out).mono ?_); rintro e w' ⟨rfl, ⟨nd, rfl⟩⟩; refine ⟨_, rfl, ?_⟩))
              go_roundg k1
              case measure => have := HK1.out; omega
              case rel => exact ⟨(t285), (wrap64 ((wrap64 (2 * x9_1)) + (rd t281 x16_1))), (wrap64 (x16_1 + 1)), (by first | rfl | (simp; done) | (simp [*]; done) | (simp [Int.tdiv_eq_ediv_of_nonneg]; done) | (simp [Go.RowKit.wrap64]; done) | (simp [*, Go.RowKit.wrap64]; done)), (by first | rfl | (simp; done) | (simp [*]; done) | (simp [Int.tdiv_eq_ediv_of_nonneg]; done) | (simp [Go.RowKit.wrap64]; done) | (simp [*, Go.RowKit.wrap64]; done)), (by first | rfl | (simp; done) | (simp [*]; done) | (simp [Int.tdiv_eq_ediv_of_nonneg]; done) | (simp [Go.RowKit.wrap64]; done) | (simp [*, Go.RowKit.wrap64]; done)), H', ⟨by have := HK1.out; omega⟩, ⟨by (with_reducible repeat (first | apply Kd.R_alloc | apply Kd.R_drewN | apply Kd.R_drew)); exact HO_14.out⟩, ⟨by repeat (first | (with_reducible first | exact HB.out | apply below_alloc | apply pw_below_drewN | apply below_drew1) | exact HB.out)⟩⟩
          · rw [if_neg c9] at H
            exact absurd H (by simp)
        · rw [if_neg c8] at H
          exact absurd H (by simp)
      · rw [if_neg c7] at H
        have c7b0 : decide (x16_1 < (t281.length : Int)) = false := decide_eq_false c7
        clear c7
        simp only [Option.some.injEq, Prod.mk.injEq] at H
        obtain ⟨rfl, rfl⟩ := H
        go_wp2
        go_ret2
        exact ⟨by first | rfl | (simp [errW_none, errW_some] <;> rfl) | (simp [*, errW_none, errW_some] <;> rfl), by repeat (first | (with_reducible first | exact HB.out | apply below_alloc | apply pw_below_drewN | apply below_drew1) | exact HB.out)⟩

/-! ### clepsydraref02_one: function 47 -/
def clepsydraref02_one.f (a0 : Int) : Option (Int) := (clepsydraref01_Clip.f a0).bind fun t287 => (if t287 < 1 then (some 1) else (some t287))
set_option maxHeartbeats 8000000 in
set_option maxRecDepth 100000 in
theorem clepsydraref02_one.calls (a0 : Int) (r : Int) (w : World) (h : clepsydraref02_one.f a0 = some r) :
    Calls Try.prog 47 #[.int .i64 a0] w fun e w' => e = .returned (.int .i64 r) ∧ Drawn0 w w' := by
  have H : ((clepsydraref01_Clip.f a0).bind fun t287 => (if t287 < 1 then (some 1) else (some t287))) = some r := h
  clear h
  replace H := Option.bind_eq_some_iff.mp H
  obtain ⟨t287, A20, H⟩ := H
  replace H : (if t287 < 1 then (some 1) else (some t287)) = some r := H
  have A2 := Aside0.mk A20
  clear A20
  by_cases c3 : t287 < 1
  · rw [if_pos c3] at H
    have c3b0 : decide (t287 < 1) = true := decide_eq_true c3
    clear c3
    obtain rfl := Option.some.inj H
    go_enter Try.func47, Try.ntmps47
    go_wp2_with (first | ((with_reducible refine gate_callee (f := 14) rfl ?_); refine goesL_ (some 4) rfl rfl Try.func14 (by kernel_rfl) rfl #[.int .i64 a0] rfl (by (try simp only [List.map_toArray, List.map_cons, List.map_nil]); first | done | rfl | (simp only [List.length_drop, List.length_take]; rfl)) ?_; (with_reducible refine (clepsydraref01_Clip.calls a0 t287 _ A2.out).mono ?_); rintro e w' ⟨rfl, ⟨nd, rfl⟩⟩; refine ⟨_, rfl, ?_⟩))
    go_ret
    exact ⟨by first | rfl | (simp; done) | (simp [*]; done) | (simp [Int.tdiv_eq_ediv_of_nonneg]; done) | (simp [Go.RowKit.wrap64]; done) | (simp [*, Go.RowKit.wrap64]; done), by repeat (first | exact Drawn0.refl _ | apply Drawn0.step)⟩
  · rw [if_neg c3] at H
    have c3b0 : decide (t287 < 1) = false := decide_eq_false c3
    clear c3
    obtain rfl := Option.some.inj H
    go_enter Try.func47, Try.ntmps47
    go_wp2_with (first | ((with_reducible refine gate_callee (f := 14) rfl ?_); refine goesL_ (some 4) rfl rfl Try.func14 (by kernel_rfl) rfl #[.int .i64 a0] rfl (by (try simp only [List.map_toArray, List.map_cons, List.map_nil]); first | done | rfl | (simp only [List.length_drop, List.length_take]; rfl)) ?_; (with_reducible refine (clepsydraref01_Clip.calls a0 t287 _ A2.out).mono ?_); rintro e w' ⟨rfl, ⟨nd, rfl⟩⟩; refine ⟨_, rfl, ?_⟩))
    go_ret
    exact ⟨by first | rfl | (simp; done) | (simp [*]; done) | (simp [Int.tdiv_eq_ediv_of_nonneg]; done) | (simp [Go.RowKit.wrap64]; done) | (simp [*, Go.RowKit.wrap64]; done), by repeat (first | exact Drawn0.refl _ | apply Drawn0.step)⟩

end Go.Proofs.Ytopnmlambbimpaa.Q
