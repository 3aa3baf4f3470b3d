/- The calls of these Go functions answer what the Lean functions beside them answer; written by a program (wip/pr2.py, out of the print of the loaded program); under no condition but those that stand in the theorems. -/
import Derived.Test.YtaibmobjpheaiaaDoorQx0
namespace Go.Proofs.YtaibmobjpheaiaaDoor.Q
open Go.RowKit Go.Proofs.YtaibmobjpheaiaaDoorW.PrintWords Go.Proofs.YtaibmobjpheaiaaDoorW.PrintLast Go.Proofs.YtaibmobjpheaiaaDoorW.PrintMore
attribute [local go_sem] max2_int min2_int max_two min_two max_three min_three max_four min_four   -- for this text's walks alone
set_option linter.unusedVariables false
set_option linter.unusedSimpArgs false

/-! ### clepsydraref18_Before: function 17 -/
def lab.row (l : List Int) : Array Value := (l.map (Value.int .i64)).toArray
theorem lab.cell {w : World} {g : Nat} {t : TypeId} {s : List Int} (h : w.heap[g]? = some (.cells (lab.row s) t (0, 0))) (j : Nat) (hj : j < s.length) : w.cell? ⟨g, j, none⟩ = some (.int .i64 (s.getD j 0)) := by
  rw [blk_cell h j]
  simp [lab.row, List.getElem?_map, List.getElem?_eq_getElem hj, List.getD_eq_getElem?_getD]
theorem lab.size (w : World) (o : Obj) : (w.alloc o).heap.size = w.heap.size + 1 := by
  show (w.heap.push o).size = _
  simp
def lab.before : List Int → List Int → Bool
  | x :: xs, y :: ys => if x = y then lab.before xs ys else decide (x < y)
  | _, _ => false
theorem lab.dropc (l : List Int) (i : Nat) (h : i < l.length) : l.drop i = l.getD i 0 :: l.drop (i + 1) := by
  rw [List.drop_eq_getElem_cons h]
  congr 1
  simp [List.getD_eq_getElem?_getD, List.getElem?_eq_getElem h]
def clepsydraref18_Before.f (a0_0 a0_1 a0_2 a0_3 a0_4 a0_5 a1_0 a1_1 a1_2 a1_3 a1_4 a1_5 : Int) : Option Bool := some (lab.before [a0_0, a0_1, a0_2, a0_3, a0_4, a0_5] [a1_0, a1_1, a1_2, a1_3, a1_4, a1_5])
set_option maxHeartbeats 8000000 in
set_option maxRecDepth 100000 in
theorem clepsydraref18_Before.calls (a0_0 a0_1 a0_2 a0_3 a0_4 a0_5 a1_0 a1_1 a1_2 a1_3 a1_4 a1_5 : Int) (r : Bool) (w : World) (h : clepsydraref18_Before.f a0_0 a0_1 a0_2 a0_3 a0_4 a0_5 a1_0 a1_1 a1_2 a1_3 a1_4 a1_5 = some r) :
    Calls Tryd.prog 17 #[.agg #[.int .i64 a0_0, .int .i64 a0_1, .int .i64 a0_2, .int .i64 a0_3, .int .i64 a0_4, .int .i64 a0_5], .agg #[.int .i64 a1_0, .int .i64 a1_1, .int .i64 a1_2, .int .i64 a1_3, .int .i64 a1_4, .int .i64 a1_5]] w fun e w' => e = .returned (.bool r) ∧ Below w.heap.size w w' := by
  have HB := Aside0.mk (Below.refl w.heap.size w)
  have A1 := Aside0.mk (Option.some.inj h)
  clear h
  obtain ⟨xs, HX⟩ : ∃ xs, xs = [a0_0, a0_1, a0_2, a0_3, a0_4, a0_5] := ⟨_, rfl⟩
  obtain ⟨ys, HY⟩ : ∃ ys, ys = [a1_0, a1_1, a1_2, a1_3, a1_4, a1_5] := ⟨_, rfl⟩
  rw [← HX, ← HY] at A1
  have NX := Aside0.mk HX
  have NY := Aside0.mk HY
  clear HX HY
  go_enter Tryd.func17, Tryd.ntmps17
  go_wp2
  have n5_ : Aside0 (((((w.alloc (.cells #[.int .i64 a0_0, .int .i64 a0_1, .int .i64 a0_2, .int .i64 a0_3, .int .i64 a0_4, .int .i64 a0_5] 26 (0, 0))).alloc (.cells #[.int .i64 a1_0, .int .i64 a1_1, .int .i64 a1_2, .int .i64 a1_3, .int .i64 a1_4, .int .i64 a1_5] 26 (0, 0))).alloc (.cells #[.int .i64 a0_0, .int .i64 a0_1, .int .i64 a0_2, .int .i64 a0_3, .int .i64 a0_4, .int .i64 a0_5] 58 (0, 0))).alloc (.cells #[.int .i64 a1_0, .int .i64 a1_1, .int .i64 a1_2, .int .i64 a1_3, .int .i64 a1_4, .int .i64 a1_5] 58 (0, 0))).heap[w.heap.size + 1 + 1]? = some (.cells (lab.row xs) 58 (0, 0))) := ⟨by
    have h_ := blk_alloc (blk_new ((w.alloc (.cells #[.int .i64 a0_0, .int .i64 a0_1, .int .i64 a0_2, .int .i64 a0_3, .int .i64 a0_4, .int .i64 a0_5] 26 (0, 0))).alloc (.cells #[.int .i64 a1_0, .int .i64 a1_1, .int .i64 a1_2, .int .i64 a1_3, .int .i64 a1_4, .int .i64 a1_5] 26 (0, 0))) (.cells #[.int .i64 a0_0, .int .i64 a0_1, .int .i64 a0_2, .int .i64 a0_3, .int .i64 a0_4, .int .i64 a0_5] 58 (0, 0))) (.cells #[.int .i64 a1_0, .int .i64 a1_1, .int .i64 a1_2, .int .i64 a1_3, .int .i64 a1_4, .int .i64 a1_5] 58 (0, 0))
    rw [lab.size, lab.size] at h_
    rw [NX.out]
    exact h_⟩
  have n6_ : Aside0 (((((w.alloc (.cells #[.int .i64 a0_0, .int .i64 a0_1, .int .i64 a0_2, .int .i64 a0_3, .int .i64 a0_4, .int .i64 a0_5] 26 (0, 0))).alloc (.cells #[.int .i64 a1_0, .int .i64 a1_1, .int .i64 a1_2, .int .i64 a1_3, .int .i64 a1_4, .int .i64 a1_5] 26 (0, 0))).alloc (.cells #[.int .i64 a0_0, .int .i64 a0_1, .int .i64 a0_2, .int .i64 a0_3, .int .i64 a0_4, .int .i64 a0_5] 58 (0, 0))).alloc (.cells #[.int .i64 a1_0, .int .i64 a1_1, .int .i64 a1_2, .int .i64 a1_3, .int .i64 a1_4, .int .i64 a1_5] 58 (0, 0))).heap[w.heap.size + 1 + 1 + 1]? = some (.cells (lab.row ys) 58 (0, 0))) := ⟨by
    have h_ := blk_new (((w.alloc (.cells #[.int .i64 a0_0, .int .i64 a0_1, .int .i64 a0_2, .int .i64 a0_3, .int .i64 a0_4, .int .i64 a0_5] 26 (0, 0))).alloc (.cells #[.int .i64 a1_0, .int .i64 a1_1, .int .i64 a1_2, .int .i64 a1_3, .int .i64 a1_4, .int .i64 a1_5] 26 (0, 0))).alloc (.cells #[.int .i64 a0_0, .int .i64 a0_1, .int .i64 a0_2, .int .i64 a0_3, .int .i64 a0_4, .int .i64 a0_5] 58 (0, 0))) (.cells #[.int .i64 a1_0, .int .i64 a1_1, .int .i64 a1_2, .int .i64 a1_3, .int .i64 a1_4, .int .i64 a1_5] 58 (0, 0))
    rw [lab.size, lab.size, lab.size] at h_
    rw [NY.out]
    exact h_⟩
  have n7_ : Aside0 (Below w.heap.size w ((((w.alloc (.cells #[.int .i64 a0_0, .int .i64 a0_1, .int .i64 a0_2, .int .i64 a0_3, .int .i64 a0_4, .int .i64 a0_5] 26 (0, 0))).alloc (.cells #[.int .i64 a1_0, .int .i64 a1_1, .int .i64 a1_2, .int .i64 a1_3, .int .i64 a1_4, .int .i64 a1_5] 26 (0, 0))).alloc (.cells #[.int .i64 a0_0, .int .i64 a0_1, .int .i64 a0_2, .int .i64 a0_3, .int .i64 a0_4, .int .i64 a0_5] 58 (0, 0))).alloc (.cells #[.int .i64 a1_0, .int .i64 a1_1, .int .i64 a1_2, .int .i64 a1_3, .int .i64 a1_4, .int .i64 a1_5] 58 (0, 0)))) := ⟨by repeat (first | exact HB.out | apply below_alloc)⟩
  clear HB
  generalize ((((w.alloc (.cells #[.int .i64 a0_0, .int .i64 a0_1, .int .i64 a0_2, .int .i64 a0_3, .int .i64 a0_4, .int .i64 a0_5] 26 (0, 0))).alloc (.cells #[.int .i64 a1_0, .int .i64 a1_1, .int .i64 a1_2, .int .i64 a1_3, .int .i64 a1_4, .int .i64 a1_5] 26 (0, 0))).alloc (.cells #[.int .i64 a0_0, .int .i64 a0_1, .int .i64 a0_2, .int .i64 a0_3, .int .i64 a0_4, .int .i64 a0_5] 58 (0, 0))).alloc (.cells #[.int .i64 a1_0, .int .i64 a1_1, .int .i64 a1_2, .int .i64 a1_3, .int .i64 a1_4, .int .i64 a1_5] 58 (0, 0))) = w9 at n5_ n6_ n7_ ⊢
  generalize w.heap.size + 1 + 1 + 1 = gb6 at n6_ ⊢
  generalize w.heap.size + 1 + 1 = gb5 at n5_ ⊢
  have hlx : xs.length = 6 := by rw [NX.out]; rfl
  have hly : ys.length = 6 := by rw [NY.out]; rfl
  have NL := Aside0.mk (And.intro hlx hly)
  clear hlx hly
  go_loopg [34] 6 (fun kq v34 w' => ∃ n : Nat, v34 = .int .i64 (n : Int) ∧ Aside0 (n + kq = 6 ∧ lab.before (xs.drop n) (ys.drop n) = r) ∧ Aside0 (w'.heap[gb5]? = some (.cells (lab.row xs) 58 (0, 0))) ∧ Aside0 (w'.heap[gb6]? = some (.cells (lab.row ys) 58 (0, 0))) ∧ Aside0 (Below w.heap.size w w'))
  case atStart => exact ⟨0, rfl, ⟨by omega, A1.out⟩, n5_, n6_, n7_⟩
  case round =>
    clear n5_ n6_ n7_
    obtain ⟨n, rfl, HI, BK5, BK6, HB⟩ := hrel
    by_cases hlt : (n : Int) < 6
    · have hx := lab.cell BK5.out n (by have := NL.out.1; omega)
      have hy := lab.cell BK6.out n (by have := NL.out.2; omega)
      have fx := blk_frozen BK5.out n
      have fy := blk_frozen BK6.out n
      have hb := HI.out.2
      rw [lab.dropc xs n (by have := NL.out.1; omega), lab.dropc ys n (by have := NL.out.2; omega)] at hb
      obtain ⟨x, HX⟩ : ∃ x, x = xs.getD n 0 := ⟨_, rfl⟩
      obtain ⟨y, HY⟩ : ∃ y, y = ys.getD n 0 := ⟨_, rfl⟩
      rw [← HX] at hx hb
      rw [← HY] at hy hb
      clear HX HY
      by_cases hxy : x = y
      · have e1 : lab.before (xs.drop (n + 1)) (ys.drop (n + 1)) = r := by rw [← hb]; exact (if_pos hxy).symm
        have NB := Aside0.mk e1
        have c1 : (x != y) = false := by rw [hxy]; simp
        clear e1 hb hxy
        go_wp2
        go_region
        go_wp2
        go_roundg (gk - 1)
        case measure => have := HI.out.1; omega
        case rel => exact ⟨n + 1, by go_num, ⟨by have := HI.out.1; omega, NB.out⟩, ⟨blk_drew BK5.out⟩, ⟨blk_drew BK6.out⟩, ⟨below_drew1 HB.out⟩⟩
      · have e1 : decide (x < y) = r := by rw [← hb]; exact (if_neg hxy).symm
        have c1 : (x != y) = true := by simp [bne, hxy]
        subst e1
        clear hb hxy
        go_wp2
        go_region
        go_wp2
        go_region
        go_wp2
        go_ret
        exact ⟨rfl, by repeat (first | exact HB.out | apply below_drew1)⟩
    · have hn : n = 6 := by have := HI.out.1; omega
      have hb := HI.out.2
      rw [hn, List.drop_eq_nil_of_le (by have := NL.out.1; omega)] at hb
      have hb : r = false := by rw [← hb]; rfl
      subst hb
      subst hn
      go_wp2
      go_ret
      exact ⟨rfl, HB.out⟩

end Go.Proofs.YtaibmobjpheaiaaDoor.Q
