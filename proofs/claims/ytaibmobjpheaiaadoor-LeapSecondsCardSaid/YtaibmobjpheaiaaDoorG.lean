/- Values of struct types that can be read as data are aggregates of numbers that fit, one for each field; for the struct types of this seat's statements. -/
import Derived.Test.YtaibmobjpheaiaaDoorProg
import Derived.Lib.SmallJoins
set_option linter.unusedVariables false
set_option linter.unusedSimpArgs false
namespace Go.Proofs.YtaibmobjpheaiaaDoor.G
open Go.Joins Go.ChangeShapes Go.WideShapes Go.RowKit Go.Deep
theorem cells3 : Tryd.prog.cellsOf 3 = 1 := by kernel_rfl
theorem cells26 : Tryd.prog.cellsOf 26 = 6 := by kernel_rfl
theorem cells40 : Tryd.prog.cellsOf 40 = 2 := by kernel_rfl
theorem trod_T26 {H : Type} {enc : TypeId × Value → H} {w : World} {base : Nat} {spare : Nat → Bool} {held : Bool} {n : Nat} {c : List Value} {y : DataW H × List MemPlace} (h : DataW.trod enc Tryd.prog w base spare held n 26 c = some y) (hl : c.length = 6) :
    ∃ (a0 : Int) (a1 : Int) (a2 : Int) (a3 : Int) (a4 : Int) (a5 : Int), c = [.int .i64 a0, .int .i64 a1, .int .i64 a2, .int .i64 a3, .int .i64 a4, .int .i64 a5] ∧ (Lit.int .i64 a0).wf = true ∧ (Lit.int .i64 a1).wf = true ∧ (Lit.int .i64 a2).wf = true ∧ (Lit.int .i64 a3).wf = true ∧ (Lit.int .i64 a4).wf = true ∧ (Lit.int .i64 a5).wf = true := by
  match c, hl with
  | [c0, c1, c2, c3, c4, c5], _ =>
    obtain ⟨xs, m, _, hx, _, hlen, hg⟩ := DataW.trod_struct Tryd.underlying26 h
    match xs, hlen with
    | [y0, y1, y2, y3, y4, y5], _ =>
      have g0 : DataW.trod enc Tryd.prog w base spare held m 3 [c0] = some y0 := by have h_ := hg 0 _ rfl; simpa [cells3] using h_
      obtain ⟨a0, e0, _, w0⟩ := DataW.trod_int Tryd.underlying3 g0
      simp only [List.cons.injEq, and_true] at e0
      subst e0
      have g1 : DataW.trod enc Tryd.prog w base spare held m 3 [c1] = some y1 := by have h_ := hg 1 _ rfl; simpa [cells3] using h_
      obtain ⟨a1, e1, _, w1⟩ := DataW.trod_int Tryd.underlying3 g1
      simp only [List.cons.injEq, and_true] at e1
      subst e1
      have g2 : DataW.trod enc Tryd.prog w base spare held m 3 [c2] = some y2 := by have h_ := hg 2 _ rfl; simpa [cells3] using h_
      obtain ⟨a2, e2, _, w2⟩ := DataW.trod_int Tryd.underlying3 g2
      simp only [List.cons.injEq, and_true] at e2
      subst e2
      have g3 : DataW.trod enc Tryd.prog w base spare held m 3 [c3] = some y3 := by have h_ := hg 3 _ rfl; simpa [cells3] using h_
      obtain ⟨a3, e3, _, w3⟩ := DataW.trod_int Tryd.underlying3 g3
      simp only [List.cons.injEq, and_true] at e3
      subst e3
      have g4 : DataW.trod enc Tryd.prog w base spare held m 3 [c4] = some y4 := by have h_ := hg 4 _ rfl; simpa [cells3] using h_
      obtain ⟨a4, e4, _, w4⟩ := DataW.trod_int Tryd.underlying3 g4
      simp only [List.cons.injEq, and_true] at e4
      subst e4
      have g5 : DataW.trod enc Tryd.prog w base spare held m 3 [c5] = some y5 := by have h_ := hg 5 _ rfl; simpa [cells3] using h_
      obtain ⟨a5, e5, _, w5⟩ := DataW.trod_int Tryd.underlying3 g5
      simp only [List.cons.injEq, and_true] at e5
      subst e5
      exact ⟨_, _, _, _, _, _, rfl, w0, w1, w2, w3, w4, w5⟩
theorem open_T26 {H : Type} {enc : TypeId × Value → H} {w : World} {base b0 : Nat} {spare : Nat → Bool} {held : Bool} {r : Reach} {v : Value} {d : DataW H} {p : List MemPlace} (hv : Value.okWide Tryd.prog w r b0 26 v) (h : DataW.Trod enc Tryd.prog w base spare held 26 v d p) :
    ∃ (a0 : Int) (a1 : Int) (a2 : Int) (a3 : Int) (a4 : Int) (a5 : Int), v = .agg #[.int .i64 a0, .int .i64 a1, .int .i64 a2, .int .i64 a3, .int .i64 a4, .int .i64 a5] ∧ (Lit.int .i64 a0).wf = true ∧ (Lit.int .i64 a1).wf = true ∧ (Lit.int .i64 a2).wf = true ∧ (Lit.int .i64 a3).wf = true ∧ (Lit.int .i64 a4).wf = true ∧ (Lit.int .i64 a5).wf = true := by
  obtain ⟨cs, rfl, hsz⟩ := okWide_struct Tryd.underlying26 hv
  obtain ⟨l⟩ := cs
  obtain ⟨fuel, hf⟩ := h
  obtain ⟨a0, a1, a2, a3, a4, a5, e, w0, w1, w2, w3, w4, w5⟩ := trod_T26 (c := l) (by simpa [Value.cells] using hf) (by simpa [cells26] using hsz)
  subst e
  exact ⟨_, _, _, _, _, _, rfl, w0, w1, w2, w3, w4, w5⟩
theorem trod_T40 {H : Type} {enc : TypeId × Value → H} {w : World} {base : Nat} {spare : Nat → Bool} {held : Bool} {n : Nat} {c : List Value} {y : DataW H × List MemPlace} (h : DataW.trod enc Tryd.prog w base spare held n 40 c = some y) (hl : c.length = 2) :
    ∃ (a0 : Int) (a1 : Int), c = [.int .i64 a0, .int .i64 a1] ∧ (Lit.int .i64 a0).wf = true ∧ (Lit.int .i64 a1).wf = true := by
  match c, hl with
  | [c0, c1], _ =>
    obtain ⟨xs, m, _, hx, _, hlen, hg⟩ := DataW.trod_struct Tryd.underlying40 h
    match xs, hlen with
    | [y0, y1], _ =>
      have g0 : DataW.trod enc Tryd.prog w base spare held m 3 [c0] = some y0 := by have h_ := hg 0 _ rfl; simpa [cells3] using h_
      obtain ⟨a0, e0, _, w0⟩ := DataW.trod_int Tryd.underlying3 g0
      simp only [List.cons.injEq, and_true] at e0
      subst e0
      have g1 : DataW.trod enc Tryd.prog w base spare held m 3 [c1] = some y1 := by have h_ := hg 1 _ rfl; simpa [cells3] using h_
      obtain ⟨a1, e1, _, w1⟩ := DataW.trod_int Tryd.underlying3 g1
      simp only [List.cons.injEq, and_true] at e1
      subst e1
      exact ⟨_, _, rfl, w0, w1⟩
theorem open_T40 {H : Type} {enc : TypeId × Value → H} {w : World} {base b0 : Nat} {spare : Nat → Bool} {held : Bool} {r : Reach} {v : Value} {d : DataW H} {p : List MemPlace} (hv : Value.okWide Tryd.prog w r b0 40 v) (h : DataW.Trod enc Tryd.prog w base spare held 40 v d p) :
    ∃ (a0 : Int) (a1 : Int), v = .agg #[.int .i64 a0, .int .i64 a1] ∧ (Lit.int .i64 a0).wf = true ∧ (Lit.int .i64 a1).wf = true := by
  obtain ⟨cs, rfl, hsz⟩ := okWide_struct Tryd.underlying40 hv
  obtain ⟨l⟩ := cs
  obtain ⟨fuel, hf⟩ := h
  obtain ⟨a0, a1, e, w0, w1⟩ := trod_T40 (c := l) (by simpa [Value.cells] using hf) (by simpa [cells40] using hsz)
  subst e
  exact ⟨_, _, rfl, w0, w1⟩
end Go.Proofs.YtaibmobjpheaiaaDoor.G
