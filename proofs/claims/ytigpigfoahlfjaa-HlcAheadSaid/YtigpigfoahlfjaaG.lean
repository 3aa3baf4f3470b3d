/- Values of struct types that can be read as data are aggregates of numbers that fit, one for each field; for the struct types of this seat's statements. -/
import Derived.Test.YtigpigfoahlfjaaProg
import Derived.Lib.SmallJoins
set_option linter.unusedVariables false
set_option linter.unusedSimpArgs false
namespace Go.Proofs.Ytigpigfoahlfjaa.G
open Go.Joins Go.ChangeShapes Go.WideShapes Go.RowKit Go.Deep
theorem cells3 : Try.prog.cellsOf 3 = 1 := by kernel_rfl
theorem cells51 : Try.prog.cellsOf 51 = 3 := by kernel_rfl
theorem trod_T51 {H : Type} {enc : TypeId × Value → H} {w : World} {base : Nat} {spare : Nat → Bool} {held : Bool} {n : Nat} {c : List Value} {y : DataW H × List MemPlace} (h : DataW.trod enc Try.prog w base spare held n 51 c = some y) (hl : c.length = 3) :
    ∃ (a0 : Int) (a1 : Int) (a2 : Int), c = [.int .i64 a0, .int .i64 a1, .int .i64 a2] ∧ (Lit.int .i64 a0).wf = true ∧ (Lit.int .i64 a1).wf = true ∧ (Lit.int .i64 a2).wf = true := by
  match c, hl with
  | [c0, c1, c2], _ =>
    obtain ⟨xs, m, _, hx, _, hlen, hg⟩ := DataW.trod_struct Try.underlying51 h
    match xs, hlen with
    | [y0, y1, y2], _ =>
      have g0 : DataW.trod enc Try.prog w base spare held m 3 [c0] = some y0 := by have h_ := hg 0 _ rfl; simpa [cells3] using h_
      obtain ⟨a0, e0, _, w0⟩ := DataW.trod_int Try.underlying3 g0
      simp only [List.cons.injEq, and_true] at e0
      subst e0
      have g1 : DataW.trod enc Try.prog w base spare held m 3 [c1] = some y1 := by have h_ := hg 1 _ rfl; simpa [cells3] using h_
      obtain ⟨a1, e1, _, w1⟩ := DataW.trod_int Try.underlying3 g1
      simp only [List.cons.injEq, and_true] at e1
      subst e1
      have g2 : DataW.trod enc Try.prog w base spare held m 3 [c2] = some y2 := by have h_ := hg 2 _ rfl; simpa [cells3] using h_
      obtain ⟨a2, e2, _, w2⟩ := DataW.trod_int Try.underlying3 g2
      simp only [List.cons.injEq, and_true] at e2
      subst e2
      exact ⟨_, _, _, rfl, w0, w1, w2⟩
theorem open_T51 {H : Type} {enc : TypeId × Value → H} {w : World} {base b0 : Nat} {spare : Nat → Bool} {held : Bool} {r : Reach} {v : Value} {d : DataW H} {p : List MemPlace} (hv : Value.okWide Try.prog w r b0 51 v) (h : DataW.Trod enc Try.prog w base spare held 51 v d p) :
    ∃ (a0 : Int) (a1 : Int) (a2 : Int), v = .agg #[.int .i64 a0, .int .i64 a1, .int .i64 a2] ∧ (Lit.int .i64 a0).wf = true ∧ (Lit.int .i64 a1).wf = true ∧ (Lit.int .i64 a2).wf = true := by
  obtain ⟨cs, rfl, hsz⟩ := okWide_struct Try.underlying51 hv
  obtain ⟨l⟩ := cs
  obtain ⟨fuel, hf⟩ := h
  obtain ⟨a0, a1, a2, e, w0, w1, w2⟩ := trod_T51 (c := l) (by simpa [Value.cells] using hf) (by simpa [cells51] using hsz)
  subst e
  exact ⟨_, _, _, rfl, w0, w1, w2⟩
end Go.Proofs.Ytigpigfoahlfjaa.G
