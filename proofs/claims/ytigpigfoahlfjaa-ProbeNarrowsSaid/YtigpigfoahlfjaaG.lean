/- Values of struct types that can be read as data are aggregates of numbers that fit, one for each field; for the struct types of this seat's statements. -/
import Derived.Test.YtigpigfoahlfjaaProg
import Derived.Lib.SmallJoins
set_option linter.unusedVariables false
set_option linter.unusedSimpArgs false
namespace Go.Proofs.Ytigpigfoahlfjaa.G
open Go.Joins Go.ChangeShapes Go.WideShapes Go.RowKit Go.Deep
theorem cells3 : Try.prog.cellsOf 3 = 1 := by kernel_rfl
theorem cells23 : Try.prog.cellsOf 23 = 12 := by kernel_rfl
theorem cells57 : Try.prog.cellsOf 57 = 4 := by kernel_rfl
theorem trod_T23 {H : Type} {enc : TypeId × Value → H} {w : World} {base : Nat} {spare : Nat → Bool} {held : Bool} {n : Nat} {c : List Value} {y : DataW H × List MemPlace} (h : DataW.trod enc Try.prog w base spare held n 23 c = some y) (hl : c.length = 12) :
    ∃ (a0 : Int) (a1 : Int) (a2 : Int) (a3 : Int) (a4 : Int) (a5 : Int) (a6 : Int) (a7 : Int) (a8 : Int) (a9 : Int) (a10 : Int) (a11 : Int), c = [.int .i64 a0, .int .i64 a1, .int .i64 a2, .int .i64 a3, .int .i64 a4, .int .i64 a5, .int .i64 a6, .int .i64 a7, .int .i64 a8, .int .i64 a9, .int .i64 a10, .int .i64 a11] ∧ (Lit.int .i64 a0).wf = true ∧ (Lit.int .i64 a1).wf = true ∧ (Lit.int .i64 a2).wf = true ∧ (Lit.int .i64 a3).wf = true ∧ (Lit.int .i64 a4).wf = true ∧ (Lit.int .i64 a5).wf = true ∧ (Lit.int .i64 a6).wf = true ∧ (Lit.int .i64 a7).wf = true ∧ (Lit.int .i64 a8).wf = true ∧ (Lit.int .i64 a9).wf = true ∧ (Lit.int .i64 a10).wf = true ∧ (Lit.int .i64 a11).wf = true := by
  match c, hl with
  | [c0, c1, c2, c3, c4, c5, c6, c7, c8, c9, c10, c11], _ =>
    obtain ⟨xs, m, _, hx, _, hlen, hg⟩ := DataW.trod_struct Try.underlying23 h
    match xs, hlen with
    | [y0, y1, y2, y3, y4, y5, y6, y7, y8, y9, y10, y11], _ =>
      have g0 : DataW.trod enc Try.prog w base spare held m 3 [c0] = some y0 := by have h_ := hg 0 _ rfl; simpa [cells3] using h_
      obtain ⟨a0, e0, _, w0⟩ := DataW.trod_int Try.underlying3 g0
      simp only [List.cons.injEq, and_true] at e0
      subst e0
      have g1 : DataW.trod enc Try.prog w base spare held m 3 [c1] = some y1 := by have h_ := hg 1 _ rfl; simpa [cells3] using h_
      obtain ⟨a1, e1, _, w1⟩ := DataW.trod_int Try.underlying3 g1
      simp only [List.cons.injEq, and_true] at e1
      subst e1
      have g2 : DataW.trod enc Try.prog w base spare held m 3 [c2] = some y2 := by have h_ := hg 2 _ rfl; simpa [cells3] using h_
      obtain ⟨a2, e2, _, w2⟩ := DataW.trod_int Try.underlying3 g2
      simp only [List.cons.injEq, and_true] at e2
      subst e2
      have g3 : DataW.trod enc Try.prog w base spare held m 3 [c3] = some y3 := by have h_ := hg 3 _ rfl; simpa [cells3] using h_
      obtain ⟨a3, e3, _, w3⟩ := DataW.trod_int Try.underlying3 g3
      simp only [List.cons.injEq, and_true] at e3
      subst e3
      have g4 : DataW.trod enc Try.prog w base spare held m 3 [c4] = some y4 := by have h_ := hg 4 _ rfl; simpa [cells3] using h_
      obtain ⟨a4, e4, _, w4⟩ := DataW.trod_int Try.underlying3 g4
      simp only [List.cons.injEq, and_true] at e4
      subst e4
      have g5 : DataW.trod enc Try.prog w base spare held m 3 [c5] = some y5 := by have h_ := hg 5 _ rfl; simpa [cells3] using h_
      obtain ⟨a5, e5, _, w5⟩ := DataW.trod_int Try.underlying3 g5
      simp only [List.cons.injEq, and_true] at e5
      subst e5
      have g6 : DataW.trod enc Try.prog w base spare held m 3 [c6] = some y6 := by have h_ := hg 6 _ rfl; simpa [cells3] using h_
      obtain ⟨a6, e6, _, w6⟩ := DataW.trod_int Try.underlying3 g6
      simp only [List.cons.injEq, and_true] at e6
      subst e6
      have g7 : DataW.trod enc Try.prog w base spare held m 3 [c7] = some y7 := by have h_ := hg 7 _ rfl; simpa [cells3] using h_
      obtain ⟨a7, e7, _, w7⟩ := DataW.trod_int Try.underlying3 g7
      simp only [List.cons.injEq, and_true] at e7
      subst e7
      have g8 : DataW.trod enc Try.prog w base spare held m 3 [c8] = some y8 := by have h_ := hg 8 _ rfl; simpa [cells3] using h_
      obtain ⟨a8, e8, _, w8⟩ := DataW.trod_int Try.underlying3 g8
      simp only [List.cons.injEq, and_true] at e8
      subst e8
      have g9 : DataW.trod enc Try.prog w base spare held m 3 [c9] = some y9 := by have h_ := hg 9 _ rfl; simpa [cells3] using h_
      obtain ⟨a9, e9, _, w9⟩ := DataW.trod_int Try.underlying3 g9
      simp only [List.cons.injEq, and_true] at e9
      subst e9
      have g10 : DataW.trod enc Try.prog w base spare held m 3 [c10] = some y10 := by have h_ := hg 10 _ rfl; simpa [cells3] using h_
      obtain ⟨a10, e10, _, w10⟩ := DataW.trod_int Try.underlying3 g10
      simp only [List.cons.injEq, and_true] at e10
      subst e10
      have g11 : DataW.trod enc Try.prog w base spare held m 3 [c11] = some y11 := by have h_ := hg 11 _ rfl; simpa [cells3] using h_
      obtain ⟨a11, e11, _, w11⟩ := DataW.trod_int Try.underlying3 g11
      simp only [List.cons.injEq, and_true] at e11
      subst e11
      exact ⟨_, _, _, _, _, _, _, _, _, _, _, _, rfl, w0, w1, w2, w3, w4, w5, w6, w7, w8, w9, w10, w11⟩
theorem open_T23 {H : Type} {enc : TypeId × Value → H} {w : World} {base b0 : Nat} {spare : Nat → Bool} {held : Bool} {r : Reach} {v : Value} {d : DataW H} {p : List MemPlace} (hv : Value.okWide Try.prog w r b0 23 v) (h : DataW.Trod enc Try.prog w base spare held 23 v d p) :
    ∃ (a0 : Int) (a1 : Int) (a2 : Int) (a3 : Int) (a4 : Int) (a5 : Int) (a6 : Int) (a7 : Int) (a8 : Int) (a9 : Int) (a10 : Int) (a11 : Int), v = .agg #[.int .i64 a0, .int .i64 a1, .int .i64 a2, .int .i64 a3, .int .i64 a4, .int .i64 a5, .int .i64 a6, .int .i64 a7, .int .i64 a8, .int .i64 a9, .int .i64 a10, .int .i64 a11] ∧ (Lit.int .i64 a0).wf = true ∧ (Lit.int .i64 a1).wf = true ∧ (Lit.int .i64 a2).wf = true ∧ (Lit.int .i64 a3).wf = true ∧ (Lit.int .i64 a4).wf = true ∧ (Lit.int .i64 a5).wf = true ∧ (Lit.int .i64 a6).wf = true ∧ (Lit.int .i64 a7).wf = true ∧ (Lit.int .i64 a8).wf = true ∧ (Lit.int .i64 a9).wf = true ∧ (Lit.int .i64 a10).wf = true ∧ (Lit.int .i64 a11).wf = true := by
  obtain ⟨cs, rfl, hsz⟩ := okWide_struct Try.underlying23 hv
  obtain ⟨l⟩ := cs
  obtain ⟨fuel, hf⟩ := h
  obtain ⟨a0, a1, a2, a3, a4, a5, a6, a7, a8, a9, a10, a11, e, w0, w1, w2, w3, w4, w5, w6, w7, w8, w9, w10, w11⟩ := trod_T23 (c := l) (by simpa [Value.cells] using hf) (by simpa [cells23] using hsz)
  subst e
  exact ⟨_, _, _, _, _, _, _, _, _, _, _, _, rfl, w0, w1, w2, w3, w4, w5, w6, w7, w8, w9, w10, w11⟩
theorem trod_T57 {H : Type} {enc : TypeId × Value → H} {w : World} {base : Nat} {spare : Nat → Bool} {held : Bool} {n : Nat} {c : List Value} {y : DataW H × List MemPlace} (h : DataW.trod enc Try.prog w base spare held n 57 c = some y) (hl : c.length = 4) :
    ∃ (a0 : Int) (a1 : Int) (a2 : Int) (a3 : Int), c = [.int .i64 a0, .int .i64 a1, .int .i64 a2, .int .i64 a3] ∧ (Lit.int .i64 a0).wf = true ∧ (Lit.int .i64 a1).wf = true ∧ (Lit.int .i64 a2).wf = true ∧ (Lit.int .i64 a3).wf = true := by
  match c, hl with
  | [c0, c1, c2, c3], _ =>
    obtain ⟨xs, m, _, hx, _, hlen, hg⟩ := DataW.trod_struct Try.underlying57 h
    match xs, hlen with
    | [y0, y1, y2, y3], _ =>
      have g0 : DataW.trod enc Try.prog w base spare held m 3 [c0] = some y0 := by have h_ := hg 0 _ rfl; simpa [cells3] using h_
      obtain ⟨a0, e0, _, w0⟩ := DataW.trod_int Try.underlying3 g0
      simp only [List.cons.injEq, and_true] at e0
      subst e0
      have g1 : DataW.trod enc Try.prog w base spare held m 3 [c1] = some y1 := by have h_ := hg 1 _ rfl; simpa [cells3] using h_
      obtain ⟨a1, e1, _, w1⟩ := DataW.trod_int Try.underlying3 g1
      simp only [List.cons.injEq, and_true] at e1
      subst e1
      have g2 : DataW.trod enc Try.prog w base spare held m 3 [c2] = some y2 := by have h_ := hg 2 _ rfl; simpa [cells3] using h_
      obtain ⟨a2, e2, _, w2⟩ := DataW.trod_int Try.underlying3 g2
      simp only [List.cons.injEq, and_true] at e2
      subst e2
      have g3 : DataW.trod enc Try.prog w base spare held m 3 [c3] = some y3 := by have h_ := hg 3 _ rfl; simpa [cells3] using h_
      obtain ⟨a3, e3, _, w3⟩ := DataW.trod_int Try.underlying3 g3
      simp only [List.cons.injEq, and_true] at e3
      subst e3
      exact ⟨_, _, _, _, rfl, w0, w1, w2, w3⟩
theorem open_T57 {H : Type} {enc : TypeId × Value → H} {w : World} {base b0 : Nat} {spare : Nat → Bool} {held : Bool} {r : Reach} {v : Value} {d : DataW H} {p : List MemPlace} (hv : Value.okWide Try.prog w r b0 57 v) (h : DataW.Trod enc Try.prog w base spare held 57 v d p) :
    ∃ (a0 : Int) (a1 : Int) (a2 : Int) (a3 : Int), v = .agg #[.int .i64 a0, .int .i64 a1, .int .i64 a2, .int .i64 a3] ∧ (Lit.int .i64 a0).wf = true ∧ (Lit.int .i64 a1).wf = true ∧ (Lit.int .i64 a2).wf = true ∧ (Lit.int .i64 a3).wf = true := by
  obtain ⟨cs, rfl, hsz⟩ := okWide_struct Try.underlying57 hv
  obtain ⟨l⟩ := cs
  obtain ⟨fuel, hf⟩ := h
  obtain ⟨a0, a1, a2, a3, e, w0, w1, w2, w3⟩ := trod_T57 (c := l) (by simpa [Value.cells] using hf) (by simpa [cells57] using hsz)
  subst e
  exact ⟨_, _, _, _, rfl, w0, w1, w2, w3⟩
end Go.Proofs.Ytigpigfoahlfjaa.G
