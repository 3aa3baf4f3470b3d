/- Values of struct types that can be read as data are aggregates of numbers that fit, one for each field; for the struct types of this seat's statements. -/
import Derived.Test.YtigkjbaclpklpaaDoorProg
import Derived.Lib.SmallJoins
import Derived.OpenShut
set_option linter.unusedVariables false
set_option linter.unusedSimpArgs false
namespace Go.Proofs.YtigkjbaclpklpaaDoor.G
open Go.Joins Go.ChangeShapes Go.WideShapes Go.RowKit Go.Deep
theorem cells3 : Tryd.prog.cellsOf 3 = 1 := by kernel_rfl
theorem cells4 : Tryd.prog.cellsOf 4 = 1 := by kernel_rfl
theorem cells23 : Tryd.prog.cellsOf 23 = 12 := by kernel_rfl
theorem cells25 : Tryd.prog.cellsOf 25 = 2 := by kernel_rfl
theorem cells26 : Tryd.prog.cellsOf 26 = 1 := by kernel_rfl
theorem cells28 : Tryd.prog.cellsOf 28 = 2 := by kernel_rfl
theorem cells30 : Tryd.prog.cellsOf 30 = 11 := by kernel_rfl
theorem cells82 : Tryd.prog.cellsOf 82 = 2 := by kernel_rfl
theorem trod_T23 {H : Type} {enc : TypeId × Value → H} {w : World} {base : Nat} {spare : Nat → Bool} {held : Bool} {n : Nat} {c : List Value} {y : DataW H × List MemPlace} (h : DataW.trod enc Tryd.prog w base spare held n 23 c = some y) (hl : c.length = 12) :
    ∃ (a0 : Int) (a1 : Int) (a2 : Int) (a3 : Int) (a4 : Int) (a5 : Int) (a6 : Int) (a7 : Int) (a8 : Int) (a9 : Int) (a10 : Int) (a11 : Int), c = [.int .i64 a0, .int .i64 a1, .int .i64 a2, .int .i64 a3, .int .i64 a4, .int .i64 a5, .int .i64 a6, .int .i64 a7, .int .i64 a8, .int .i64 a9, .int .i64 a10, .int .i64 a11] ∧ (Lit.int .i64 a0).wf = true ∧ (Lit.int .i64 a1).wf = true ∧ (Lit.int .i64 a2).wf = true ∧ (Lit.int .i64 a3).wf = true ∧ (Lit.int .i64 a4).wf = true ∧ (Lit.int .i64 a5).wf = true ∧ (Lit.int .i64 a6).wf = true ∧ (Lit.int .i64 a7).wf = true ∧ (Lit.int .i64 a8).wf = true ∧ (Lit.int .i64 a9).wf = true ∧ (Lit.int .i64 a10).wf = true ∧ (Lit.int .i64 a11).wf = true := by
  match c, hl with
  | [c0, c1, c2, c3, c4, c5, c6, c7, c8, c9, c10, c11], _ =>
    obtain ⟨xs, m, _, hx, _, hlen, hg⟩ := DataW.trod_struct Tryd.underlying23 h
    match xs, hlen with
    | [y0, y1, y2, y3, y4, y5, y6, y7, y8, y9, y10, y11], _ =>
      have g0 : DataW.trod enc Tryd.prog w base spare held m 3 [c0] = some y0 := by have h_ := hg 0 _ rfl; simpa [cells3] using h_
      obtain ⟨a0, e0, _, w0⟩ := DataW.trod_int Tryd.underlying3 g0
      simp only [List.cons.injEq, and_true] at e0
      subst e0
      have g1 : DataW.trod enc Tryd.prog w base spare held m 3 [c1] = some y1 := by have h_ := hg 1 _ rfl; simpa [cells3] using h_
      obtain ⟨a1, e1, _, w1⟩ := DataW.trod_int Tryd.underlying3 g1
      simp only [List.cons.injEq, and_true] at e1
      subst e1
      have g2 : DataW.trod enc Tryd.prog w base spare held m 3 [c2] = some y2 := by have h_ := hg 2 _ rfl; simpa [cells3] using h_
      obtain ⟨a2, e2, _, w2⟩ := DataW.trod_int Tryd.underlying3 g2
      simp only [List.cons.injEq, and_true] at e2
      subst e2
      have g3 : DataW.trod enc Tryd.prog w base spare held m 3 [c3] = some y3 := by have h_ := hg 3 _ rfl; simpa [cells3] using h_
      obtain ⟨a3, e3, _, w3⟩ := DataW.trod_int Tryd.underlying3 g3
      simp only [List.cons.injEq, and_true] at e3
      subst e3
      have g4 : DataW.trod enc Tryd.prog w base spare held m 3 [c4] = some y4 := by have h_ := hg 4 _ rfl; simpa [cells3] using h_
      obtain ⟨a4, e4, _, w4⟩ := DataW.trod_int Tryd.underlying3 g4
      simp only [List.cons.injEq, and_true] at e4
      subst e4
      have g5 : DataW.trod enc Tryd.prog w base spare held m 3 [c5] = some y5 := by have h_ := hg 5 _ rfl; simpa [cells3] using h_
      obtain ⟨a5, e5, _, w5⟩ := DataW.trod_int Tryd.underlying3 g5
      simp only [List.cons.injEq, and_true] at e5
      subst e5
      have g6 : DataW.trod enc Tryd.prog w base spare held m 3 [c6] = some y6 := by have h_ := hg 6 _ rfl; simpa [cells3] using h_
      obtain ⟨a6, e6, _, w6⟩ := DataW.trod_int Tryd.underlying3 g6
      simp only [List.cons.injEq, and_true] at e6
      subst e6
      have g7 : DataW.trod enc Tryd.prog w base spare held m 3 [c7] = some y7 := by have h_ := hg 7 _ rfl; simpa [cells3] using h_
      obtain ⟨a7, e7, _, w7⟩ := DataW.trod_int Tryd.underlying3 g7
      simp only [List.cons.injEq, and_true] at e7
      subst e7
      have g8 : DataW.trod enc Tryd.prog w base spare held m 3 [c8] = some y8 := by have h_ := hg 8 _ rfl; simpa [cells3] using h_
      obtain ⟨a8, e8, _, w8⟩ := DataW.trod_int Tryd.underlying3 g8
      simp only [List.cons.injEq, and_true] at e8
      subst e8
      have g9 : DataW.trod enc Tryd.prog w base spare held m 3 [c9] = some y9 := by have h_ := hg 9 _ rfl; simpa [cells3] using h_
      obtain ⟨a9, e9, _, w9⟩ := DataW.trod_int Tryd.underlying3 g9
      simp only [List.cons.injEq, and_true] at e9
      subst e9
      have g10 : DataW.trod enc Tryd.prog w base spare held m 3 [c10] = some y10 := by have h_ := hg 10 _ rfl; simpa [cells3] using h_
      obtain ⟨a10, e10, _, w10⟩ := DataW.trod_int Tryd.underlying3 g10
      simp only [List.cons.injEq, and_true] at e10
      subst e10
      have g11 : DataW.trod enc Tryd.prog w base spare held m 3 [c11] = some y11 := by have h_ := hg 11 _ rfl; simpa [cells3] using h_
      obtain ⟨a11, e11, _, w11⟩ := DataW.trod_int Tryd.underlying3 g11
      simp only [List.cons.injEq, and_true] at e11
      subst e11
      exact ⟨_, _, _, _, _, _, _, _, _, _, _, _, rfl, w0, w1, w2, w3, w4, w5, w6, w7, w8, w9, w10, w11⟩
theorem open_T23 {H : Type} {enc : TypeId × Value → H} {w : World} {base b0 : Nat} {spare : Nat → Bool} {held : Bool} {r : Reach} {v : Value} {d : DataW H} {p : List MemPlace} (hv : Value.okWide Tryd.prog w r b0 23 v) (h : DataW.Trod enc Tryd.prog w base spare held 23 v d p) :
    ∃ (a0 : Int) (a1 : Int) (a2 : Int) (a3 : Int) (a4 : Int) (a5 : Int) (a6 : Int) (a7 : Int) (a8 : Int) (a9 : Int) (a10 : Int) (a11 : Int), v = .agg #[.int .i64 a0, .int .i64 a1, .int .i64 a2, .int .i64 a3, .int .i64 a4, .int .i64 a5, .int .i64 a6, .int .i64 a7, .int .i64 a8, .int .i64 a9, .int .i64 a10, .int .i64 a11] ∧ (Lit.int .i64 a0).wf = true ∧ (Lit.int .i64 a1).wf = true ∧ (Lit.int .i64 a2).wf = true ∧ (Lit.int .i64 a3).wf = true ∧ (Lit.int .i64 a4).wf = true ∧ (Lit.int .i64 a5).wf = true ∧ (Lit.int .i64 a6).wf = true ∧ (Lit.int .i64 a7).wf = true ∧ (Lit.int .i64 a8).wf = true ∧ (Lit.int .i64 a9).wf = true ∧ (Lit.int .i64 a10).wf = true ∧ (Lit.int .i64 a11).wf = true := by
  obtain ⟨cs, rfl, hsz⟩ := okWide_struct Tryd.underlying23 hv
  obtain ⟨l⟩ := cs
  obtain ⟨fuel, hf⟩ := h
  obtain ⟨a0, a1, a2, a3, a4, a5, a6, a7, a8, a9, a10, a11, e, w0, w1, w2, w3, w4, w5, w6, w7, w8, w9, w10, w11⟩ := trod_T23 (c := l) (by simpa [Value.cells] using hf) (by simpa [cells23] using hsz)
  subst e
  exact ⟨_, _, _, _, _, _, _, _, _, _, _, _, rfl, w0, w1, w2, w3, w4, w5, w6, w7, w8, w9, w10, w11⟩
theorem trod_T25 {H : Type} {enc : TypeId × Value → H} {w : World} {base : Nat} {spare : Nat → Bool} {held : Bool} {n : Nat} {c : List Value} {y : DataW H × List MemPlace} (h : DataW.trod enc Tryd.prog w base spare held n 25 c = some y) (hl : c.length = 2) :
    ∃ (a0 : Int) (a1 : Int), c = [.int .i64 a0, .int .i64 a1] ∧ (Lit.int .i64 a0).wf = true ∧ (Lit.int .i64 a1).wf = true := by
  match c, hl with
  | [c0, c1], _ =>
    obtain ⟨xs, m, _, hx, _, hlen, hg⟩ := DataW.trod_struct Tryd.underlying25 h
    match xs, hlen with
    | [y0, y1], _ =>
      have g0 : DataW.trod enc Tryd.prog w base spare held m 3 [c0] = some y0 := by have h_ := hg 0 _ rfl; simpa [cells3] using h_
      obtain ⟨a0, e0, _, w0⟩ := DataW.trod_int Tryd.underlying3 g0
      simp only [List.cons.injEq, and_true] at e0
      subst e0
      have g1 : DataW.trod enc Tryd.prog w base spare held m 3 [c1] = some y1 := by have h_ := hg 1 _ rfl; simpa [cells3] using h_
      obtain ⟨a1, e1, _, w1⟩ := DataW.trod_int Tryd.underlying3 g1
      simp only [List.cons.injEq, and_true] at e1
      subst e1
      exact ⟨_, _, rfl, w0, w1⟩
theorem open_T25 {H : Type} {enc : TypeId × Value → H} {w : World} {base b0 : Nat} {spare : Nat → Bool} {held : Bool} {r : Reach} {v : Value} {d : DataW H} {p : List MemPlace} (hv : Value.okWide Tryd.prog w r b0 25 v) (h : DataW.Trod enc Tryd.prog w base spare held 25 v d p) :
    ∃ (a0 : Int) (a1 : Int), v = .agg #[.int .i64 a0, .int .i64 a1] ∧ (Lit.int .i64 a0).wf = true ∧ (Lit.int .i64 a1).wf = true := by
  obtain ⟨cs, rfl, hsz⟩ := okWide_struct Tryd.underlying25 hv
  obtain ⟨l⟩ := cs
  obtain ⟨fuel, hf⟩ := h
  obtain ⟨a0, a1, e, w0, w1⟩ := trod_T25 (c := l) (by simpa [Value.cells] using hf) (by simpa [cells25] using hsz)
  subst e
  exact ⟨_, _, rfl, w0, w1⟩
theorem trod_T28 {H : Type} {enc : TypeId × Value → H} {w : World} {base : Nat} {spare : Nat → Bool} {held : Bool} {n : Nat} {c : List Value} {y : DataW H × List MemPlace} (h : DataW.trod enc Tryd.prog w base spare held n 28 c = some y) (hl : c.length = 2) :
    ∃ (a0 : Int) (a1 : Int), c = [.int .i64 a0, .int .i64 a1] ∧ (Lit.int .i64 a0).wf = true ∧ (Lit.int .i64 a1).wf = true := by
  match c, hl with
  | [c0, c1], _ =>
    obtain ⟨xs, m, _, hx, _, hlen, hg⟩ := DataW.trod_struct Tryd.underlying28 h
    match xs, hlen with
    | [y0, y1], _ =>
      have g0 : DataW.trod enc Tryd.prog w base spare held m 3 [c0] = some y0 := by have h_ := hg 0 _ rfl; simpa [cells3] using h_
      obtain ⟨a0, e0, _, w0⟩ := DataW.trod_int Tryd.underlying3 g0
      simp only [List.cons.injEq, and_true] at e0
      subst e0
      have g1 : DataW.trod enc Tryd.prog w base spare held m 3 [c1] = some y1 := by have h_ := hg 1 _ rfl; simpa [cells3] using h_
      obtain ⟨a1, e1, _, w1⟩ := DataW.trod_int Tryd.underlying3 g1
      simp only [List.cons.injEq, and_true] at e1
      subst e1
      exact ⟨_, _, rfl, w0, w1⟩
theorem open_T28 {H : Type} {enc : TypeId × Value → H} {w : World} {base b0 : Nat} {spare : Nat → Bool} {held : Bool} {r : Reach} {v : Value} {d : DataW H} {p : List MemPlace} (hv : Value.okWide Tryd.prog w r b0 28 v) (h : DataW.Trod enc Tryd.prog w base spare held 28 v d p) :
    ∃ (a0 : Int) (a1 : Int), v = .agg #[.int .i64 a0, .int .i64 a1] ∧ (Lit.int .i64 a0).wf = true ∧ (Lit.int .i64 a1).wf = true := by
  obtain ⟨cs, rfl, hsz⟩ := okWide_struct Tryd.underlying28 hv
  obtain ⟨l⟩ := cs
  obtain ⟨fuel, hf⟩ := h
  obtain ⟨a0, a1, e, w0, w1⟩ := trod_T28 (c := l) (by simpa [Value.cells] using hf) (by simpa [cells28] using hsz)
  subst e
  exact ⟨_, _, rfl, w0, w1⟩
theorem sl_T30_7 {H : Type} {enc : TypeId × Value → H} {w : World} {base : Nat} {spare : Nat → Bool} {held : Bool} {m : Nat} {c : Value} {y : DataW H × List MemPlace} (g : DataW.trod enc Tryd.prog w base spare held m 26 [c] = some y) : ∃ A len cap, c = .slice A len cap := by
  rcases Go.Deep.open_slice Tryd.underlying26 g with ⟨h, _⟩ | ⟨x, l, c', _, _, _, _, h, _⟩
  · exact ⟨none, 0, 0, by simpa using h⟩
  · exact ⟨some x, l, c', by simpa using h⟩
theorem trod_T30 {H : Type} {enc : TypeId × Value → H} {w : World} {base : Nat} {spare : Nat → Bool} {held : Bool} {n : Nat} {c : List Value} {y : DataW H × List MemPlace} (h : DataW.trod enc Tryd.prog w base spare held n 30 c = some y) (hl : c.length = 11) :
    ∃ (a0 : Int) (a1 : Int) (a2 : Int) (a3 : Bool) (a4 : Int) (a5 : Int) (a6 : Bool) (A7 : Option Addr) (n7 c_7 : Nat) (a8 : Int) (a9 : Int) (a10 : Int), c = [.int .i64 a0, .int .i64 a1, .int .i64 a2, .bool a3, .int .i64 a4, .int .i64 a5, .bool a6, .slice A7 n7 c_7, .int .i64 a8, .int .i64 a9, .int .i64 a10] ∧ (Lit.int .i64 a0).wf = true ∧ (Lit.int .i64 a1).wf = true ∧ (Lit.int .i64 a2).wf = true ∧ (Lit.int .i64 a4).wf = true ∧ (Lit.int .i64 a5).wf = true ∧ (Lit.int .i64 a8).wf = true ∧ (Lit.int .i64 a9).wf = true ∧ (Lit.int .i64 a10).wf = true ∧ (∃ m_ y_, DataW.trod enc Tryd.prog w base spare held m_ 26 [.slice A7 n7 c_7] = some y_) := by
  match c, hl with
  | [c0, c1, c2, c3, c4, c5, c6, c7, c8, c9, c10], _ =>
    obtain ⟨xs, m, _, hx, _, hlen, hg⟩ := DataW.trod_struct Tryd.underlying30 h
    match xs, hlen with
    | [y0, y1, y2, y3, y4, y5, y6, y7, y8], _ =>
      have g0 : DataW.trod enc Tryd.prog w base spare held m 25 [c0, c1] = some y0 := by have h_ := hg 0 _ rfl; simpa [cells25] using h_
      obtain ⟨a0, a1, e0, w0, w1⟩ := trod_T25 g0 rfl
      simp only [List.cons.injEq, and_true] at e0
      obtain ⟨rfl, rfl⟩ := e0
      have g1 : DataW.trod enc Tryd.prog w base spare held m 3 [c2] = some y1 := by have h_ := hg 1 _ rfl; simpa [cells3] using h_
      obtain ⟨a2, e1, _, w2⟩ := DataW.trod_int Tryd.underlying3 g1
      simp only [List.cons.injEq, and_true] at e1
      subst e1
      have g2 : DataW.trod enc Tryd.prog w base spare held m 4 [c3] = some y2 := by have h_ := hg 2 _ rfl; simpa [cells4] using h_
      obtain ⟨a3, e2, _⟩ := DataW.trod_bool Tryd.underlying4 g2
      simp only [List.cons.injEq, and_true] at e2
      subst e2
      have g3 : DataW.trod enc Tryd.prog w base spare held m 3 [c4] = some y3 := by have h_ := hg 3 _ rfl; simpa [cells3] using h_
      obtain ⟨a4, e3, _, w4⟩ := DataW.trod_int Tryd.underlying3 g3
      simp only [List.cons.injEq, and_true] at e3
      subst e3
      have g4 : DataW.trod enc Tryd.prog w base spare held m 3 [c5] = some y4 := by have h_ := hg 4 _ rfl; simpa [cells3] using h_
      obtain ⟨a5, e4, _, w5⟩ := DataW.trod_int Tryd.underlying3 g4
      simp only [List.cons.injEq, and_true] at e4
      subst e4
      have g5 : DataW.trod enc Tryd.prog w base spare held m 4 [c6] = some y5 := by have h_ := hg 5 _ rfl; simpa [cells4] using h_
      obtain ⟨a6, e5, _⟩ := DataW.trod_bool Tryd.underlying4 g5
      simp only [List.cons.injEq, and_true] at e5
      subst e5
      have g6 : DataW.trod enc Tryd.prog w base spare held m 26 [c7] = some y6 := by have h_ := hg 6 _ rfl; simpa [cells26] using h_
      obtain ⟨A7, n7, c_7, e7⟩ := sl_T30_7 g6
      subst e7
      have g7 : DataW.trod enc Tryd.prog w base spare held m 28 [c8, c9] = some y7 := by have h_ := hg 7 _ rfl; simpa [cells28] using h_
      obtain ⟨a8, a9, e7, w8, w9⟩ := trod_T28 g7 rfl
      simp only [List.cons.injEq, and_true] at e7
      obtain ⟨rfl, rfl⟩ := e7
      have g8 : DataW.trod enc Tryd.prog w base spare held m 3 [c10] = some y8 := by have h_ := hg 8 _ rfl; simpa [cells3] using h_
      obtain ⟨a10, e8, _, w10⟩ := DataW.trod_int Tryd.underlying3 g8
      simp only [List.cons.injEq, and_true] at e8
      subst e8
      exact ⟨_, _, _, _, _, _, _, _, _, _, _, _, _, rfl, w0, w1, w2, w4, w5, w8, w9, w10, ⟨_, _, g6⟩⟩
theorem open_T30 {H : Type} {enc : TypeId × Value → H} {w : World} {base b0 : Nat} {spare : Nat → Bool} {held : Bool} {r : Reach} {v : Value} {d : DataW H} {p : List MemPlace} (hv : Value.okWide Tryd.prog w r b0 30 v) (h : DataW.Trod enc Tryd.prog w base spare held 30 v d p) :
    ∃ (a0 : Int) (a1 : Int) (a2 : Int) (a3 : Bool) (a4 : Int) (a5 : Int) (a6 : Bool) (A7 : Option Addr) (n7 c_7 : Nat) (a8 : Int) (a9 : Int) (a10 : Int), v = .agg #[.int .i64 a0, .int .i64 a1, .int .i64 a2, .bool a3, .int .i64 a4, .int .i64 a5, .bool a6, .slice A7 n7 c_7, .int .i64 a8, .int .i64 a9, .int .i64 a10] ∧ (Lit.int .i64 a0).wf = true ∧ (Lit.int .i64 a1).wf = true ∧ (Lit.int .i64 a2).wf = true ∧ (Lit.int .i64 a4).wf = true ∧ (Lit.int .i64 a5).wf = true ∧ (Lit.int .i64 a8).wf = true ∧ (Lit.int .i64 a9).wf = true ∧ (Lit.int .i64 a10).wf = true ∧ (∃ m_ y_, DataW.trod enc Tryd.prog w base spare held m_ 26 [.slice A7 n7 c_7] = some y_) := by
  obtain ⟨cs, rfl, hsz⟩ := okWide_struct Tryd.underlying30 hv
  obtain ⟨l⟩ := cs
  obtain ⟨fuel, hf⟩ := h
  obtain ⟨a0, a1, a2, a3, a4, a5, a6, A7, n7, c_7, a8, a9, a10, e, w0, w1, w2, w4, w5, w8, w9, w10, s7⟩ := trod_T30 (c := l) (by simpa [Value.cells] using hf) (by simpa [cells30] using hsz)
  subst e
  exact ⟨_, _, _, _, _, _, _, _, _, _, _, _, _, rfl, w0, w1, w2, w4, w5, w8, w9, w10, s7⟩
theorem trod_T82 {H : Type} {enc : TypeId × Value → H} {w : World} {base : Nat} {spare : Nat → Bool} {held : Bool} {n : Nat} {c : List Value} {y : DataW H × List MemPlace} (h : DataW.trod enc Tryd.prog w base spare held n 82 c = some y) (hl : c.length = 2) :
    ∃ (a0 : Int) (a1 : Int), c = [.int .i64 a0, .int .i64 a1] ∧ (Lit.int .i64 a0).wf = true ∧ (Lit.int .i64 a1).wf = true := by
  match c, hl with
  | [c0, c1], _ =>
    obtain ⟨xs, m, _, hx, _, hlen, hg⟩ := DataW.trod_struct Tryd.underlying82 h
    match xs, hlen with
    | [y0, y1], _ =>
      have g0 : DataW.trod enc Tryd.prog w base spare held m 3 [c0] = some y0 := by have h_ := hg 0 _ rfl; simpa [cells3] using h_
      obtain ⟨a0, e0, _, w0⟩ := DataW.trod_int Tryd.underlying3 g0
      simp only [List.cons.injEq, and_true] at e0
      subst e0
      have g1 : DataW.trod enc Tryd.prog w base spare held m 3 [c1] = some y1 := by have h_ := hg 1 _ rfl; simpa [cells3] using h_
      obtain ⟨a1, e1, _, w1⟩ := DataW.trod_int Tryd.underlying3 g1
      simp only [List.cons.injEq, and_true] at e1
      subst e1
      exact ⟨_, _, rfl, w0, w1⟩
theorem open_T82 {H : Type} {enc : TypeId × Value → H} {w : World} {base b0 : Nat} {spare : Nat → Bool} {held : Bool} {r : Reach} {v : Value} {d : DataW H} {p : List MemPlace} (hv : Value.okWide Tryd.prog w r b0 82 v) (h : DataW.Trod enc Tryd.prog w base spare held 82 v d p) :
    ∃ (a0 : Int) (a1 : Int), v = .agg #[.int .i64 a0, .int .i64 a1] ∧ (Lit.int .i64 a0).wf = true ∧ (Lit.int .i64 a1).wf = true := by
  obtain ⟨cs, rfl, hsz⟩ := okWide_struct Tryd.underlying82 hv
  obtain ⟨l⟩ := cs
  obtain ⟨fuel, hf⟩ := h
  obtain ⟨a0, a1, e, w0, w1⟩ := trod_T82 (c := l) (by simpa [Value.cells] using hf) (by simpa [cells82] using hsz)
  subst e
  exact ⟨_, _, rfl, w0, w1⟩
end Go.Proofs.YtigkjbaclpklpaaDoor.G
