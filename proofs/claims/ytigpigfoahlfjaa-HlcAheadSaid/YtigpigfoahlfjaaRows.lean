/-
  No cell of these rows narrows 'for every input' (looked for: loops, veiled, ifaces, maps, wideKeys, modest, calm, conditions, laid).
  DERIVED. THE GIVEN ROWS OF THIS SEAT. 12 by the template 'for every input the law returns true; each argument reads behind the call as it read before'; 0 by the template 'total and deterministic' (their statements: YtigpigfoahlfjaaTotals.lean).
  GIVEN WITH THE SEED: the statements are not yours to turn. If you find one false, say at which input.
  Laid BY PROGRAM, IN A SANDBOX (cutbox-rows.mjs): the forced cells as the released guide's own fill.sh prints them over the translation 5b4938db5bb4040f… (all of the seat's roots in one cut). By AI agents, Wed Nov 11 2026. No macro, syntax, notation, axiom, sorry.
-/
import Derived.Test.YtigpigfoahlfjaaChecked
import GoSem.Claim
import GoSem.ClaimJoined
import GoSem.ClaimMapViews
import Derived.JoinedTies
import Derived.KernelRfl
namespace Go.Proofs.Ytigpigfoahlfjaa
/- THE CELL 'sum', in the pinned program and in every row, IS THE sha256 OF THE DUMP (.gsa) THAT YtigpigfoahlfjaaProg.lean LOADS. Nothing in Lean hashes anything: it is a label: what it is worth is what the hold of that sum in a sandbox is worth. -/
noncomputable def Try.pinned : Pinned := { name := "ytigpigfoahlfjaa", sum := "5b4938db5bb4040fca769a4bf78f3086b6429c09962351307f7d6c097980faa6", checked := Try.checked }
namespace Rows
def none {H : Type} : Left H := { results := [], args := [] }

/-- 'clepsydralaw11.CarryMoves': WHATEVER THE INPUT: true; the input reads as it did. -/
def carryMovesSpec : ChangeSpec := { name := "carryMoves", fn := fun _ => fun
  | [d1, d2, d3] => { results := [.lit (.bool true)], args := [d1, d2, d3] }
  | _ => none }
def carryMovesRow : OpenClaim := { program := "ytigpigfoahlfjaa", sum := "5b4938db5bb4040fca769a4bf78f3086b6429c09962351307f7d6c097980faa6", func := "clepsydra/clepsydralaw11.CarryMoves", spec := "carryMoves", apart := false }
def CarryMovesSaid : Prop := carryMovesRow.holds Try.pinned (OpenSpec.ofChange carryMovesSpec)

/-- ITS FALSE NEIGHBOUR: 'it returns false'. Refute it at one input. -/
def carryMovesWrong : ChangeSpec := { name := "carryMoves", fn := fun _ => fun
  | [d1, d2, d3] => { results := [.lit (.bool false)], args := [d1, d2, d3] }
  | _ => none }
def CarryMovesWrongFalsely : Prop := carryMovesRow.holds Try.pinned (OpenSpec.ofChange carryMovesWrong)

/-- 'clepsydralaw11.CarryBrings': WHATEVER THE INPUT: true; the input reads as it did. -/
def carryBringsSpec : ChangeSpec := { name := "carryBrings", fn := fun _ => fun
  | [d1, d2, d3, d4, d5] => { results := [.lit (.bool true)], args := [d1, d2, d3, d4, d5] }
  | _ => none }
def carryBringsRow : OpenClaim := { program := "ytigpigfoahlfjaa", sum := "5b4938db5bb4040fca769a4bf78f3086b6429c09962351307f7d6c097980faa6", func := "clepsydra/clepsydralaw11.CarryBrings", spec := "carryBrings", apart := false }
def CarryBringsSaid : Prop := carryBringsRow.holds Try.pinned (OpenSpec.ofChange carryBringsSpec)

/-- ITS FALSE NEIGHBOUR: 'it returns false'. Refute it at one input. -/
def carryBringsWrong : ChangeSpec := { name := "carryBrings", fn := fun _ => fun
  | [d1, d2, d3, d4, d5] => { results := [.lit (.bool false)], args := [d1, d2, d3, d4, d5] }
  | _ => none }
def CarryBringsWrongFalsely : Prop := carryBringsRow.holds Try.pinned (OpenSpec.ofChange carryBringsWrong)

/-- 'clepsydralaw11.CarryAges': WHATEVER THE INPUT: true; the input reads as it did. -/
def carryAgesSpec : ChangeSpec := { name := "carryAges", fn := fun _ => fun
  | [d1, d2, d3, d4] => { results := [.lit (.bool true)], args := [d1, d2, d3, d4] }
  | _ => none }
def carryAgesRow : OpenClaim := { program := "ytigpigfoahlfjaa", sum := "5b4938db5bb4040fca769a4bf78f3086b6429c09962351307f7d6c097980faa6", func := "clepsydra/clepsydralaw11.CarryAges", spec := "carryAges", apart := false }
def CarryAgesSaid : Prop := carryAgesRow.holds Try.pinned (OpenSpec.ofChange carryAgesSpec)

/-- ITS FALSE NEIGHBOUR: 'it returns false'. Refute it at one input. -/
def carryAgesWrong : ChangeSpec := { name := "carryAges", fn := fun _ => fun
  | [d1, d2, d3, d4] => { results := [.lit (.bool false)], args := [d1, d2, d3, d4] }
  | _ => none }
def CarryAgesWrongFalsely : Prop := carryAgesRow.holds Try.pinned (OpenSpec.ofChange carryAgesWrong)

/-- 'clepsydralaw11.CarryWithin': WHATEVER THE INPUT: true; the input reads as it did. -/
def carryWithinSpec : ChangeSpec := { name := "carryWithin", fn := fun _ => fun
  | [d1, d2, d3, d4, d5] => { results := [.lit (.bool true)], args := [d1, d2, d3, d4, d5] }
  | _ => none }
def carryWithinRow : OpenClaim := { program := "ytigpigfoahlfjaa", sum := "5b4938db5bb4040fca769a4bf78f3086b6429c09962351307f7d6c097980faa6", func := "clepsydra/clepsydralaw11.CarryWithin", spec := "carryWithin", apart := false }
def CarryWithinSaid : Prop := carryWithinRow.holds Try.pinned (OpenSpec.ofChange carryWithinSpec)

/-- ITS FALSE NEIGHBOUR: 'it returns false'. Refute it at one input. -/
def carryWithinWrong : ChangeSpec := { name := "carryWithin", fn := fun _ => fun
  | [d1, d2, d3, d4, d5] => { results := [.lit (.bool false)], args := [d1, d2, d3, d4, d5] }
  | _ => none }
def CarryWithinWrongFalsely : Prop := carryWithinRow.holds Try.pinned (OpenSpec.ofChange carryWithinWrong)

/-- 'clepsydralaw11.CarryHolds': WHATEVER THE INPUT: true; the input reads as it did. -/
def carryHoldsSpec : ChangeSpec := { name := "carryHolds", fn := fun _ => fun
  | [d1, d2, d3, d4] => { results := [.lit (.bool true)], args := [d1, d2, d3, d4] }
  | _ => none }
def carryHoldsRow : OpenClaim := { program := "ytigpigfoahlfjaa", sum := "5b4938db5bb4040fca769a4bf78f3086b6429c09962351307f7d6c097980faa6", func := "clepsydra/clepsydralaw11.CarryHolds", spec := "carryHolds", apart := false }
def CarryHoldsSaid : Prop := carryHoldsRow.holds Try.pinned (OpenSpec.ofChange carryHoldsSpec)

/-- ITS FALSE NEIGHBOUR: 'it returns false'. Refute it at one input. -/
def carryHoldsWrong : ChangeSpec := { name := "carryHolds", fn := fun _ => fun
  | [d1, d2, d3, d4] => { results := [.lit (.bool false)], args := [d1, d2, d3, d4] }
  | _ => none }
def CarryHoldsWrongFalsely : Prop := carryHoldsRow.holds Try.pinned (OpenSpec.ofChange carryHoldsWrong)

/-- 'clepsydralaw20.HlcBounds': WHATEVER THE INPUT: true; the input reads as it did. -/
def hlcBoundsSpec : ChangeSpec := { name := "hlcBounds", fn := fun _ => fun
  | [d1, d2, d3, d4] => { results := [.lit (.bool true)], args := [d1, d2, d3, d4] }
  | _ => none }
def hlcBoundsRow : OpenClaim := { program := "ytigpigfoahlfjaa", sum := "5b4938db5bb4040fca769a4bf78f3086b6429c09962351307f7d6c097980faa6", func := "clepsydra/clepsydralaw20.HlcBounds", spec := "hlcBounds", apart := false }
def HlcBoundsSaid : Prop := hlcBoundsRow.holds Try.pinned (OpenSpec.ofChange hlcBoundsSpec)

/-- ITS FALSE NEIGHBOUR: 'it returns false'. Refute it at one input. -/
def hlcBoundsWrong : ChangeSpec := { name := "hlcBounds", fn := fun _ => fun
  | [d1, d2, d3, d4] => { results := [.lit (.bool false)], args := [d1, d2, d3, d4] }
  | _ => none }
def HlcBoundsWrongFalsely : Prop := hlcBoundsRow.holds Try.pinned (OpenSpec.ofChange hlcBoundsWrong)

/-- 'clepsydralaw20.HlcAhead': WHATEVER THE INPUT: true; the input reads as it did. -/
def hlcAheadSpec : ChangeSpec := { name := "hlcAhead", fn := fun _ => fun
  | [d1, d2] => { results := [.lit (.bool true)], args := [d1, d2] }
  | _ => none }
def hlcAheadRow : OpenClaim := { program := "ytigpigfoahlfjaa", sum := "5b4938db5bb4040fca769a4bf78f3086b6429c09962351307f7d6c097980faa6", func := "clepsydra/clepsydralaw20.HlcAhead", spec := "hlcAhead", apart := false }
def HlcAheadSaid : Prop := hlcAheadRow.holds Try.pinned (OpenSpec.ofChange hlcAheadSpec)

/-- ITS FALSE NEIGHBOUR: 'it returns false'. Refute it at one input. -/
def hlcAheadWrong : ChangeSpec := { name := "hlcAhead", fn := fun _ => fun
  | [d1, d2] => { results := [.lit (.bool false)], args := [d1, d2] }
  | _ => none }
def HlcAheadWrongFalsely : Prop := hlcAheadRow.holds Try.pinned (OpenSpec.ofChange hlcAheadWrong)

/-- 'clepsydralaw10.ProbeTells': WHATEVER THE INPUT: true; the input reads as it did. -/
def probeTellsSpec : ChangeSpec := { name := "probeTells", fn := fun _ => fun
  | [d1, d2] => { results := [.lit (.bool true)], args := [d1, d2] }
  | _ => none }
def probeTellsRow : OpenClaim := { program := "ytigpigfoahlfjaa", sum := "5b4938db5bb4040fca769a4bf78f3086b6429c09962351307f7d6c097980faa6", func := "clepsydra/clepsydralaw10.ProbeTells", spec := "probeTells", recurses := true, apart := false }
def ProbeTellsSaid : Prop := probeTellsRow.holds Try.pinned (OpenSpec.ofChange probeTellsSpec)

/-- ITS FALSE NEIGHBOUR: 'it returns false'. Refute it at one input. -/
def probeTellsWrong : ChangeSpec := { name := "probeTells", fn := fun _ => fun
  | [d1, d2] => { results := [.lit (.bool false)], args := [d1, d2] }
  | _ => none }
def ProbeTellsWrongFalsely : Prop := probeTellsRow.holds Try.pinned (OpenSpec.ofChange probeTellsWrong)

/-- 'clepsydralaw11.CarryWidens': WHATEVER THE INPUT: true; the input reads as it did. -/
def carryWidensSpec : ChangeSpec := { name := "carryWidens", fn := fun _ => fun
  | [d1, d2, d3] => { results := [.lit (.bool true)], args := [d1, d2, d3] }
  | _ => none }
def carryWidensRow : OpenClaim := { program := "ytigpigfoahlfjaa", sum := "5b4938db5bb4040fca769a4bf78f3086b6429c09962351307f7d6c097980faa6", func := "clepsydra/clepsydralaw11.CarryWidens", spec := "carryWidens", apart := false }
def CarryWidensSaid : Prop := carryWidensRow.holds Try.pinned (OpenSpec.ofChange carryWidensSpec)

/-- ITS FALSE NEIGHBOUR: 'it returns false'. Refute it at one input. -/
def carryWidensWrong : ChangeSpec := { name := "carryWidens", fn := fun _ => fun
  | [d1, d2, d3] => { results := [.lit (.bool false)], args := [d1, d2, d3] }
  | _ => none }
def CarryWidensWrongFalsely : Prop := carryWidensRow.holds Try.pinned (OpenSpec.ofChange carryWidensWrong)

/-- 'clepsydralaw10.ProbeHolds': WHATEVER THE INPUT: true; the input reads as it did. -/
def probeHoldsSpec : ChangeSpec := { name := "probeHolds", fn := fun _ => fun
  | [d1, d2, d3, d4, d5, d6, d7] => { results := [.lit (.bool true)], args := [d1, d2, d3, d4, d5, d6, d7] }
  | _ => none }
def probeHoldsRow : OpenClaim := { program := "ytigpigfoahlfjaa", sum := "5b4938db5bb4040fca769a4bf78f3086b6429c09962351307f7d6c097980faa6", func := "clepsydra/clepsydralaw10.ProbeHolds", spec := "probeHolds", apart := false }
def ProbeHoldsSaid : Prop := probeHoldsRow.holds Try.pinned (OpenSpec.ofChange probeHoldsSpec)

/-- ITS FALSE NEIGHBOUR: 'it returns false'. Refute it at one input. -/
def probeHoldsWrong : ChangeSpec := { name := "probeHolds", fn := fun _ => fun
  | [d1, d2, d3, d4, d5, d6, d7] => { results := [.lit (.bool false)], args := [d1, d2, d3, d4, d5, d6, d7] }
  | _ => none }
def ProbeHoldsWrongFalsely : Prop := probeHoldsRow.holds Try.pinned (OpenSpec.ofChange probeHoldsWrong)

/-- 'clepsydralaw10.ProbeBest': WHATEVER THE INPUT: true; the input reads as it did. -/
def probeBestSpec : ChangeSpec := { name := "probeBest", fn := fun _ => fun
  | [d1, d2] => { results := [.lit (.bool true)], args := [d1, d2] }
  | _ => none }
def probeBestRow : OpenClaim := { program := "ytigpigfoahlfjaa", sum := "5b4938db5bb4040fca769a4bf78f3086b6429c09962351307f7d6c097980faa6", func := "clepsydra/clepsydralaw10.ProbeBest", spec := "probeBest", recurses := true, apart := false }
def ProbeBestSaid : Prop := probeBestRow.holds Try.pinned (OpenSpec.ofChange probeBestSpec)

/-- ITS FALSE NEIGHBOUR: 'it returns false'. Refute it at one input. -/
def probeBestWrong : ChangeSpec := { name := "probeBest", fn := fun _ => fun
  | [d1, d2] => { results := [.lit (.bool false)], args := [d1, d2] }
  | _ => none }
def ProbeBestWrongFalsely : Prop := probeBestRow.holds Try.pinned (OpenSpec.ofChange probeBestWrong)

/-- 'clepsydralaw10.ProbeNarrows': WHATEVER THE INPUT: true; the input reads as it did. -/
def probeNarrowsSpec : ChangeSpec := { name := "probeNarrows", fn := fun _ => fun
  | [d1, d2, d3] => { results := [.lit (.bool true)], args := [d1, d2, d3] }
  | _ => none }
def probeNarrowsRow : OpenClaim := { program := "ytigpigfoahlfjaa", sum := "5b4938db5bb4040fca769a4bf78f3086b6429c09962351307f7d6c097980faa6", func := "clepsydra/clepsydralaw10.ProbeNarrows", spec := "probeNarrows", apart := false }
def ProbeNarrowsSaid : Prop := probeNarrowsRow.holds Try.pinned (OpenSpec.ofChange probeNarrowsSpec)

/-- ITS FALSE NEIGHBOUR: 'it returns false'. Refute it at one input. -/
def probeNarrowsWrong : ChangeSpec := { name := "probeNarrows", fn := fun _ => fun
  | [d1, d2, d3] => { results := [.lit (.bool false)], args := [d1, d2, d3] }
  | _ => none }
def ProbeNarrowsWrongFalsely : Prop := probeNarrowsRow.holds Try.pinned (OpenSpec.ofChange probeNarrowsWrong)

/- THE SECOND FORM. 'bulk': how many values and letters a reading holds, each counted each time it is reached (what is shared counts as often as it is met; a slice's spare places count too). A statement '..UptoSaid' is the law's where the arguments, and the package variables that the reading takes, are together of bulk at most 1048576: NARROWER than '..Said'. Prove '..Said' where nothing that the law and all that it calls make is longer than what came in: it says more and counts as full. Else prove '..UptoSaid'. A law counts once. -/
mutual
def uptoBulk {H : Type} : DataW H → Nat
  | .lit (.string bytes) => bytes.length + 1
  | .lit _ => 1
  | .nil => 1
  | .ptr d => uptoBulk d + 1
  | .slice elems spare => uptoBulkAll elems + uptoBulkAll spare + 1
  | .agg parts => uptoBulkAll parts + 1
  | .iface _ d => uptoBulk d + 1
  | .map entries => uptoBulkEntries entries + 1
  | .held _ => 1
def uptoBulkAll {H : Type} : List (DataW H) → Nat
  | [] => 0
  | d :: r => uptoBulk d + uptoBulkAll r
def uptoBulkEntries {H : Type} : List (Lit × DataW H) → Nat
  | [] => 0
  | x :: r => uptoBulkEntry x + uptoBulkEntries r
def uptoBulkEntry {H : Type} : Lit × DataW H → Nat
  | (.string bytes, d) => bytes.length + uptoBulk d + 1
  | (_, d) => uptoBulk d + 1
 end
def uptoSmall : (H : Type) → List (DataW H) → Bool := fun _ ds => decide (uptoBulkAll ds ≤ 1048576)
def OpenSpec.upto (s : _root_.Go.ChangeSpec) : _root_.Go.OpenSpec := { _root_.Go.OpenSpec.ofChange s with cond := some uptoSmall }

/-- 'clepsydralaw11.CarryMoves', WHERE WHAT IT READS IS OF BULK AT MOST 1048576: true; the input reads as it did. -/
def carryMovesUptoRow : OpenClaim := { program := "ytigpigfoahlfjaa", sum := "5b4938db5bb4040fca769a4bf78f3086b6429c09962351307f7d6c097980faa6", func := "clepsydra/clepsydralaw11.CarryMoves", spec := "carryMoves", apart := false, narrowed := true }
def CarryMovesUptoSaid : Prop := carryMovesUptoRow.holds Try.pinned (OpenSpec.upto carryMovesSpec)

/-- 'clepsydralaw11.CarryBrings', WHERE WHAT IT READS IS OF BULK AT MOST 1048576: true; the input reads as it did. -/
def carryBringsUptoRow : OpenClaim := { program := "ytigpigfoahlfjaa", sum := "5b4938db5bb4040fca769a4bf78f3086b6429c09962351307f7d6c097980faa6", func := "clepsydra/clepsydralaw11.CarryBrings", spec := "carryBrings", apart := false, narrowed := true }
def CarryBringsUptoSaid : Prop := carryBringsUptoRow.holds Try.pinned (OpenSpec.upto carryBringsSpec)

/-- 'clepsydralaw11.CarryAges', WHERE WHAT IT READS IS OF BULK AT MOST 1048576: true; the input reads as it did. -/
def carryAgesUptoRow : OpenClaim := { program := "ytigpigfoahlfjaa", sum := "5b4938db5bb4040fca769a4bf78f3086b6429c09962351307f7d6c097980faa6", func := "clepsydra/clepsydralaw11.CarryAges", spec := "carryAges", apart := false, narrowed := true }
def CarryAgesUptoSaid : Prop := carryAgesUptoRow.holds Try.pinned (OpenSpec.upto carryAgesSpec)

/-- 'clepsydralaw11.CarryWithin', WHERE WHAT IT READS IS OF BULK AT MOST 1048576: true; the input reads as it did. -/
def carryWithinUptoRow : OpenClaim := { program := "ytigpigfoahlfjaa", sum := "5b4938db5bb4040fca769a4bf78f3086b6429c09962351307f7d6c097980faa6", func := "clepsydra/clepsydralaw11.CarryWithin", spec := "carryWithin", apart := false, narrowed := true }
def CarryWithinUptoSaid : Prop := carryWithinUptoRow.holds Try.pinned (OpenSpec.upto carryWithinSpec)

/-- 'clepsydralaw11.CarryHolds', WHERE WHAT IT READS IS OF BULK AT MOST 1048576: true; the input reads as it did. -/
def carryHoldsUptoRow : OpenClaim := { program := "ytigpigfoahlfjaa", sum := "5b4938db5bb4040fca769a4bf78f3086b6429c09962351307f7d6c097980faa6", func := "clepsydra/clepsydralaw11.CarryHolds", spec := "carryHolds", apart := false, narrowed := true }
def CarryHoldsUptoSaid : Prop := carryHoldsUptoRow.holds Try.pinned (OpenSpec.upto carryHoldsSpec)

/-- 'clepsydralaw20.HlcBounds', WHERE WHAT IT READS IS OF BULK AT MOST 1048576: true; the input reads as it did. -/
def hlcBoundsUptoRow : OpenClaim := { program := "ytigpigfoahlfjaa", sum := "5b4938db5bb4040fca769a4bf78f3086b6429c09962351307f7d6c097980faa6", func := "clepsydra/clepsydralaw20.HlcBounds", spec := "hlcBounds", apart := false, narrowed := true }
def HlcBoundsUptoSaid : Prop := hlcBoundsUptoRow.holds Try.pinned (OpenSpec.upto hlcBoundsSpec)

/-- 'clepsydralaw20.HlcAhead', WHERE WHAT IT READS IS OF BULK AT MOST 1048576: true; the input reads as it did. -/
def hlcAheadUptoRow : OpenClaim := { program := "ytigpigfoahlfjaa", sum := "5b4938db5bb4040fca769a4bf78f3086b6429c09962351307f7d6c097980faa6", func := "clepsydra/clepsydralaw20.HlcAhead", spec := "hlcAhead", apart := false, narrowed := true }
def HlcAheadUptoSaid : Prop := hlcAheadUptoRow.holds Try.pinned (OpenSpec.upto hlcAheadSpec)

/-- 'clepsydralaw10.ProbeTells', WHERE WHAT IT READS IS OF BULK AT MOST 1048576: true; the input reads as it did. -/
def probeTellsUptoRow : OpenClaim := { program := "ytigpigfoahlfjaa", sum := "5b4938db5bb4040fca769a4bf78f3086b6429c09962351307f7d6c097980faa6", func := "clepsydra/clepsydralaw10.ProbeTells", spec := "probeTells", recurses := true, apart := false, narrowed := true }
def ProbeTellsUptoSaid : Prop := probeTellsUptoRow.holds Try.pinned (OpenSpec.upto probeTellsSpec)

/-- 'clepsydralaw11.CarryWidens', WHERE WHAT IT READS IS OF BULK AT MOST 1048576: true; the input reads as it did. -/
def carryWidensUptoRow : OpenClaim := { program := "ytigpigfoahlfjaa", sum := "5b4938db5bb4040fca769a4bf78f3086b6429c09962351307f7d6c097980faa6", func := "clepsydra/clepsydralaw11.CarryWidens", spec := "carryWidens", apart := false, narrowed := true }
def CarryWidensUptoSaid : Prop := carryWidensUptoRow.holds Try.pinned (OpenSpec.upto carryWidensSpec)

/-- 'clepsydralaw10.ProbeHolds', WHERE WHAT IT READS IS OF BULK AT MOST 1048576: true; the input reads as it did. -/
def probeHoldsUptoRow : OpenClaim := { program := "ytigpigfoahlfjaa", sum := "5b4938db5bb4040fca769a4bf78f3086b6429c09962351307f7d6c097980faa6", func := "clepsydra/clepsydralaw10.ProbeHolds", spec := "probeHolds", apart := false, narrowed := true }
def ProbeHoldsUptoSaid : Prop := probeHoldsUptoRow.holds Try.pinned (OpenSpec.upto probeHoldsSpec)

/-- 'clepsydralaw10.ProbeBest', WHERE WHAT IT READS IS OF BULK AT MOST 1048576: true; the input reads as it did. -/
def probeBestUptoRow : OpenClaim := { program := "ytigpigfoahlfjaa", sum := "5b4938db5bb4040fca769a4bf78f3086b6429c09962351307f7d6c097980faa6", func := "clepsydra/clepsydralaw10.ProbeBest", spec := "probeBest", recurses := true, apart := false, narrowed := true }
def ProbeBestUptoSaid : Prop := probeBestUptoRow.holds Try.pinned (OpenSpec.upto probeBestSpec)

/-- 'clepsydralaw10.ProbeNarrows', WHERE WHAT IT READS IS OF BULK AT MOST 1048576: true; the input reads as it did. -/
def probeNarrowsUptoRow : OpenClaim := { program := "ytigpigfoahlfjaa", sum := "5b4938db5bb4040fca769a4bf78f3086b6429c09962351307f7d6c097980faa6", func := "clepsydra/clepsydralaw10.ProbeNarrows", spec := "probeNarrows", apart := false, narrowed := true }
def ProbeNarrowsUptoSaid : Prop := probeNarrowsUptoRow.holds Try.pinned (OpenSpec.upto probeNarrowsSpec)

end Rows
end Go.Proofs.Ytigpigfoahlfjaa
