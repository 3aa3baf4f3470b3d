/-
  No cell of these rows narrows 'for every input' (looked for: loops, veiled, ifaces, maps, wideKeys, modest, calm, conditions, laid).
  DERIVED. THE GIVEN ROWS OF THIS SEAT. 6 by the template 'for every input the law returns true; each argument reads behind the call as it read before'; 0 by the template 'total and deterministic' (their statements: YtidoeplhgckmaaaTotals.lean).
  GIVEN WITH THE SEED: the statements are not yours to turn. If you find one false, say at which input.
  Laid BY PROGRAM, IN A SANDBOX (cutbox-rows.mjs): the forced cells as the released guide's own fill.sh prints them over the translation 03681cca71f315a6… (all of the seat's roots in one cut). By AI agents, Wed Nov 11 2026. No macro, syntax, notation, axiom, sorry.
-/
import Derived.Test.YtidoeplhgckmaaaChecked
import GoSem.Claim
import GoSem.ClaimJoined
import GoSem.ClaimMapViews
import Derived.JoinedTies
import Derived.KernelRfl
namespace Go.Proofs.Ytidoeplhgckmaaa
/- THE CELL 'sum', in the pinned program and in every row, IS THE sha256 OF THE DUMP (.gsa) THAT YtidoeplhgckmaaaProg.lean LOADS. Nothing in Lean hashes anything: it is a label: what it is worth is what the hold of that sum in a sandbox is worth. -/
noncomputable def Try.pinned : Pinned := { name := "ytidoeplhgckmaaa", sum := "03681cca71f315a6bff3787980edadfe2e941e7ccb042dfb9917a9ba843be4f9", checked := Try.checked }
namespace Rows
def none {H : Type} : Left H := { results := [], args := [] }

/-- 'clepsydralaw02.WideDivs': WHATEVER THE INPUT: true; the input reads as it did. -/
def wideDivsSpec : ChangeSpec := { name := "wideDivs", fn := fun _ => fun
  | [d1, d2] => { results := [.lit (.bool true)], args := [d1, d2] }
  | _ => none }
def wideDivsRow : OpenClaim := { program := "ytidoeplhgckmaaa", sum := "03681cca71f315a6bff3787980edadfe2e941e7ccb042dfb9917a9ba843be4f9", func := "clepsydra/clepsydralaw02.WideDivs", spec := "wideDivs", apart := false }
def WideDivsSaid : Prop := wideDivsRow.holds Try.pinned (OpenSpec.ofChange wideDivsSpec)

/-- ITS FALSE NEIGHBOUR: 'it returns false'. Refute it at one input. -/
def wideDivsWrong : ChangeSpec := { name := "wideDivs", fn := fun _ => fun
  | [d1, d2] => { results := [.lit (.bool false)], args := [d1, d2] }
  | _ => none }
def WideDivsWrongFalsely : Prop := wideDivsRow.holds Try.pinned (OpenSpec.ofChange wideDivsWrong)

/-- 'clepsydralaw02.WideCompares': WHATEVER THE INPUT: true; the input reads as it did. -/
def wideComparesSpec : ChangeSpec := { name := "wideCompares", fn := fun _ => fun
  | [d1, d2] => { results := [.lit (.bool true)], args := [d1, d2] }
  | _ => none }
def wideComparesRow : OpenClaim := { program := "ytidoeplhgckmaaa", sum := "03681cca71f315a6bff3787980edadfe2e941e7ccb042dfb9917a9ba843be4f9", func := "clepsydra/clepsydralaw02.WideCompares", spec := "wideCompares", inPlace := ["math/bits.Sub64"], recurses := true, apart := false }
def WideComparesSaid : Prop := wideComparesRow.holds Try.pinned (OpenSpec.ofChange wideComparesSpec)

/-- ITS FALSE NEIGHBOUR: 'it returns false'. Refute it at one input. -/
def wideComparesWrong : ChangeSpec := { name := "wideCompares", fn := fun _ => fun
  | [d1, d2] => { results := [.lit (.bool false)], args := [d1, d2] }
  | _ => none }
def WideComparesWrongFalsely : Prop := wideComparesRow.holds Try.pinned (OpenSpec.ofChange wideComparesWrong)

/-- 'clepsydralaw02.WideSmall': WHATEVER THE INPUT: true; the input reads as it did. -/
def wideSmallSpec : ChangeSpec := { name := "wideSmall", fn := fun _ => fun
  | [d1, d2, d3] => { results := [.lit (.bool true)], args := [d1, d2, d3] }
  | _ => none }
def wideSmallRow : OpenClaim := { program := "ytidoeplhgckmaaa", sum := "03681cca71f315a6bff3787980edadfe2e941e7ccb042dfb9917a9ba843be4f9", func := "clepsydra/clepsydralaw02.WideSmall", spec := "wideSmall", named := ["math/bits.divideError", "math/bits.overflowError"], apart := false }
def WideSmallSaid : Prop := wideSmallRow.holds Try.pinned (OpenSpec.ofChange wideSmallSpec)

/-- ITS FALSE NEIGHBOUR: 'it returns false'. Refute it at one input. -/
def wideSmallWrong : ChangeSpec := { name := "wideSmall", fn := fun _ => fun
  | [d1, d2, d3] => { results := [.lit (.bool false)], args := [d1, d2, d3] }
  | _ => none }
def WideSmallWrongFalsely : Prop := wideSmallRow.holds Try.pinned (OpenSpec.ofChange wideSmallWrong)

/-- 'clepsydralaw02.WideRounds': WHATEVER THE INPUT: true; the input reads as it did. -/
def wideRoundsSpec : ChangeSpec := { name := "wideRounds", fn := fun _ => fun
  | [d1, d2, d3] => { results := [.lit (.bool true)], args := [d1, d2, d3] }
  | _ => none }
def wideRoundsRow : OpenClaim := { program := "ytidoeplhgckmaaa", sum := "03681cca71f315a6bff3787980edadfe2e941e7ccb042dfb9917a9ba843be4f9", func := "clepsydra/clepsydralaw02.WideRounds", spec := "wideRounds", named := ["math/bits.divideError", "math/bits.overflowError"], apart := false }
def WideRoundsSaid : Prop := wideRoundsRow.holds Try.pinned (OpenSpec.ofChange wideRoundsSpec)

/-- ITS FALSE NEIGHBOUR: 'it returns false'. Refute it at one input. -/
def wideRoundsWrong : ChangeSpec := { name := "wideRounds", fn := fun _ => fun
  | [d1, d2, d3] => { results := [.lit (.bool false)], args := [d1, d2, d3] }
  | _ => none }
def WideRoundsWrongFalsely : Prop := wideRoundsRow.holds Try.pinned (OpenSpec.ofChange wideRoundsWrong)

/-- 'clepsydralaw02.WideMuls': WHATEVER THE INPUT: true; the input reads as it did. -/
def wideMulsSpec : ChangeSpec := { name := "wideMuls", fn := fun _ => fun
  | [d1, d2, d3] => { results := [.lit (.bool true)], args := [d1, d2, d3] }
  | _ => none }
def wideMulsRow : OpenClaim := { program := "ytidoeplhgckmaaa", sum := "03681cca71f315a6bff3787980edadfe2e941e7ccb042dfb9917a9ba843be4f9", func := "clepsydra/clepsydralaw02.WideMuls", spec := "wideMuls", named := ["math/bits.divideError", "math/bits.overflowError"], apart := false }
def WideMulsSaid : Prop := wideMulsRow.holds Try.pinned (OpenSpec.ofChange wideMulsSpec)

/-- ITS FALSE NEIGHBOUR: 'it returns false'. Refute it at one input. -/
def wideMulsWrong : ChangeSpec := { name := "wideMuls", fn := fun _ => fun
  | [d1, d2, d3] => { results := [.lit (.bool false)], args := [d1, d2, d3] }
  | _ => none }
def WideMulsWrongFalsely : Prop := wideMulsRow.holds Try.pinned (OpenSpec.ofChange wideMulsWrong)

/-- 'clepsydralaw02.WideRises': WHATEVER THE INPUT: true; the input reads as it did. -/
def wideRisesSpec : ChangeSpec := { name := "wideRises", fn := fun _ => fun
  | [d1, d2, d3, d4] => { results := [.lit (.bool true)], args := [d1, d2, d3, d4] }
  | _ => none }
def wideRisesRow : OpenClaim := { program := "ytidoeplhgckmaaa", sum := "03681cca71f315a6bff3787980edadfe2e941e7ccb042dfb9917a9ba843be4f9", func := "clepsydra/clepsydralaw02.WideRises", spec := "wideRises", named := ["math/bits.divideError", "math/bits.overflowError"], apart := false }
def WideRisesSaid : Prop := wideRisesRow.holds Try.pinned (OpenSpec.ofChange wideRisesSpec)

/-- ITS FALSE NEIGHBOUR: 'it returns false'. Refute it at one input. -/
def wideRisesWrong : ChangeSpec := { name := "wideRises", fn := fun _ => fun
  | [d1, d2, d3, d4] => { results := [.lit (.bool false)], args := [d1, d2, d3, d4] }
  | _ => none }
def WideRisesWrongFalsely : Prop := wideRisesRow.holds Try.pinned (OpenSpec.ofChange wideRisesWrong)

/- THE SECOND FORM. 'bulk': how many values and letters a reading holds, each counted each time it is reached (what is shared counts as often as it is met; a slice's spare places count too). A statement '..UptoSaid' is the law's where the arguments, and the package variables that the reading takes, are together of bulk at most 1048576: NARROWER than '..Said'. Prove '..Said' where nothing that the law and all that it calls make is longer than what came in: it says more and counts as full. Else prove '..UptoSaid'. A law counts once. -/
mutual
def uptoBulk {H : Type} : DataW H → Nat
  | .lit (.string bytes) => bytes.length + 1
  | .lit _ => 1
  | .nil => 1
  | .ptr d => uptoBulk d + 1
  | .slice elems spare => uptoBulkAll elems + uptoBulkAll spare + 1
  | .agg parts => uptoBulkAll parts + 1
  | .iface _ d => uptoBulk d + 1
  | .map entries => uptoBulkEntries entries + 1
  | .held _ => 1
def uptoBulkAll {H : Type} : List (DataW H) → Nat
  | [] => 0
  | d :: r => uptoBulk d + uptoBulkAll r
def uptoBulkEntries {H : Type} : List (Lit × DataW H) → Nat
  | [] => 0
  | x :: r => uptoBulkEntry x + uptoBulkEntries r
def uptoBulkEntry {H : Type} : Lit × DataW H → Nat
  | (.string bytes, d) => bytes.length + uptoBulk d + 1
  | (_, d) => uptoBulk d + 1
 end
def uptoSmall : (H : Type) → List (DataW H) → Bool := fun _ ds => decide (uptoBulkAll ds ≤ 1048576)
def OpenSpec.upto (s : _root_.Go.ChangeSpec) : _root_.Go.OpenSpec := { _root_.Go.OpenSpec.ofChange s with cond := some uptoSmall }

/-- 'clepsydralaw02.WideDivs', WHERE WHAT IT READS IS OF BULK AT MOST 1048576: true; the input reads as it did. -/
def wideDivsUptoRow : OpenClaim := { program := "ytidoeplhgckmaaa", sum := "03681cca71f315a6bff3787980edadfe2e941e7ccb042dfb9917a9ba843be4f9", func := "clepsydra/clepsydralaw02.WideDivs", spec := "wideDivs", apart := false, narrowed := true }
def WideDivsUptoSaid : Prop := wideDivsUptoRow.holds Try.pinned (OpenSpec.upto wideDivsSpec)

/-- 'clepsydralaw02.WideCompares', WHERE WHAT IT READS IS OF BULK AT MOST 1048576: true; the input reads as it did. -/
def wideComparesUptoRow : OpenClaim := { program := "ytidoeplhgckmaaa", sum := "03681cca71f315a6bff3787980edadfe2e941e7ccb042dfb9917a9ba843be4f9", func := "clepsydra/clepsydralaw02.WideCompares", spec := "wideCompares", inPlace := ["math/bits.Sub64"], recurses := true, apart := false, narrowed := true }
def WideComparesUptoSaid : Prop := wideComparesUptoRow.holds Try.pinned (OpenSpec.upto wideComparesSpec)

/-- 'clepsydralaw02.WideSmall', WHERE WHAT IT READS IS OF BULK AT MOST 1048576: true; the input reads as it did. -/
def wideSmallUptoRow : OpenClaim := { program := "ytidoeplhgckmaaa", sum := "03681cca71f315a6bff3787980edadfe2e941e7ccb042dfb9917a9ba843be4f9", func := "clepsydra/clepsydralaw02.WideSmall", spec := "wideSmall", named := ["math/bits.divideError", "math/bits.overflowError"], apart := false, narrowed := true }
def WideSmallUptoSaid : Prop := wideSmallUptoRow.holds Try.pinned (OpenSpec.upto wideSmallSpec)

/-- 'clepsydralaw02.WideRounds', WHERE WHAT IT READS IS OF BULK AT MOST 1048576: true; the input reads as it did. -/
def wideRoundsUptoRow : OpenClaim := { program := "ytidoeplhgckmaaa", sum := "03681cca71f315a6bff3787980edadfe2e941e7ccb042dfb9917a9ba843be4f9", func := "clepsydra/clepsydralaw02.WideRounds", spec := "wideRounds", named := ["math/bits.divideError", "math/bits.overflowError"], apart := false, narrowed := true }
def WideRoundsUptoSaid : Prop := wideRoundsUptoRow.holds Try.pinned (OpenSpec.upto wideRoundsSpec)

/-- 'clepsydralaw02.WideMuls', WHERE WHAT IT READS IS OF BULK AT MOST 1048576: true; the input reads as it did. -/
def wideMulsUptoRow : OpenClaim := { program := "ytidoeplhgckmaaa", sum := "03681cca71f315a6bff3787980edadfe2e941e7ccb042dfb9917a9ba843be4f9", func := "clepsydra/clepsydralaw02.WideMuls", spec := "wideMuls", named := ["math/bits.divideError", "math/bits.overflowError"], apart := false, narrowed := true }
def WideMulsUptoSaid : Prop := wideMulsUptoRow.holds Try.pinned (OpenSpec.upto wideMulsSpec)

/-- 'clepsydralaw02.WideRises', WHERE WHAT IT READS IS OF BULK AT MOST 1048576: true; the input reads as it did. -/
def wideRisesUptoRow : OpenClaim := { program := "ytidoeplhgckmaaa", sum := "03681cca71f315a6bff3787980edadfe2e941e7ccb042dfb9917a9ba843be4f9", func := "clepsydra/clepsydralaw02.WideRises", spec := "wideRises", named := ["math/bits.divideError", "math/bits.overflowError"], apart := false, narrowed := true }
def WideRisesUptoSaid : Prop := wideRisesUptoRow.holds Try.pinned (OpenSpec.upto wideRisesSpec)

end Rows
end Go.Proofs.Ytidoeplhgckmaaa
