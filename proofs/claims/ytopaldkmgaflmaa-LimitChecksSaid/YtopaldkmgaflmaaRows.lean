/-
  No cell of these rows narrows 'for every input' (looked for: loops, veiled, ifaces, maps, wideKeys, modest, calm, conditions, laid).
  DERIVED. THE GIVEN ROWS OF THIS SEAT. 12 by the template 'for every input the law returns true; each argument reads behind the call as it read before'; 0 by the template 'total and deterministic' (their statements: YtopaldkmgaflmaaTotals.lean).
  GIVEN WITH THE SEED: the statements are not yours to turn. If you find one false, say at which input.
  Laid BY PROGRAM, IN A SANDBOX (cutbox-rows.mjs): the forced cells as the released guide's own fill.sh prints them over the translation 263dd0436e1a403d… (all of the seat's roots in one cut). By AI agents, Wed Nov 11 2026. No macro, syntax, notation, axiom, sorry.
-/
import Derived.Test.YtopaldkmgaflmaaChecked
import GoSem.Claim
import GoSem.ClaimJoined
import GoSem.ClaimMapViews
import Derived.JoinedTies
import Derived.KernelRfl
namespace Go.Proofs.Ytopaldkmgaflmaa
/- THE CELL 'sum', in the pinned program and in every row, IS THE sha256 OF THE DUMP (.gsa) THAT YtopaldkmgaflmaaProg.lean LOADS. Nothing in Lean hashes anything: it is a label: what it is worth is what the hold of that sum in a sandbox is worth. -/
noncomputable def Try.pinned : Pinned := { name := "ytopaldkmgaflmaa", sum := "263dd0436e1a403d418338dfc3b70c9af1cf1ca7d5d6fb2eb5919098fb3128b0", checked := Try.checked }
namespace Rows
def none {H : Type} : Left H := { results := [], args := [] }

/-- 'clepsydralaw04.LimitChecks': WHATEVER THE INPUT: true; the input reads as it did. -/
def limitChecksSpec : ChangeSpec := { name := "limitChecks", fn := fun _ => fun
  | [d] => { results := [.lit (.bool true)], args := [d] }
  | _ => none }
def limitChecksRow : OpenClaim := { program := "ytopaldkmgaflmaa", sum := "263dd0436e1a403d418338dfc3b70c9af1cf1ca7d5d6fb2eb5919098fb3128b0", func := "clepsydra/clepsydralaw04.LimitChecks", spec := "limitChecks", apart := false }
def LimitChecksSaid : Prop := limitChecksRow.holds Try.pinned (OpenSpec.ofChange limitChecksSpec)

/-- ITS FALSE NEIGHBOUR: 'it returns false'. Refute it at one input. -/
def limitChecksWrong : ChangeSpec := { name := "limitChecks", fn := fun _ => fun
  | [d] => { results := [.lit (.bool false)], args := [d] }
  | _ => none }
def LimitChecksWrongFalsely : Prop := limitChecksRow.holds Try.pinned (OpenSpec.ofChange limitChecksWrong)

/-- 'clepsydralaw01.SatBinds': WHATEVER THE INPUT: true; the input reads as it did. -/
def satBindsSpec : ChangeSpec := { name := "satBinds", fn := fun _ => fun
  | [d1, d2, d3] => { results := [.lit (.bool true)], args := [d1, d2, d3] }
  | _ => none }
def satBindsRow : OpenClaim := { program := "ytopaldkmgaflmaa", sum := "263dd0436e1a403d418338dfc3b70c9af1cf1ca7d5d6fb2eb5919098fb3128b0", func := "clepsydra/clepsydralaw01.SatBinds", spec := "satBinds", apart := false }
def SatBindsSaid : Prop := satBindsRow.holds Try.pinned (OpenSpec.ofChange satBindsSpec)

/-- ITS FALSE NEIGHBOUR: 'it returns false'. Refute it at one input. -/
def satBindsWrong : ChangeSpec := { name := "satBinds", fn := fun _ => fun
  | [d1, d2, d3] => { results := [.lit (.bool false)], args := [d1, d2, d3] }
  | _ => none }
def SatBindsWrongFalsely : Prop := satBindsRow.holds Try.pinned (OpenSpec.ofChange satBindsWrong)

/-- 'clepsydralaw01.SatClips': WHATEVER THE INPUT: true; the input reads as it did. -/
def satClipsSpec : ChangeSpec := { name := "satClips", fn := fun _ => fun
  | [d1, d2, d3] => { results := [.lit (.bool true)], args := [d1, d2, d3] }
  | _ => none }
def satClipsRow : OpenClaim := { program := "ytopaldkmgaflmaa", sum := "263dd0436e1a403d418338dfc3b70c9af1cf1ca7d5d6fb2eb5919098fb3128b0", func := "clepsydra/clepsydralaw01.SatClips", spec := "satClips", apart := false }
def SatClipsSaid : Prop := satClipsRow.holds Try.pinned (OpenSpec.ofChange satClipsSpec)

/-- ITS FALSE NEIGHBOUR: 'it returns false'. Refute it at one input. -/
def satClipsWrong : ChangeSpec := { name := "satClips", fn := fun _ => fun
  | [d1, d2, d3] => { results := [.lit (.bool false)], args := [d1, d2, d3] }
  | _ => none }
def SatClipsWrongFalsely : Prop := satClipsRow.holds Try.pinned (OpenSpec.ofChange satClipsWrong)

/-- 'clepsydralaw01.SatAdds': WHATEVER THE INPUT: true; the input reads as it did. -/
def satAddsSpec : ChangeSpec := { name := "satAdds", fn := fun _ => fun
  | [d1, d2, d3] => { results := [.lit (.bool true)], args := [d1, d2, d3] }
  | _ => none }
def satAddsRow : OpenClaim := { program := "ytopaldkmgaflmaa", sum := "263dd0436e1a403d418338dfc3b70c9af1cf1ca7d5d6fb2eb5919098fb3128b0", func := "clepsydra/clepsydralaw01.SatAdds", spec := "satAdds", apart := false }
def SatAddsSaid : Prop := satAddsRow.holds Try.pinned (OpenSpec.ofChange satAddsSpec)

/-- ITS FALSE NEIGHBOUR: 'it returns false'. Refute it at one input. -/
def satAddsWrong : ChangeSpec := { name := "satAdds", fn := fun _ => fun
  | [d1, d2, d3] => { results := [.lit (.bool false)], args := [d1, d2, d3] }
  | _ => none }
def SatAddsWrongFalsely : Prop := satAddsRow.holds Try.pinned (OpenSpec.ofChange satAddsWrong)

/-- 'clepsydralaw01.SatEnds': WHATEVER THE INPUT: true; the input reads as it did. -/
def satEndsSpec : ChangeSpec := { name := "satEnds", fn := fun _ => fun
  | [d] => { results := [.lit (.bool true)], args := [d] }
  | _ => none }
def satEndsRow : OpenClaim := { program := "ytopaldkmgaflmaa", sum := "263dd0436e1a403d418338dfc3b70c9af1cf1ca7d5d6fb2eb5919098fb3128b0", func := "clepsydra/clepsydralaw01.SatEnds", spec := "satEnds", apart := false }
def SatEndsSaid : Prop := satEndsRow.holds Try.pinned (OpenSpec.ofChange satEndsSpec)

/-- ITS FALSE NEIGHBOUR: 'it returns false'. Refute it at one input. -/
def satEndsWrong : ChangeSpec := { name := "satEnds", fn := fun _ => fun
  | [d] => { results := [.lit (.bool false)], args := [d] }
  | _ => none }
def SatEndsWrongFalsely : Prop := satEndsRow.holds Try.pinned (OpenSpec.ofChange satEndsWrong)

/-- 'clepsydralaw03.SpanMiddle': WHATEVER THE INPUT: true; the input reads as it did. -/
def spanMiddleSpec : ChangeSpec := { name := "spanMiddle", fn := fun _ => fun
  | [d] => { results := [.lit (.bool true)], args := [d] }
  | _ => none }
def spanMiddleRow : OpenClaim := { program := "ytopaldkmgaflmaa", sum := "263dd0436e1a403d418338dfc3b70c9af1cf1ca7d5d6fb2eb5919098fb3128b0", func := "clepsydra/clepsydralaw03.SpanMiddle", spec := "spanMiddle", apart := false }
def SpanMiddleSaid : Prop := spanMiddleRow.holds Try.pinned (OpenSpec.ofChange spanMiddleSpec)

/-- ITS FALSE NEIGHBOUR: 'it returns false'. Refute it at one input. -/
def spanMiddleWrong : ChangeSpec := { name := "spanMiddle", fn := fun _ => fun
  | [d] => { results := [.lit (.bool false)], args := [d] }
  | _ => none }
def SpanMiddleWrongFalsely : Prop := spanMiddleRow.holds Try.pinned (OpenSpec.ofChange spanMiddleWrong)

/-- 'clepsydralaw01.SatMuls': WHATEVER THE INPUT: true; the input reads as it did. -/
def satMulsSpec : ChangeSpec := { name := "satMuls", fn := fun _ => fun
  | [d1, d2] => { results := [.lit (.bool true)], args := [d1, d2] }
  | _ => none }
def satMulsRow : OpenClaim := { program := "ytopaldkmgaflmaa", sum := "263dd0436e1a403d418338dfc3b70c9af1cf1ca7d5d6fb2eb5919098fb3128b0", func := "clepsydra/clepsydralaw01.SatMuls", spec := "satMuls", recurses := true, apart := false }
def SatMulsSaid : Prop := satMulsRow.holds Try.pinned (OpenSpec.ofChange satMulsSpec)

/-- ITS FALSE NEIGHBOUR: 'it returns false'. Refute it at one input. -/
def satMulsWrong : ChangeSpec := { name := "satMuls", fn := fun _ => fun
  | [d1, d2] => { results := [.lit (.bool false)], args := [d1, d2] }
  | _ => none }
def SatMulsWrongFalsely : Prop := satMulsRow.holds Try.pinned (OpenSpec.ofChange satMulsWrong)

/-- 'clepsydralaw03.SpanMeets': WHATEVER THE INPUT: true; the input reads as it did. -/
def spanMeetsSpec : ChangeSpec := { name := "spanMeets", fn := fun _ => fun
  | [d] => { results := [.lit (.bool true)], args := [d] }
  | _ => none }
def spanMeetsRow : OpenClaim := { program := "ytopaldkmgaflmaa", sum := "263dd0436e1a403d418338dfc3b70c9af1cf1ca7d5d6fb2eb5919098fb3128b0", func := "clepsydra/clepsydralaw03.SpanMeets", spec := "spanMeets", apart := false }
def SpanMeetsSaid : Prop := spanMeetsRow.holds Try.pinned (OpenSpec.ofChange spanMeetsSpec)

/-- ITS FALSE NEIGHBOUR: 'it returns false'. Refute it at one input. -/
def spanMeetsWrong : ChangeSpec := { name := "spanMeets", fn := fun _ => fun
  | [d] => { results := [.lit (.bool false)], args := [d] }
  | _ => none }
def SpanMeetsWrongFalsely : Prop := spanMeetsRow.holds Try.pinned (OpenSpec.ofChange spanMeetsWrong)

/-- 'clepsydralaw03.SpanMoves': WHATEVER THE INPUT: true; the input reads as it did. -/
def spanMovesSpec : ChangeSpec := { name := "spanMoves", fn := fun _ => fun
  | [d1, d2, d3, d4, d5] => { results := [.lit (.bool true)], args := [d1, d2, d3, d4, d5] }
  | _ => none }
def spanMovesRow : OpenClaim := { program := "ytopaldkmgaflmaa", sum := "263dd0436e1a403d418338dfc3b70c9af1cf1ca7d5d6fb2eb5919098fb3128b0", func := "clepsydra/clepsydralaw03.SpanMoves", spec := "spanMoves", apart := false }
def SpanMovesSaid : Prop := spanMovesRow.holds Try.pinned (OpenSpec.ofChange spanMovesSpec)

/-- ITS FALSE NEIGHBOUR: 'it returns false'. Refute it at one input. -/
def spanMovesWrong : ChangeSpec := { name := "spanMoves", fn := fun _ => fun
  | [d1, d2, d3, d4, d5] => { results := [.lit (.bool false)], args := [d1, d2, d3, d4, d5] }
  | _ => none }
def SpanMovesWrongFalsely : Prop := spanMovesRow.holds Try.pinned (OpenSpec.ofChange spanMovesWrong)

/-- 'clepsydralaw03.SpanMakes': WHATEVER THE INPUT: true; the input reads as it did. -/
def spanMakesSpec : ChangeSpec := { name := "spanMakes", fn := fun _ => fun
  | [d1, d2, d3, d4] => { results := [.lit (.bool true)], args := [d1, d2, d3, d4] }
  | _ => none }
def spanMakesRow : OpenClaim := { program := "ytopaldkmgaflmaa", sum := "263dd0436e1a403d418338dfc3b70c9af1cf1ca7d5d6fb2eb5919098fb3128b0", func := "clepsydra/clepsydralaw03.SpanMakes", spec := "spanMakes", apart := false }
def SpanMakesSaid : Prop := spanMakesRow.holds Try.pinned (OpenSpec.ofChange spanMakesSpec)

/-- ITS FALSE NEIGHBOUR: 'it returns false'. Refute it at one input. -/
def spanMakesWrong : ChangeSpec := { name := "spanMakes", fn := fun _ => fun
  | [d1, d2, d3, d4] => { results := [.lit (.bool false)], args := [d1, d2, d3, d4] }
  | _ => none }
def SpanMakesWrongFalsely : Prop := spanMakesRow.holds Try.pinned (OpenSpec.ofChange spanMakesWrong)

/-- 'clepsydralaw01.SatTrue': WHATEVER THE INPUT: true; the input reads as it did. -/
def satTrueSpec : ChangeSpec := { name := "satTrue", fn := fun _ => fun
  | [d1, d2] => { results := [.lit (.bool true)], args := [d1, d2] }
  | _ => none }
def satTrueRow : OpenClaim := { program := "ytopaldkmgaflmaa", sum := "263dd0436e1a403d418338dfc3b70c9af1cf1ca7d5d6fb2eb5919098fb3128b0", func := "clepsydra/clepsydralaw01.SatTrue", spec := "satTrue", apart := false }
def SatTrueSaid : Prop := satTrueRow.holds Try.pinned (OpenSpec.ofChange satTrueSpec)

/-- ITS FALSE NEIGHBOUR: 'it returns false'. Refute it at one input. -/
def satTrueWrong : ChangeSpec := { name := "satTrue", fn := fun _ => fun
  | [d1, d2] => { results := [.lit (.bool false)], args := [d1, d2] }
  | _ => none }
def SatTrueWrongFalsely : Prop := satTrueRow.holds Try.pinned (OpenSpec.ofChange satTrueWrong)

/-- 'clepsydralaw01.SatStays': WHATEVER THE INPUT: true; the input reads as it did. -/
def satStaysSpec : ChangeSpec := { name := "satStays", fn := fun _ => fun
  | [d1, d2, d3] => { results := [.lit (.bool true)], args := [d1, d2, d3] }
  | _ => none }
def satStaysRow : OpenClaim := { program := "ytopaldkmgaflmaa", sum := "263dd0436e1a403d418338dfc3b70c9af1cf1ca7d5d6fb2eb5919098fb3128b0", func := "clepsydra/clepsydralaw01.SatStays", spec := "satStays", apart := false }
def SatStaysSaid : Prop := satStaysRow.holds Try.pinned (OpenSpec.ofChange satStaysSpec)

/-- ITS FALSE NEIGHBOUR: 'it returns false'. Refute it at one input. -/
def satStaysWrong : ChangeSpec := { name := "satStays", fn := fun _ => fun
  | [d1, d2, d3] => { results := [.lit (.bool false)], args := [d1, d2, d3] }
  | _ => none }
def SatStaysWrongFalsely : Prop := satStaysRow.holds Try.pinned (OpenSpec.ofChange satStaysWrong)

/- THE SECOND FORM. 'bulk': how many values and letters a reading holds, each counted each time it is reached (what is shared counts as often as it is met; a slice's spare places count too). A statement '..UptoSaid' is the law's where the arguments, and the package variables that the reading takes, are together of bulk at most 1048576: NARROWER than '..Said'. Prove '..Said' where nothing that the law and all that it calls make is longer than what came in: it says more and counts as full. Else prove '..UptoSaid'. A law counts once. -/
mutual
def uptoBulk {H : Type} : DataW H → Nat
  | .lit (.string bytes) => bytes.length + 1
  | .lit _ => 1
  | .nil => 1
  | .ptr d => uptoBulk d + 1
  | .slice elems spare => uptoBulkAll elems + uptoBulkAll spare + 1
  | .agg parts => uptoBulkAll parts + 1
  | .iface _ d => uptoBulk d + 1
  | .map entries => uptoBulkEntries entries + 1
  | .held _ => 1
def uptoBulkAll {H : Type} : List (DataW H) → Nat
  | [] => 0
  | d :: r => uptoBulk d + uptoBulkAll r
def uptoBulkEntries {H : Type} : List (Lit × DataW H) → Nat
  | [] => 0
  | x :: r => uptoBulkEntry x + uptoBulkEntries r
def uptoBulkEntry {H : Type} : Lit × DataW H → Nat
  | (.string bytes, d) => bytes.length + uptoBulk d + 1
  | (_, d) => uptoBulk d + 1
 end
def uptoSmall : (H : Type) → List (DataW H) → Bool := fun _ ds => decide (uptoBulkAll ds ≤ 1048576)
def OpenSpec.upto (s : _root_.Go.ChangeSpec) : _root_.Go.OpenSpec := { _root_.Go.OpenSpec.ofChange s with cond := some uptoSmall }

/-- 'clepsydralaw04.LimitChecks', WHERE WHAT IT READS IS OF BULK AT MOST 1048576: true; the input reads as it did. -/
def limitChecksUptoRow : OpenClaim := { program := "ytopaldkmgaflmaa", sum := "263dd0436e1a403d418338dfc3b70c9af1cf1ca7d5d6fb2eb5919098fb3128b0", func := "clepsydra/clepsydralaw04.LimitChecks", spec := "limitChecks", apart := false, narrowed := true }
def LimitChecksUptoSaid : Prop := limitChecksUptoRow.holds Try.pinned (OpenSpec.upto limitChecksSpec)

/-- 'clepsydralaw01.SatBinds', WHERE WHAT IT READS IS OF BULK AT MOST 1048576: true; the input reads as it did. -/
def satBindsUptoRow : OpenClaim := { program := "ytopaldkmgaflmaa", sum := "263dd0436e1a403d418338dfc3b70c9af1cf1ca7d5d6fb2eb5919098fb3128b0", func := "clepsydra/clepsydralaw01.SatBinds", spec := "satBinds", apart := false, narrowed := true }
def SatBindsUptoSaid : Prop := satBindsUptoRow.holds Try.pinned (OpenSpec.upto satBindsSpec)

/-- 'clepsydralaw01.SatClips', WHERE WHAT IT READS IS OF BULK AT MOST 1048576: true; the input reads as it did. -/
def satClipsUptoRow : OpenClaim := { program := "ytopaldkmgaflmaa", sum := "263dd0436e1a403d418338dfc3b70c9af1cf1ca7d5d6fb2eb5919098fb3128b0", func := "clepsydra/clepsydralaw01.SatClips", spec := "satClips", apart := false, narrowed := true }
def SatClipsUptoSaid : Prop := satClipsUptoRow.holds Try.pinned (OpenSpec.upto satClipsSpec)

/-- 'clepsydralaw01.SatAdds', WHERE WHAT IT READS IS OF BULK AT MOST 1048576: true; the input reads as it did. -/
def satAddsUptoRow : OpenClaim := { program := "ytopaldkmgaflmaa", sum := "263dd0436e1a403d418338dfc3b70c9af1cf1ca7d5d6fb2eb5919098fb3128b0", func := "clepsydra/clepsydralaw01.SatAdds", spec := "satAdds", apart := false, narrowed := true }
def SatAddsUptoSaid : Prop := satAddsUptoRow.holds Try.pinned (OpenSpec.upto satAddsSpec)

/-- 'clepsydralaw01.SatEnds', WHERE WHAT IT READS IS OF BULK AT MOST 1048576: true; the input reads as it did. -/
def satEndsUptoRow : OpenClaim := { program := "ytopaldkmgaflmaa", sum := "263dd0436e1a403d418338dfc3b70c9af1cf1ca7d5d6fb2eb5919098fb3128b0", func := "clepsydra/clepsydralaw01.SatEnds", spec := "satEnds", apart := false, narrowed := true }
def SatEndsUptoSaid : Prop := satEndsUptoRow.holds Try.pinned (OpenSpec.upto satEndsSpec)

/-- 'clepsydralaw03.SpanMiddle', WHERE WHAT IT READS IS OF BULK AT MOST 1048576: true; the input reads as it did. -/
def spanMiddleUptoRow : OpenClaim := { program := "ytopaldkmgaflmaa", sum := "263dd0436e1a403d418338dfc3b70c9af1cf1ca7d5d6fb2eb5919098fb3128b0", func := "clepsydra/clepsydralaw03.SpanMiddle", spec := "spanMiddle", apart := false, narrowed := true }
def SpanMiddleUptoSaid : Prop := spanMiddleUptoRow.holds Try.pinned (OpenSpec.upto spanMiddleSpec)

/-- 'clepsydralaw01.SatMuls', WHERE WHAT IT READS IS OF BULK AT MOST 1048576: true; the input reads as it did. -/
def satMulsUptoRow : OpenClaim := { program := "ytopaldkmgaflmaa", sum := "263dd0436e1a403d418338dfc3b70c9af1cf1ca7d5d6fb2eb5919098fb3128b0", func := "clepsydra/clepsydralaw01.SatMuls", spec := "satMuls", recurses := true, apart := false, narrowed := true }
def SatMulsUptoSaid : Prop := satMulsUptoRow.holds Try.pinned (OpenSpec.upto satMulsSpec)

/-- 'clepsydralaw03.SpanMeets', WHERE WHAT IT READS IS OF BULK AT MOST 1048576: true; the input reads as it did. -/
def spanMeetsUptoRow : OpenClaim := { program := "ytopaldkmgaflmaa", sum := "263dd0436e1a403d418338dfc3b70c9af1cf1ca7d5d6fb2eb5919098fb3128b0", func := "clepsydra/clepsydralaw03.SpanMeets", spec := "spanMeets", apart := false, narrowed := true }
def SpanMeetsUptoSaid : Prop := spanMeetsUptoRow.holds Try.pinned (OpenSpec.upto spanMeetsSpec)

/-- 'clepsydralaw03.SpanMoves', WHERE WHAT IT READS IS OF BULK AT MOST 1048576: true; the input reads as it did. -/
def spanMovesUptoRow : OpenClaim := { program := "ytopaldkmgaflmaa", sum := "263dd0436e1a403d418338dfc3b70c9af1cf1ca7d5d6fb2eb5919098fb3128b0", func := "clepsydra/clepsydralaw03.SpanMoves", spec := "spanMoves", apart := false, narrowed := true }
def SpanMovesUptoSaid : Prop := spanMovesUptoRow.holds Try.pinned (OpenSpec.upto spanMovesSpec)

/-- 'clepsydralaw03.SpanMakes', WHERE WHAT IT READS IS OF BULK AT MOST 1048576: true; the input reads as it did. -/
def spanMakesUptoRow : OpenClaim := { program := "ytopaldkmgaflmaa", sum := "263dd0436e1a403d418338dfc3b70c9af1cf1ca7d5d6fb2eb5919098fb3128b0", func := "clepsydra/clepsydralaw03.SpanMakes", spec := "spanMakes", apart := false, narrowed := true }
def SpanMakesUptoSaid : Prop := spanMakesUptoRow.holds Try.pinned (OpenSpec.upto spanMakesSpec)

/-- 'clepsydralaw01.SatTrue', WHERE WHAT IT READS IS OF BULK AT MOST 1048576: true; the input reads as it did. -/
def satTrueUptoRow : OpenClaim := { program := "ytopaldkmgaflmaa", sum := "263dd0436e1a403d418338dfc3b70c9af1cf1ca7d5d6fb2eb5919098fb3128b0", func := "clepsydra/clepsydralaw01.SatTrue", spec := "satTrue", apart := false, narrowed := true }
def SatTrueUptoSaid : Prop := satTrueUptoRow.holds Try.pinned (OpenSpec.upto satTrueSpec)

/-- 'clepsydralaw01.SatStays', WHERE WHAT IT READS IS OF BULK AT MOST 1048576: true; the input reads as it did. -/
def satStaysUptoRow : OpenClaim := { program := "ytopaldkmgaflmaa", sum := "263dd0436e1a403d418338dfc3b70c9af1cf1ca7d5d6fb2eb5919098fb3128b0", func := "clepsydra/clepsydralaw01.SatStays", spec := "satStays", apart := false, narrowed := true }
def SatStaysUptoSaid : Prop := satStaysUptoRow.holds Try.pinned (OpenSpec.upto satStaysSpec)

end Rows
end Go.Proofs.Ytopaldkmgaflmaa
