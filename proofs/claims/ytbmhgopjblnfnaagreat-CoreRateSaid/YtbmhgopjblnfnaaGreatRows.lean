/-
  No cell of these rows narrows 'for every input' (looked for: loops, veiled, ifaces, maps, wideKeys, modest, calm, conditions, laid).
  DERIVED. THE GIVEN ROWS OF THIS SEAT. 3 by the template 'for every input the law returns true; each argument reads behind the call as it read before'; 0 by the template 'total and deterministic' (their statements: YtbmhgopjblnfnaaGreatTotals.lean).
  GIVEN WITH THE SEED: the statements are not yours to turn. If you find one false, say at which input.
  Laid BY PROGRAM, IN A SANDBOX (cutbox-rows.mjs): the forced cells as the released guide's own fill.sh prints them over the translation 325a0eb312dc9aee… (all of the seat's roots in one cut). By AI agents, Wed Nov 11 2026. No macro, syntax, notation, axiom, sorry.
-/
import Derived.Test.YtbmhgopjblnfnaaGreatChecked
import GoSem.Claim
import GoSem.ClaimJoined
import GoSem.ClaimMapViews
import Derived.JoinedTies
import Derived.KernelRfl
namespace Go.Proofs.YtbmhgopjblnfnaaGreat
/- THE CELL 'sum', in the pinned program and in every row, IS THE sha256 OF THE DUMP (.gsa) THAT YtbmhgopjblnfnaaGreatProg.lean LOADS. Nothing in Lean hashes anything: it is a label: what it is worth is what the hold of that sum in a sandbox is worth. -/
noncomputable def Tryz.pinned : Pinned := { name := "ytbmhgopjblnfnaagreat", sum := "325a0eb312dc9aeee3733d858c656a4fef9dfce58d2252a62d1f7869b04d92d5", checked := Tryz.checked }
namespace Rows
def none {H : Type} : Left H := { results := [], args := [] }

/-- 'clepsydratop.CoreRate': WHATEVER THE INPUT: true; the input reads as it did. -/
def coreRateSpec : ChangeSpec := { name := "coreRate", fn := fun _ => fun
  | [d1, d2] => { results := [.lit (.bool true)], args := [d1, d2] }
  | _ => none }
def coreRateRow : OpenClaim := { program := "ytbmhgopjblnfnaagreat", sum := "325a0eb312dc9aeee3733d858c656a4fef9dfce58d2252a62d1f7869b04d92d5", func := "clepsydra/clepsydratop.CoreRate", spec := "coreRate", unfollowed := true, recurses := true, named := ["math/bits.divideError", "math/bits.overflowError"], apart := false }
def CoreRateSaid : Prop := coreRateRow.holds Tryz.pinned (OpenSpec.ofChange coreRateSpec)

/-- ITS FALSE NEIGHBOUR: 'it returns false'. Refute it at one input. -/
def coreRateWrong : ChangeSpec := { name := "coreRate", fn := fun _ => fun
  | [d1, d2] => { results := [.lit (.bool false)], args := [d1, d2] }
  | _ => none }
def CoreRateWrongFalsely : Prop := coreRateRow.holds Tryz.pinned (OpenSpec.ofChange coreRateWrong)

/-- 'clepsydratop.CoreHoldover': WHATEVER THE INPUT: true; the input reads as it did. -/
def coreHoldoverSpec : ChangeSpec := { name := "coreHoldover", fn := fun _ => fun
  | [d1, d2] => { results := [.lit (.bool true)], args := [d1, d2] }
  | _ => none }
def coreHoldoverRow : OpenClaim := { program := "ytbmhgopjblnfnaagreat", sum := "325a0eb312dc9aeee3733d858c656a4fef9dfce58d2252a62d1f7869b04d92d5", func := "clepsydra/clepsydratop.CoreHoldover", spec := "coreHoldover", unfollowed := true, recurses := true, named := ["math/bits.divideError", "math/bits.overflowError"], apart := false }
def CoreHoldoverSaid : Prop := coreHoldoverRow.holds Tryz.pinned (OpenSpec.ofChange coreHoldoverSpec)

/-- ITS FALSE NEIGHBOUR: 'it returns false'. Refute it at one input. -/
def coreHoldoverWrong : ChangeSpec := { name := "coreHoldover", fn := fun _ => fun
  | [d1, d2] => { results := [.lit (.bool false)], args := [d1, d2] }
  | _ => none }
def CoreHoldoverWrongFalsely : Prop := coreHoldoverRow.holds Tryz.pinned (OpenSpec.ofChange coreHoldoverWrong)

/-- 'clepsydratop.CoreReturns': WHATEVER THE INPUT: true; the input reads as it did. -/
def coreReturnsSpec : ChangeSpec := { name := "coreReturns", fn := fun _ => fun
  | [d1, d2] => { results := [.lit (.bool true)], args := [d1, d2] }
  | _ => none }
def coreReturnsRow : OpenClaim := { program := "ytbmhgopjblnfnaagreat", sum := "325a0eb312dc9aeee3733d858c656a4fef9dfce58d2252a62d1f7869b04d92d5", func := "clepsydra/clepsydratop.CoreReturns", spec := "coreReturns", unfollowed := true, recurses := true, named := ["math/bits.divideError", "math/bits.overflowError"], apart := false }
def CoreReturnsSaid : Prop := coreReturnsRow.holds Tryz.pinned (OpenSpec.ofChange coreReturnsSpec)

/-- ITS FALSE NEIGHBOUR: 'it returns false'. Refute it at one input. -/
def coreReturnsWrong : ChangeSpec := { name := "coreReturns", fn := fun _ => fun
  | [d1, d2] => { results := [.lit (.bool false)], args := [d1, d2] }
  | _ => none }
def CoreReturnsWrongFalsely : Prop := coreReturnsRow.holds Tryz.pinned (OpenSpec.ofChange coreReturnsWrong)

/- THE SECOND FORM. 'bulk': how many values and letters a reading holds, each counted each time it is reached (what is shared counts as often as it is met; a slice's spare places count too). A statement '..UptoSaid' is the law's where the arguments, and the package variables that the reading takes, are together of bulk at most 1048576: NARROWER than '..Said'. Prove '..Said' where nothing that the law and all that it calls make is longer than what came in: it says more and counts as full. Else prove '..UptoSaid'. A law counts once. -/
mutual
def uptoBulk {H : Type} : DataW H → Nat
  | .lit (.string bytes) => bytes.length + 1
  | .lit _ => 1
  | .nil => 1
  | .ptr d => uptoBulk d + 1
  | .slice elems spare => uptoBulkAll elems + uptoBulkAll spare + 1
  | .agg parts => uptoBulkAll parts + 1
  | .iface _ d => uptoBulk d + 1
  | .map entries => uptoBulkEntries entries + 1
  | .held _ => 1
def uptoBulkAll {H : Type} : List (DataW H) → Nat
  | [] => 0
  | d :: r => uptoBulk d + uptoBulkAll r
def uptoBulkEntries {H : Type} : List (Lit × DataW H) → Nat
  | [] => 0
  | x :: r => uptoBulkEntry x + uptoBulkEntries r
def uptoBulkEntry {H : Type} : Lit × DataW H → Nat
  | (.string bytes, d) => bytes.length + uptoBulk d + 1
  | (_, d) => uptoBulk d + 1
 end
def uptoSmall : (H : Type) → List (DataW H) → Bool := fun _ ds => decide (uptoBulkAll ds ≤ 1048576)
def OpenSpec.upto (s : _root_.Go.ChangeSpec) : _root_.Go.OpenSpec := { _root_.Go.OpenSpec.ofChange s with cond := some uptoSmall }

/-- 'clepsydratop.CoreRate', WHERE WHAT IT READS IS OF BULK AT MOST 1048576: true; the input reads as it did. -/
def coreRateUptoRow : OpenClaim := { program := "ytbmhgopjblnfnaagreat", sum := "325a0eb312dc9aeee3733d858c656a4fef9dfce58d2252a62d1f7869b04d92d5", func := "clepsydra/clepsydratop.CoreRate", spec := "coreRate", unfollowed := true, recurses := true, named := ["math/bits.divideError", "math/bits.overflowError"], apart := false, narrowed := true }
def CoreRateUptoSaid : Prop := coreRateUptoRow.holds Tryz.pinned (OpenSpec.upto coreRateSpec)

/-- 'clepsydratop.CoreHoldover', WHERE WHAT IT READS IS OF BULK AT MOST 1048576: true; the input reads as it did. -/
def coreHoldoverUptoRow : OpenClaim := { program := "ytbmhgopjblnfnaagreat", sum := "325a0eb312dc9aeee3733d858c656a4fef9dfce58d2252a62d1f7869b04d92d5", func := "clepsydra/clepsydratop.CoreHoldover", spec := "coreHoldover", unfollowed := true, recurses := true, named := ["math/bits.divideError", "math/bits.overflowError"], apart := false, narrowed := true }
def CoreHoldoverUptoSaid : Prop := coreHoldoverUptoRow.holds Tryz.pinned (OpenSpec.upto coreHoldoverSpec)

/-- 'clepsydratop.CoreReturns', WHERE WHAT IT READS IS OF BULK AT MOST 1048576: true; the input reads as it did. -/
def coreReturnsUptoRow : OpenClaim := { program := "ytbmhgopjblnfnaagreat", sum := "325a0eb312dc9aeee3733d858c656a4fef9dfce58d2252a62d1f7869b04d92d5", func := "clepsydra/clepsydratop.CoreReturns", spec := "coreReturns", unfollowed := true, recurses := true, named := ["math/bits.divideError", "math/bits.overflowError"], apart := false, narrowed := true }
def CoreReturnsUptoSaid : Prop := coreReturnsUptoRow.holds Tryz.pinned (OpenSpec.upto coreReturnsSpec)

end Rows
end Go.Proofs.YtbmhgopjblnfnaaGreat
