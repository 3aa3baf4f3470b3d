/-
  No cell of these rows narrows 'for every input' (looked for: loops, veiled, ifaces, maps, wideKeys, modest, calm, conditions, laid).
  DERIVED. THE GIVEN ROWS OF THIS SEAT. 9 by the template 'for every input the law returns true; each argument reads behind the call as it read before'; 0 by the template 'total and deterministic' (their statements: YtopnmlambbimpaaTotals.lean).
  GIVEN WITH THE SEED: the statements are not yours to turn. If you find one false, say at which input.
  Laid BY PROGRAM, IN A SANDBOX (cutbox-rows.mjs): the forced cells as the released guide's own fill.sh prints them over the translation bba2a2d3cbdcbb42… (all of the seat's roots in one cut). By AI agents, Wed Nov 11 2026. No macro, syntax, notation, axiom, sorry.
-/
import Derived.Test.YtopnmlambbimpaaChecked
import GoSem.Claim
import GoSem.ClaimJoined
import GoSem.ClaimMapViews
import Derived.JoinedTies
import Derived.KernelRfl
namespace Go.Proofs.Ytopnmlambbimpaa
/- THE CELL 'sum', in the pinned program and in every row, IS THE sha256 OF THE DUMP (.gsa) THAT YtopnmlambbimpaaProg.lean LOADS. Nothing in Lean hashes anything: it is a label: what it is worth is what the hold of that sum in a sandbox is worth. -/
noncomputable def Try.pinned : Pinned := { name := "ytopnmlambbimpaa", sum := "bba2a2d3cbdcbb4233ba7758688be8e016082201bb50d8baba1030d5ea4df7af", checked := Try.checked }
namespace Rows
def none {H : Type} : Left H := { results := [], args := [] }

/-- 'clepsydralaw12.SlewSteps': WHATEVER THE INPUT: true; the input reads as it did. -/
def slewStepsSpec : ChangeSpec := { name := "slewSteps", fn := fun _ => fun
  | [d1, d2, d3, d4, d5] => { results := [.lit (.bool true)], args := [d1, d2, d3, d4, d5] }
  | _ => none }
def slewStepsRow : OpenClaim := { program := "ytopnmlambbimpaa", sum := "bba2a2d3cbdcbb4233ba7758688be8e016082201bb50d8baba1030d5ea4df7af", func := "clepsydra/clepsydralaw12.SlewSteps", spec := "slewSteps", apart := false }
def SlewStepsSaid : Prop := slewStepsRow.holds Try.pinned (OpenSpec.ofChange slewStepsSpec)

/-- ITS FALSE NEIGHBOUR: 'it returns false'. Refute it at one input. -/
def slewStepsWrong : ChangeSpec := { name := "slewSteps", fn := fun _ => fun
  | [d1, d2, d3, d4, d5] => { results := [.lit (.bool false)], args := [d1, d2, d3, d4, d5] }
  | _ => none }
def SlewStepsWrongFalsely : Prop := slewStepsRow.holds Try.pinned (OpenSpec.ofChange slewStepsWrong)

/-- 'clepsydralaw12.SlewRate': WHATEVER THE INPUT: true; the input reads as it did. -/
def slewRateSpec : ChangeSpec := { name := "slewRate", fn := fun _ => fun
  | [d1, d2, d3, d4] => { results := [.lit (.bool true)], args := [d1, d2, d3, d4] }
  | _ => none }
def slewRateRow : OpenClaim := { program := "ytopnmlambbimpaa", sum := "bba2a2d3cbdcbb4233ba7758688be8e016082201bb50d8baba1030d5ea4df7af", func := "clepsydra/clepsydralaw12.SlewRate", spec := "slewRate", apart := false }
def SlewRateSaid : Prop := slewRateRow.holds Try.pinned (OpenSpec.ofChange slewRateSpec)

/-- ITS FALSE NEIGHBOUR: 'it returns false'. Refute it at one input. -/
def slewRateWrong : ChangeSpec := { name := "slewRate", fn := fun _ => fun
  | [d1, d2, d3, d4] => { results := [.lit (.bool false)], args := [d1, d2, d3, d4] }
  | _ => none }
def SlewRateWrongFalsely : Prop := slewRateRow.holds Try.pinned (OpenSpec.ofChange slewRateWrong)

/-- 'clepsydralaw12.SlewStays': WHATEVER THE INPUT: true; the input reads as it did. -/
def slewStaysSpec : ChangeSpec := { name := "slewStays", fn := fun _ => fun
  | [d1, d2, d3, d4, d5, d6] => { results := [.lit (.bool true)], args := [d1, d2, d3, d4, d5, d6] }
  | _ => none }
def slewStaysRow : OpenClaim := { program := "ytopnmlambbimpaa", sum := "bba2a2d3cbdcbb4233ba7758688be8e016082201bb50d8baba1030d5ea4df7af", func := "clepsydra/clepsydralaw12.SlewStays", spec := "slewStays", apart := false }
def SlewStaysSaid : Prop := slewStaysRow.holds Try.pinned (OpenSpec.ofChange slewStaysSpec)

/-- ITS FALSE NEIGHBOUR: 'it returns false'. Refute it at one input. -/
def slewStaysWrong : ChangeSpec := { name := "slewStays", fn := fun _ => fun
  | [d1, d2, d3, d4, d5, d6] => { results := [.lit (.bool false)], args := [d1, d2, d3, d4, d5, d6] }
  | _ => none }
def SlewStaysWrongFalsely : Prop := slewStaysRow.holds Try.pinned (OpenSpec.ofChange slewStaysWrong)

/-- 'clepsydralaw12.SlewComes': WHATEVER THE INPUT: true; the input reads as it did. -/
def slewComesSpec : ChangeSpec := { name := "slewComes", fn := fun _ => fun
  | [d1, d2, d3] => { results := [.lit (.bool true)], args := [d1, d2, d3] }
  | _ => none }
def slewComesRow : OpenClaim := { program := "ytopnmlambbimpaa", sum := "bba2a2d3cbdcbb4233ba7758688be8e016082201bb50d8baba1030d5ea4df7af", func := "clepsydra/clepsydralaw12.SlewComes", spec := "slewComes", apart := false }
def SlewComesSaid : Prop := slewComesRow.holds Try.pinned (OpenSpec.ofChange slewComesSpec)

/-- ITS FALSE NEIGHBOUR: 'it returns false'. Refute it at one input. -/
def slewComesWrong : ChangeSpec := { name := "slewComes", fn := fun _ => fun
  | [d1, d2, d3] => { results := [.lit (.bool false)], args := [d1, d2, d3] }
  | _ => none }
def SlewComesWrongFalsely : Prop := slewComesRow.holds Try.pinned (OpenSpec.ofChange slewComesWrong)

/-- 'clepsydralaw12.SlewNears': WHATEVER THE INPUT: true; the input reads as it did. -/
def slewNearsSpec : ChangeSpec := { name := "slewNears", fn := fun _ => fun
  | [d1, d2, d3, d4, d5] => { results := [.lit (.bool true)], args := [d1, d2, d3, d4, d5] }
  | _ => none }
def slewNearsRow : OpenClaim := { program := "ytopnmlambbimpaa", sum := "bba2a2d3cbdcbb4233ba7758688be8e016082201bb50d8baba1030d5ea4df7af", func := "clepsydra/clepsydralaw12.SlewNears", spec := "slewNears", apart := false }
def SlewNearsSaid : Prop := slewNearsRow.holds Try.pinned (OpenSpec.ofChange slewNearsSpec)

/-- ITS FALSE NEIGHBOUR: 'it returns false'. Refute it at one input. -/
def slewNearsWrong : ChangeSpec := { name := "slewNears", fn := fun _ => fun
  | [d1, d2, d3, d4, d5] => { results := [.lit (.bool false)], args := [d1, d2, d3, d4, d5] }
  | _ => none }
def SlewNearsWrongFalsely : Prop := slewNearsRow.holds Try.pinned (OpenSpec.ofChange slewNearsWrong)

/-- 'clepsydralaw04.LimitClear': WHATEVER THE INPUT: true; the input reads as it did. -/
def limitClearSpec : ChangeSpec := { name := "limitClear", fn := fun _ => fun
  | [d1, d2, d3] => { results := [.lit (.bool true)], args := [d1, d2, d3] }
  | _ => none }
def limitClearRow : OpenClaim := { program := "ytopnmlambbimpaa", sum := "bba2a2d3cbdcbb4233ba7758688be8e016082201bb50d8baba1030d5ea4df7af", func := "clepsydra/clepsydralaw04.LimitClear", spec := "limitClear", named := ["math/bits.divideError", "math/bits.overflowError"], apart := false }
def LimitClearSaid : Prop := limitClearRow.holds Try.pinned (OpenSpec.ofChange limitClearSpec)

/-- ITS FALSE NEIGHBOUR: 'it returns false'. Refute it at one input. -/
def limitClearWrong : ChangeSpec := { name := "limitClear", fn := fun _ => fun
  | [d1, d2, d3] => { results := [.lit (.bool false)], args := [d1, d2, d3] }
  | _ => none }
def LimitClearWrongFalsely : Prop := limitClearRow.holds Try.pinned (OpenSpec.ofChange limitClearWrong)

/-- 'clepsydralaw04.LimitNeeds': WHATEVER THE INPUT: true; the input reads as it did. -/
def limitNeedsSpec : ChangeSpec := { name := "limitNeeds", fn := fun _ => fun
  | [d] => { results := [.lit (.bool true)], args := [d] }
  | _ => none }
def limitNeedsRow : OpenClaim := { program := "ytopnmlambbimpaa", sum := "bba2a2d3cbdcbb4233ba7758688be8e016082201bb50d8baba1030d5ea4df7af", func := "clepsydra/clepsydralaw04.LimitNeeds", spec := "limitNeeds", named := ["math/bits.divideError", "math/bits.overflowError"], apart := false }
def LimitNeedsSaid : Prop := limitNeedsRow.holds Try.pinned (OpenSpec.ofChange limitNeedsSpec)

/-- ITS FALSE NEIGHBOUR: 'it returns false'. Refute it at one input. -/
def limitNeedsWrong : ChangeSpec := { name := "limitNeeds", fn := fun _ => fun
  | [d] => { results := [.lit (.bool false)], args := [d] }
  | _ => none }
def LimitNeedsWrongFalsely : Prop := limitNeedsRow.holds Try.pinned (OpenSpec.ofChange limitNeedsWrong)

/-- 'clepsydralaw04.LimitBounds': WHATEVER THE INPUT: true; the input reads as it did. -/
def limitBoundsSpec : ChangeSpec := { name := "limitBounds", fn := fun _ => fun
  | [d1, d2, d3] => { results := [.lit (.bool true)], args := [d1, d2, d3] }
  | _ => none }
def limitBoundsRow : OpenClaim := { program := "ytopnmlambbimpaa", sum := "bba2a2d3cbdcbb4233ba7758688be8e016082201bb50d8baba1030d5ea4df7af", func := "clepsydra/clepsydralaw04.LimitBounds", spec := "limitBounds", recurses := true, named := ["math/bits.divideError", "math/bits.overflowError"], apart := false }
def LimitBoundsSaid : Prop := limitBoundsRow.holds Try.pinned (OpenSpec.ofChange limitBoundsSpec)

/-- ITS FALSE NEIGHBOUR: 'it returns false'. Refute it at one input. -/
def limitBoundsWrong : ChangeSpec := { name := "limitBounds", fn := fun _ => fun
  | [d1, d2, d3] => { results := [.lit (.bool false)], args := [d1, d2, d3] }
  | _ => none }
def LimitBoundsWrongFalsely : Prop := limitBoundsRow.holds Try.pinned (OpenSpec.ofChange limitBoundsWrong)

/-- 'clepsydralaw04.LimitRises': WHATEVER THE INPUT: true; the input reads as it did. -/
def limitRisesSpec : ChangeSpec := { name := "limitRises", fn := fun _ => fun
  | [d1, d2, d3, d4] => { results := [.lit (.bool true)], args := [d1, d2, d3, d4] }
  | _ => none }
def limitRisesRow : OpenClaim := { program := "ytopnmlambbimpaa", sum := "bba2a2d3cbdcbb4233ba7758688be8e016082201bb50d8baba1030d5ea4df7af", func := "clepsydra/clepsydralaw04.LimitRises", spec := "limitRises", named := ["math/bits.divideError", "math/bits.overflowError"], apart := false }
def LimitRisesSaid : Prop := limitRisesRow.holds Try.pinned (OpenSpec.ofChange limitRisesSpec)

/-- ITS FALSE NEIGHBOUR: 'it returns false'. Refute it at one input. -/
def limitRisesWrong : ChangeSpec := { name := "limitRises", fn := fun _ => fun
  | [d1, d2, d3, d4] => { results := [.lit (.bool false)], args := [d1, d2, d3, d4] }
  | _ => none }
def LimitRisesWrongFalsely : Prop := limitRisesRow.holds Try.pinned (OpenSpec.ofChange limitRisesWrong)

/- THE SECOND FORM. 'bulk': how many values and letters a reading holds, each counted each time it is reached (what is shared counts as often as it is met; a slice's spare places count too). A statement '..UptoSaid' is the law's where the arguments, and the package variables that the reading takes, are together of bulk at most 1048576: NARROWER than '..Said'. Prove '..Said' where nothing that the law and all that it calls make is longer than what came in: it says more and counts as full. Else prove '..UptoSaid'. A law counts once. -/
mutual
def uptoBulk {H : Type} : DataW H → Nat
  | .lit (.string bytes) => bytes.length + 1
  | .lit _ => 1
  | .nil => 1
  | .ptr d => uptoBulk d + 1
  | .slice elems spare => uptoBulkAll elems + uptoBulkAll spare + 1
  | .agg parts => uptoBulkAll parts + 1
  | .iface _ d => uptoBulk d + 1
  | .map entries => uptoBulkEntries entries + 1
  | .held _ => 1
def uptoBulkAll {H : Type} : List (DataW H) → Nat
  | [] => 0
  | d :: r => uptoBulk d + uptoBulkAll r
def uptoBulkEntries {H : Type} : List (Lit × DataW H) → Nat
  | [] => 0
  | x :: r => uptoBulkEntry x + uptoBulkEntries r
def uptoBulkEntry {H : Type} : Lit × DataW H → Nat
  | (.string bytes, d) => bytes.length + uptoBulk d + 1
  | (_, d) => uptoBulk d + 1
 end
def uptoSmall : (H : Type) → List (DataW H) → Bool := fun _ ds => decide (uptoBulkAll ds ≤ 1048576)
def OpenSpec.upto (s : _root_.Go.ChangeSpec) : _root_.Go.OpenSpec := { _root_.Go.OpenSpec.ofChange s with cond := some uptoSmall }

/-- 'clepsydralaw12.SlewSteps', WHERE WHAT IT READS IS OF BULK AT MOST 1048576: true; the input reads as it did. -/
def slewStepsUptoRow : OpenClaim := { program := "ytopnmlambbimpaa", sum := "bba2a2d3cbdcbb4233ba7758688be8e016082201bb50d8baba1030d5ea4df7af", func := "clepsydra/clepsydralaw12.SlewSteps", spec := "slewSteps", apart := false, narrowed := true }
def SlewStepsUptoSaid : Prop := slewStepsUptoRow.holds Try.pinned (OpenSpec.upto slewStepsSpec)

/-- 'clepsydralaw12.SlewRate', WHERE WHAT IT READS IS OF BULK AT MOST 1048576: true; the input reads as it did. -/
def slewRateUptoRow : OpenClaim := { program := "ytopnmlambbimpaa", sum := "bba2a2d3cbdcbb4233ba7758688be8e016082201bb50d8baba1030d5ea4df7af", func := "clepsydra/clepsydralaw12.SlewRate", spec := "slewRate", apart := false, narrowed := true }
def SlewRateUptoSaid : Prop := slewRateUptoRow.holds Try.pinned (OpenSpec.upto slewRateSpec)

/-- 'clepsydralaw12.SlewStays', WHERE WHAT IT READS IS OF BULK AT MOST 1048576: true; the input reads as it did. -/
def slewStaysUptoRow : OpenClaim := { program := "ytopnmlambbimpaa", sum := "bba2a2d3cbdcbb4233ba7758688be8e016082201bb50d8baba1030d5ea4df7af", func := "clepsydra/clepsydralaw12.SlewStays", spec := "slewStays", apart := false, narrowed := true }
def SlewStaysUptoSaid : Prop := slewStaysUptoRow.holds Try.pinned (OpenSpec.upto slewStaysSpec)

/-- 'clepsydralaw12.SlewComes', WHERE WHAT IT READS IS OF BULK AT MOST 1048576: true; the input reads as it did. -/
def slewComesUptoRow : OpenClaim := { program := "ytopnmlambbimpaa", sum := "bba2a2d3cbdcbb4233ba7758688be8e016082201bb50d8baba1030d5ea4df7af", func := "clepsydra/clepsydralaw12.SlewComes", spec := "slewComes", apart := false, narrowed := true }
def SlewComesUptoSaid : Prop := slewComesUptoRow.holds Try.pinned (OpenSpec.upto slewComesSpec)

/-- 'clepsydralaw12.SlewNears', WHERE WHAT IT READS IS OF BULK AT MOST 1048576: true; the input reads as it did. -/
def slewNearsUptoRow : OpenClaim := { program := "ytopnmlambbimpaa", sum := "bba2a2d3cbdcbb4233ba7758688be8e016082201bb50d8baba1030d5ea4df7af", func := "clepsydra/clepsydralaw12.SlewNears", spec := "slewNears", apart := false, narrowed := true }
def SlewNearsUptoSaid : Prop := slewNearsUptoRow.holds Try.pinned (OpenSpec.upto slewNearsSpec)

/-- 'clepsydralaw04.LimitClear', WHERE WHAT IT READS IS OF BULK AT MOST 1048576: true; the input reads as it did. -/
def limitClearUptoRow : OpenClaim := { program := "ytopnmlambbimpaa", sum := "bba2a2d3cbdcbb4233ba7758688be8e016082201bb50d8baba1030d5ea4df7af", func := "clepsydra/clepsydralaw04.LimitClear", spec := "limitClear", named := ["math/bits.divideError", "math/bits.overflowError"], apart := false, narrowed := true }
def LimitClearUptoSaid : Prop := limitClearUptoRow.holds Try.pinned (OpenSpec.upto limitClearSpec)

/-- 'clepsydralaw04.LimitNeeds', WHERE WHAT IT READS IS OF BULK AT MOST 1048576: true; the input reads as it did. -/
def limitNeedsUptoRow : OpenClaim := { program := "ytopnmlambbimpaa", sum := "bba2a2d3cbdcbb4233ba7758688be8e016082201bb50d8baba1030d5ea4df7af", func := "clepsydra/clepsydralaw04.LimitNeeds", spec := "limitNeeds", named := ["math/bits.divideError", "math/bits.overflowError"], apart := false, narrowed := true }
def LimitNeedsUptoSaid : Prop := limitNeedsUptoRow.holds Try.pinned (OpenSpec.upto limitNeedsSpec)

/-- 'clepsydralaw04.LimitBounds', WHERE WHAT IT READS IS OF BULK AT MOST 1048576: true; the input reads as it did. -/
def limitBoundsUptoRow : OpenClaim := { program := "ytopnmlambbimpaa", sum := "bba2a2d3cbdcbb4233ba7758688be8e016082201bb50d8baba1030d5ea4df7af", func := "clepsydra/clepsydralaw04.LimitBounds", spec := "limitBounds", recurses := true, named := ["math/bits.divideError", "math/bits.overflowError"], apart := false, narrowed := true }
def LimitBoundsUptoSaid : Prop := limitBoundsUptoRow.holds Try.pinned (OpenSpec.upto limitBoundsSpec)

/-- 'clepsydralaw04.LimitRises', WHERE WHAT IT READS IS OF BULK AT MOST 1048576: true; the input reads as it did. -/
def limitRisesUptoRow : OpenClaim := { program := "ytopnmlambbimpaa", sum := "bba2a2d3cbdcbb4233ba7758688be8e016082201bb50d8baba1030d5ea4df7af", func := "clepsydra/clepsydralaw04.LimitRises", spec := "limitRises", named := ["math/bits.divideError", "math/bits.overflowError"], apart := false, narrowed := true }
def LimitRisesUptoSaid : Prop := limitRisesUptoRow.holds Try.pinned (OpenSpec.upto limitRisesSpec)

end Rows
end Go.Proofs.Ytopnmlambbimpaa
