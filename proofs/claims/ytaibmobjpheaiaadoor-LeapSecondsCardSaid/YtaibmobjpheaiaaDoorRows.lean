/-
  NARROWER THAN 'FOR EVERY INPUT', by the rows' own cells (each row's printed sentence says how): LeapLabels: laid · LeapCounts: laid · LeapBack: laid · LeapRises: laid · LeapSeconds: laid · LeapGrows: laid · LeapNexts: laid.
  DERIVED. THE GIVEN ROWS OF THIS SEAT. 7 by the template 'for every input the law returns true; each argument reads behind the call as it read before'; 0 by the template 'total and deterministic' (their statements: YtaibmobjpheaiaaDoorTotals.lean).
  GIVEN WITH THE SEED: the statements are not yours to turn. If you find one false, say at which input.
  Laid BY PROGRAM, IN A SANDBOX (cutbox-rows.mjs): the forced cells as the released guide's own fill.sh prints them over the translation 2e8807ae372f6bd1… (all of the seat's roots in one cut). By AI agents, Wed Nov 11 2026. No macro, syntax, notation, axiom, sorry.
-/
import Derived.Test.YtaibmobjpheaiaaDoorChecked
import GoSem.Claim
import GoSem.ClaimJoined
import GoSem.ClaimMapViews
import Derived.JoinedTies
import Derived.KernelRfl
namespace Go.Proofs.YtaibmobjpheaiaaDoor
/- THE CELL 'sum', in the pinned program and in every row, IS THE sha256 OF THE DUMP (.gsa) THAT YtaibmobjpheaiaaDoorProg.lean LOADS. Nothing in Lean hashes anything: it is a label: what it is worth is what the hold of that sum in a sandbox is worth. -/
noncomputable def Tryd.pinned : Pinned := { name := "ytaibmobjpheaiaadoor", sum := "2e8807ae372f6bd18265ad61175fbede906e6eb53b615ec7f5469fd4d3657f14", checked := Tryd.checked }
namespace Rows
def none {H : Type} : Left H := { results := [], args := [] }

/- WHAT THE LISTED PACKAGE-LEVEL VARIABLES READ AS WHEN THE CALL BEGINS. Each datum BY PROGRAM (the guide's laid-datum.mjs) off the statement by which the dump's own 'gosem.cut.vars' lays the variable. In a bare row this is a premise. The card (YtaibmobjpheaiaaDoorCards.lean) ties it to the program's text. -/
def laid_clepsydra_civil_months {H : Type} : DataW H := .agg [.lit (.int .i64 0), .lit (.int .i64 31), .lit (.int .i64 59), .lit (.int .i64 90), .lit (.int .i64 120), .lit (.int .i64 151), .lit (.int .i64 181), .lit (.int .i64 212), .lit (.int .i64 243), .lit (.int .i64 273), .lit (.int .i64 304), .lit (.int .i64 334), .lit (.int .i64 365)]

/-- 'clepsydralaw18.LeapLabels': WHATEVER THE INPUT: true; the input reads as it did. -/
def leapLabelsSpec : ChangeSpec := { name := "leapLabels", fn := fun _ => fun
  | [d1, d2] => { results := [.lit (.bool true)], args := [d1, d2] }
  | _ => none }
def leapLabelsRow : OpenClaim := { program := "ytaibmobjpheaiaadoor", sum := "2e8807ae372f6bd18265ad61175fbede906e6eb53b615ec7f5469fd4d3657f14", func := "clepsydra/clepsydralaw18.LeapLabels", spec := "leapLabels", unfollowed := true, recurses := true, named := ["clepsydra/civil.months"], apart := false, laid := [("clepsydra/civil.months", laid_clepsydra_civil_months)] }
def LeapLabelsSaid : Prop := leapLabelsRow.holds Tryd.pinned (OpenSpec.ofChange leapLabelsSpec)

/-- ITS FALSE NEIGHBOUR: 'it returns false'. Refute it at one input. -/
def leapLabelsWrong : ChangeSpec := { name := "leapLabels", fn := fun _ => fun
  | [d1, d2] => { results := [.lit (.bool false)], args := [d1, d2] }
  | _ => none }
def LeapLabelsWrongFalsely : Prop := leapLabelsRow.holds Tryd.pinned (OpenSpec.ofChange leapLabelsWrong)

/-- 'clepsydralaw18.LeapCounts': WHATEVER THE INPUT: true; the input reads as it did. -/
def leapCountsSpec : ChangeSpec := { name := "leapCounts", fn := fun _ => fun
  | [d1, d2] => { results := [.lit (.bool true)], args := [d1, d2] }
  | _ => none }
def leapCountsRow : OpenClaim := { program := "ytaibmobjpheaiaadoor", sum := "2e8807ae372f6bd18265ad61175fbede906e6eb53b615ec7f5469fd4d3657f14", func := "clepsydra/clepsydralaw18.LeapCounts", spec := "leapCounts", unfollowed := true, recurses := true, named := ["clepsydra/civil.months"], apart := false, laid := [("clepsydra/civil.months", laid_clepsydra_civil_months)] }
def LeapCountsSaid : Prop := leapCountsRow.holds Tryd.pinned (OpenSpec.ofChange leapCountsSpec)

/-- ITS FALSE NEIGHBOUR: 'it returns false'. Refute it at one input. -/
def leapCountsWrong : ChangeSpec := { name := "leapCounts", fn := fun _ => fun
  | [d1, d2] => { results := [.lit (.bool false)], args := [d1, d2] }
  | _ => none }
def LeapCountsWrongFalsely : Prop := leapCountsRow.holds Tryd.pinned (OpenSpec.ofChange leapCountsWrong)

/-- 'clepsydralaw18.LeapBack': WHATEVER THE INPUT: true; the input reads as it did. -/
def leapBackSpec : ChangeSpec := { name := "leapBack", fn := fun _ => fun
  | [d1, d2] => { results := [.lit (.bool true)], args := [d1, d2] }
  | _ => none }
def leapBackRow : OpenClaim := { program := "ytaibmobjpheaiaadoor", sum := "2e8807ae372f6bd18265ad61175fbede906e6eb53b615ec7f5469fd4d3657f14", func := "clepsydra/clepsydralaw18.LeapBack", spec := "leapBack", unfollowed := true, recurses := true, named := ["clepsydra/civil.months"], apart := false, laid := [("clepsydra/civil.months", laid_clepsydra_civil_months)] }
def LeapBackSaid : Prop := leapBackRow.holds Tryd.pinned (OpenSpec.ofChange leapBackSpec)

/-- ITS FALSE NEIGHBOUR: 'it returns false'. Refute it at one input. -/
def leapBackWrong : ChangeSpec := { name := "leapBack", fn := fun _ => fun
  | [d1, d2] => { results := [.lit (.bool false)], args := [d1, d2] }
  | _ => none }
def LeapBackWrongFalsely : Prop := leapBackRow.holds Tryd.pinned (OpenSpec.ofChange leapBackWrong)

/-- 'clepsydralaw18.LeapRises': WHATEVER THE INPUT: true; the input reads as it did. -/
def leapRisesSpec : ChangeSpec := { name := "leapRises", fn := fun _ => fun
  | [d1, d2, d3] => { results := [.lit (.bool true)], args := [d1, d2, d3] }
  | _ => none }
def leapRisesRow : OpenClaim := { program := "ytaibmobjpheaiaadoor", sum := "2e8807ae372f6bd18265ad61175fbede906e6eb53b615ec7f5469fd4d3657f14", func := "clepsydra/clepsydralaw18.LeapRises", spec := "leapRises", unfollowed := true, recurses := true, named := ["clepsydra/civil.months"], apart := false, laid := [("clepsydra/civil.months", laid_clepsydra_civil_months)] }
def LeapRisesSaid : Prop := leapRisesRow.holds Tryd.pinned (OpenSpec.ofChange leapRisesSpec)

/-- ITS FALSE NEIGHBOUR: 'it returns false'. Refute it at one input. -/
def leapRisesWrong : ChangeSpec := { name := "leapRises", fn := fun _ => fun
  | [d1, d2, d3] => { results := [.lit (.bool false)], args := [d1, d2, d3] }
  | _ => none }
def LeapRisesWrongFalsely : Prop := leapRisesRow.holds Tryd.pinned (OpenSpec.ofChange leapRisesWrong)

/-- 'clepsydralaw18.LeapSeconds': WHATEVER THE INPUT: true; the input reads as it did. -/
def leapSecondsSpec : ChangeSpec := { name := "leapSeconds", fn := fun _ => fun
  | [d1, d2] => { results := [.lit (.bool true)], args := [d1, d2] }
  | _ => none }
def leapSecondsRow : OpenClaim := { program := "ytaibmobjpheaiaadoor", sum := "2e8807ae372f6bd18265ad61175fbede906e6eb53b615ec7f5469fd4d3657f14", func := "clepsydra/clepsydralaw18.LeapSeconds", spec := "leapSeconds", unfollowed := true, recurses := true, named := ["clepsydra/civil.months"], apart := false, laid := [("clepsydra/civil.months", laid_clepsydra_civil_months)] }
def LeapSecondsSaid : Prop := leapSecondsRow.holds Tryd.pinned (OpenSpec.ofChange leapSecondsSpec)

/-- ITS FALSE NEIGHBOUR: 'it returns false'. Refute it at one input. -/
def leapSecondsWrong : ChangeSpec := { name := "leapSeconds", fn := fun _ => fun
  | [d1, d2] => { results := [.lit (.bool false)], args := [d1, d2] }
  | _ => none }
def LeapSecondsWrongFalsely : Prop := leapSecondsRow.holds Tryd.pinned (OpenSpec.ofChange leapSecondsWrong)

/-- 'clepsydralaw18.LeapGrows': WHATEVER THE INPUT: true; the input reads as it did. -/
def leapGrowsSpec : ChangeSpec := { name := "leapGrows", fn := fun _ => fun
  | [d1, d2, d3] => { results := [.lit (.bool true)], args := [d1, d2, d3] }
  | _ => none }
def leapGrowsRow : OpenClaim := { program := "ytaibmobjpheaiaadoor", sum := "2e8807ae372f6bd18265ad61175fbede906e6eb53b615ec7f5469fd4d3657f14", func := "clepsydra/clepsydralaw18.LeapGrows", spec := "leapGrows", unfollowed := true, recurses := true, named := ["clepsydra/civil.months"], apart := false, laid := [("clepsydra/civil.months", laid_clepsydra_civil_months)] }
def LeapGrowsSaid : Prop := leapGrowsRow.holds Tryd.pinned (OpenSpec.ofChange leapGrowsSpec)

/-- ITS FALSE NEIGHBOUR: 'it returns false'. Refute it at one input. -/
def leapGrowsWrong : ChangeSpec := { name := "leapGrows", fn := fun _ => fun
  | [d1, d2, d3] => { results := [.lit (.bool false)], args := [d1, d2, d3] }
  | _ => none }
def LeapGrowsWrongFalsely : Prop := leapGrowsRow.holds Tryd.pinned (OpenSpec.ofChange leapGrowsWrong)

/-- 'clepsydralaw18.LeapNexts': WHATEVER THE INPUT: true; the input reads as it did. -/
def leapNextsSpec : ChangeSpec := { name := "leapNexts", fn := fun _ => fun
  | [d1, d2] => { results := [.lit (.bool true)], args := [d1, d2] }
  | _ => none }
def leapNextsRow : OpenClaim := { program := "ytaibmobjpheaiaadoor", sum := "2e8807ae372f6bd18265ad61175fbede906e6eb53b615ec7f5469fd4d3657f14", func := "clepsydra/clepsydralaw18.LeapNexts", spec := "leapNexts", unfollowed := true, recurses := true, named := ["clepsydra/civil.months"], apart := false, laid := [("clepsydra/civil.months", laid_clepsydra_civil_months)] }
def LeapNextsSaid : Prop := leapNextsRow.holds Tryd.pinned (OpenSpec.ofChange leapNextsSpec)

/-- ITS FALSE NEIGHBOUR: 'it returns false'. Refute it at one input. -/
def leapNextsWrong : ChangeSpec := { name := "leapNexts", fn := fun _ => fun
  | [d1, d2] => { results := [.lit (.bool false)], args := [d1, d2] }
  | _ => none }
def LeapNextsWrongFalsely : Prop := leapNextsRow.holds Tryd.pinned (OpenSpec.ofChange leapNextsWrong)

/- THE SECOND FORM. 'bulk': how many values and letters a reading holds, each counted each time it is reached (what is shared counts as often as it is met; a slice's spare places count too). A statement '..UptoSaid' is the law's where the arguments, and the package variables that the reading takes, are together of bulk at most 1048576: NARROWER than '..Said'. Prove '..Said' where nothing that the law and all that it calls make is longer than what came in: it says more and counts as full. Else prove '..UptoSaid'. A law counts once. -/
mutual
def uptoBulk {H : Type} : DataW H → Nat
  | .lit (.string bytes) => bytes.length + 1
  | .lit _ => 1
  | .nil => 1
  | .ptr d => uptoBulk d + 1
  | .slice elems spare => uptoBulkAll elems + uptoBulkAll spare + 1
  | .agg parts => uptoBulkAll parts + 1
  | .iface _ d => uptoBulk d + 1
  | .map entries => uptoBulkEntries entries + 1
  | .held _ => 1
def uptoBulkAll {H : Type} : List (DataW H) → Nat
  | [] => 0
  | d :: r => uptoBulk d + uptoBulkAll r
def uptoBulkEntries {H : Type} : List (Lit × DataW H) → Nat
  | [] => 0
  | x :: r => uptoBulkEntry x + uptoBulkEntries r
def uptoBulkEntry {H : Type} : Lit × DataW H → Nat
  | (.string bytes, d) => bytes.length + uptoBulk d + 1
  | (_, d) => uptoBulk d + 1
 end
def uptoSmall : (H : Type) → List (DataW H) → Bool := fun _ ds => decide (uptoBulkAll ds ≤ 1048576)
def OpenSpec.upto (s : _root_.Go.ChangeSpec) : _root_.Go.OpenSpec := { _root_.Go.OpenSpec.ofChange s with cond := some uptoSmall }

/-- 'clepsydralaw18.LeapLabels', WHERE WHAT IT READS IS OF BULK AT MOST 1048576: true; the input reads as it did. -/
def leapLabelsUptoRow : OpenClaim := { program := "ytaibmobjpheaiaadoor", sum := "2e8807ae372f6bd18265ad61175fbede906e6eb53b615ec7f5469fd4d3657f14", func := "clepsydra/clepsydralaw18.LeapLabels", spec := "leapLabels", unfollowed := true, recurses := true, named := ["clepsydra/civil.months"], apart := false, laid := [("clepsydra/civil.months", laid_clepsydra_civil_months)], narrowed := true }
def LeapLabelsUptoSaid : Prop := leapLabelsUptoRow.holds Tryd.pinned (OpenSpec.upto leapLabelsSpec)

/-- 'clepsydralaw18.LeapCounts', WHERE WHAT IT READS IS OF BULK AT MOST 1048576: true; the input reads as it did. -/
def leapCountsUptoRow : OpenClaim := { program := "ytaibmobjpheaiaadoor", sum := "2e8807ae372f6bd18265ad61175fbede906e6eb53b615ec7f5469fd4d3657f14", func := "clepsydra/clepsydralaw18.LeapCounts", spec := "leapCounts", unfollowed := true, recurses := true, named := ["clepsydra/civil.months"], apart := false, laid := [("clepsydra/civil.months", laid_clepsydra_civil_months)], narrowed := true }
def LeapCountsUptoSaid : Prop := leapCountsUptoRow.holds Tryd.pinned (OpenSpec.upto leapCountsSpec)

/-- 'clepsydralaw18.LeapBack', WHERE WHAT IT READS IS OF BULK AT MOST 1048576: true; the input reads as it did. -/
def leapBackUptoRow : OpenClaim := { program := "ytaibmobjpheaiaadoor", sum := "2e8807ae372f6bd18265ad61175fbede906e6eb53b615ec7f5469fd4d3657f14", func := "clepsydra/clepsydralaw18.LeapBack", spec := "leapBack", unfollowed := true, recurses := true, named := ["clepsydra/civil.months"], apart := false, laid := [("clepsydra/civil.months", laid_clepsydra_civil_months)], narrowed := true }
def LeapBackUptoSaid : Prop := leapBackUptoRow.holds Tryd.pinned (OpenSpec.upto leapBackSpec)

/-- 'clepsydralaw18.LeapRises', WHERE WHAT IT READS IS OF BULK AT MOST 1048576: true; the input reads as it did. -/
def leapRisesUptoRow : OpenClaim := { program := "ytaibmobjpheaiaadoor", sum := "2e8807ae372f6bd18265ad61175fbede906e6eb53b615ec7f5469fd4d3657f14", func := "clepsydra/clepsydralaw18.LeapRises", spec := "leapRises", unfollowed := true, recurses := true, named := ["clepsydra/civil.months"], apart := false, laid := [("clepsydra/civil.months", laid_clepsydra_civil_months)], narrowed := true }
def LeapRisesUptoSaid : Prop := leapRisesUptoRow.holds Tryd.pinned (OpenSpec.upto leapRisesSpec)

/-- 'clepsydralaw18.LeapSeconds', WHERE WHAT IT READS IS OF BULK AT MOST 1048576: true; the input reads as it did. -/
def leapSecondsUptoRow : OpenClaim := { program := "ytaibmobjpheaiaadoor", sum := "2e8807ae372f6bd18265ad61175fbede906e6eb53b615ec7f5469fd4d3657f14", func := "clepsydra/clepsydralaw18.LeapSeconds", spec := "leapSeconds", unfollowed := true, recurses := true, named := ["clepsydra/civil.months"], apart := false, laid := [("clepsydra/civil.months", laid_clepsydra_civil_months)], narrowed := true }
def LeapSecondsUptoSaid : Prop := leapSecondsUptoRow.holds Tryd.pinned (OpenSpec.upto leapSecondsSpec)

/-- 'clepsydralaw18.LeapGrows', WHERE WHAT IT READS IS OF BULK AT MOST 1048576: true; the input reads as it did. -/
def leapGrowsUptoRow : OpenClaim := { program := "ytaibmobjpheaiaadoor", sum := "2e8807ae372f6bd18265ad61175fbede906e6eb53b615ec7f5469fd4d3657f14", func := "clepsydra/clepsydralaw18.LeapGrows", spec := "leapGrows", unfollowed := true, recurses := true, named := ["clepsydra/civil.months"], apart := false, laid := [("clepsydra/civil.months", laid_clepsydra_civil_months)], narrowed := true }
def LeapGrowsUptoSaid : Prop := leapGrowsUptoRow.holds Tryd.pinned (OpenSpec.upto leapGrowsSpec)

/-- 'clepsydralaw18.LeapNexts', WHERE WHAT IT READS IS OF BULK AT MOST 1048576: true; the input reads as it did. -/
def leapNextsUptoRow : OpenClaim := { program := "ytaibmobjpheaiaadoor", sum := "2e8807ae372f6bd18265ad61175fbede906e6eb53b615ec7f5469fd4d3657f14", func := "clepsydra/clepsydralaw18.LeapNexts", spec := "leapNexts", unfollowed := true, recurses := true, named := ["clepsydra/civil.months"], apart := false, laid := [("clepsydra/civil.months", laid_clepsydra_civil_months)], narrowed := true }
def LeapNextsUptoSaid : Prop := leapNextsUptoRow.holds Tryd.pinned (OpenSpec.upto leapNextsSpec)

end Rows
end Go.Proofs.YtaibmobjpheaiaaDoor
