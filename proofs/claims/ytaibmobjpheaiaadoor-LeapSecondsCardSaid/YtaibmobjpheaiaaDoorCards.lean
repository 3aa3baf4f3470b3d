/-
  DERIVED. GIVEN WITH THE SEED: THE CARDS: each row of YtaibmobjpheaiaaDoorRows.lean that lists a variable, with what it lists TIED to the program's text (the seventh form; the later family's looks); each row that meets fmt, with fmt's text TOLD by the authors' own Lean function (tested against real Go, not proved from fmt's source: count such statements apart). THE CARD IS WHAT COUNTS. Prove the row's statement (the work); the ties are given (YtaibmobjpheaiaaDoorTie.lean); close each card by the builder's one call (the guide's Derived/Test/ToyasCard.lean, 'card_holds'). Laid BY PROGRAM, IN A SANDBOX (cutbox-door.mjs). By AI agents, Wed Nov 11 2026. No macro, syntax, notation, axiom, sorry.
-/
import Derived.Test.YtaibmobjpheaiaaDoorRows
import GoSem.ClaimSeven
namespace Go.Proofs.YtaibmobjpheaiaaDoor
namespace Rows

/-- THE TIED CARD OF 'clepsydralaw18.LeapLabels'. -/
def leapLabelsCard : Claim7 := { stood := { row := leapLabelsRow, standIns := [], harness := (true, "b1fef26947b85616d421b3f8bef89c86ed534b70c92782854733bc24114b3115"), looks := false }, kinds := [], alts := [], laidByText := true, laidKinds := [.data], laidTests := true, laidLooks := .later }
def LeapLabelsCardSaid : Prop := Claim7.holds Tryd.pinned (.plain (OpenSpec.ofChange leapLabelsSpec)) leapLabelsCard

/-- THE TIED CARD OF 'clepsydralaw18.LeapCounts'. -/
def leapCountsCard : Claim7 := { stood := { row := leapCountsRow, standIns := [], harness := (true, "b1fef26947b85616d421b3f8bef89c86ed534b70c92782854733bc24114b3115"), looks := false }, kinds := [], alts := [], laidByText := true, laidKinds := [.data], laidTests := true, laidLooks := .later }
def LeapCountsCardSaid : Prop := Claim7.holds Tryd.pinned (.plain (OpenSpec.ofChange leapCountsSpec)) leapCountsCard

/-- THE TIED CARD OF 'clepsydralaw18.LeapBack'. -/
def leapBackCard : Claim7 := { stood := { row := leapBackRow, standIns := [], harness := (true, "b1fef26947b85616d421b3f8bef89c86ed534b70c92782854733bc24114b3115"), looks := false }, kinds := [], alts := [], laidByText := true, laidKinds := [.data], laidTests := true, laidLooks := .later }
def LeapBackCardSaid : Prop := Claim7.holds Tryd.pinned (.plain (OpenSpec.ofChange leapBackSpec)) leapBackCard

/-- THE TIED CARD OF 'clepsydralaw18.LeapRises'. -/
def leapRisesCard : Claim7 := { stood := { row := leapRisesRow, standIns := [], harness := (true, "b1fef26947b85616d421b3f8bef89c86ed534b70c92782854733bc24114b3115"), looks := false }, kinds := [], alts := [], laidByText := true, laidKinds := [.data], laidTests := true, laidLooks := .later }
def LeapRisesCardSaid : Prop := Claim7.holds Tryd.pinned (.plain (OpenSpec.ofChange leapRisesSpec)) leapRisesCard

/-- THE TIED CARD OF 'clepsydralaw18.LeapSeconds'. -/
def leapSecondsCard : Claim7 := { stood := { row := leapSecondsRow, standIns := [], harness := (true, "b1fef26947b85616d421b3f8bef89c86ed534b70c92782854733bc24114b3115"), looks := false }, kinds := [], alts := [], laidByText := true, laidKinds := [.data], laidTests := true, laidLooks := .later }
def LeapSecondsCardSaid : Prop := Claim7.holds Tryd.pinned (.plain (OpenSpec.ofChange leapSecondsSpec)) leapSecondsCard

/-- THE TIED CARD OF 'clepsydralaw18.LeapGrows'. -/
def leapGrowsCard : Claim7 := { stood := { row := leapGrowsRow, standIns := [], harness := (true, "b1fef26947b85616d421b3f8bef89c86ed534b70c92782854733bc24114b3115"), looks := false }, kinds := [], alts := [], laidByText := true, laidKinds := [.data], laidTests := true, laidLooks := .later }
def LeapGrowsCardSaid : Prop := Claim7.holds Tryd.pinned (.plain (OpenSpec.ofChange leapGrowsSpec)) leapGrowsCard

/-- THE TIED CARD OF 'clepsydralaw18.LeapNexts'. -/
def leapNextsCard : Claim7 := { stood := { row := leapNextsRow, standIns := [], harness := (true, "b1fef26947b85616d421b3f8bef89c86ed534b70c92782854733bc24114b3115"), looks := false }, kinds := [], alts := [], laidByText := true, laidKinds := [.data], laidTests := true, laidLooks := .later }
def LeapNextsCardSaid : Prop := Claim7.holds Tryd.pinned (.plain (OpenSpec.ofChange leapNextsSpec)) leapNextsCard

/-- THE SECOND FORM's CARD OF 'clepsydralaw18.LeapLabels'. -/
def leapLabelsUptoCard : Claim7 := { stood := { row := leapLabelsUptoRow, standIns := [], harness := (true, "b1fef26947b85616d421b3f8bef89c86ed534b70c92782854733bc24114b3115"), looks := false }, kinds := [], alts := [], laidByText := true, laidKinds := [.data], laidTests := true, laidLooks := .later }
def LeapLabelsUptoCardSaid : Prop := Claim7.holds Tryd.pinned (.plain (OpenSpec.upto leapLabelsSpec)) leapLabelsUptoCard

/-- THE SECOND FORM's CARD OF 'clepsydralaw18.LeapCounts'. -/
def leapCountsUptoCard : Claim7 := { stood := { row := leapCountsUptoRow, standIns := [], harness := (true, "b1fef26947b85616d421b3f8bef89c86ed534b70c92782854733bc24114b3115"), looks := false }, kinds := [], alts := [], laidByText := true, laidKinds := [.data], laidTests := true, laidLooks := .later }
def LeapCountsUptoCardSaid : Prop := Claim7.holds Tryd.pinned (.plain (OpenSpec.upto leapCountsSpec)) leapCountsUptoCard

/-- THE SECOND FORM's CARD OF 'clepsydralaw18.LeapBack'. -/
def leapBackUptoCard : Claim7 := { stood := { row := leapBackUptoRow, standIns := [], harness := (true, "b1fef26947b85616d421b3f8bef89c86ed534b70c92782854733bc24114b3115"), looks := false }, kinds := [], alts := [], laidByText := true, laidKinds := [.data], laidTests := true, laidLooks := .later }
def LeapBackUptoCardSaid : Prop := Claim7.holds Tryd.pinned (.plain (OpenSpec.upto leapBackSpec)) leapBackUptoCard

/-- THE SECOND FORM's CARD OF 'clepsydralaw18.LeapRises'. -/
def leapRisesUptoCard : Claim7 := { stood := { row := leapRisesUptoRow, standIns := [], harness := (true, "b1fef26947b85616d421b3f8bef89c86ed534b70c92782854733bc24114b3115"), looks := false }, kinds := [], alts := [], laidByText := true, laidKinds := [.data], laidTests := true, laidLooks := .later }
def LeapRisesUptoCardSaid : Prop := Claim7.holds Tryd.pinned (.plain (OpenSpec.upto leapRisesSpec)) leapRisesUptoCard

/-- THE SECOND FORM's CARD OF 'clepsydralaw18.LeapSeconds'. -/
def leapSecondsUptoCard : Claim7 := { stood := { row := leapSecondsUptoRow, standIns := [], harness := (true, "b1fef26947b85616d421b3f8bef89c86ed534b70c92782854733bc24114b3115"), looks := false }, kinds := [], alts := [], laidByText := true, laidKinds := [.data], laidTests := true, laidLooks := .later }
def LeapSecondsUptoCardSaid : Prop := Claim7.holds Tryd.pinned (.plain (OpenSpec.upto leapSecondsSpec)) leapSecondsUptoCard

/-- THE SECOND FORM's CARD OF 'clepsydralaw18.LeapGrows'. -/
def leapGrowsUptoCard : Claim7 := { stood := { row := leapGrowsUptoRow, standIns := [], harness := (true, "b1fef26947b85616d421b3f8bef89c86ed534b70c92782854733bc24114b3115"), looks := false }, kinds := [], alts := [], laidByText := true, laidKinds := [.data], laidTests := true, laidLooks := .later }
def LeapGrowsUptoCardSaid : Prop := Claim7.holds Tryd.pinned (.plain (OpenSpec.upto leapGrowsSpec)) leapGrowsUptoCard

/-- THE SECOND FORM's CARD OF 'clepsydralaw18.LeapNexts'. -/
def leapNextsUptoCard : Claim7 := { stood := { row := leapNextsUptoRow, standIns := [], harness := (true, "b1fef26947b85616d421b3f8bef89c86ed534b70c92782854733bc24114b3115"), looks := false }, kinds := [], alts := [], laidByText := true, laidKinds := [.data], laidTests := true, laidLooks := .later }
def LeapNextsUptoCardSaid : Prop := Claim7.holds Tryd.pinned (.plain (OpenSpec.upto leapNextsSpec)) leapNextsUptoCard
end Rows
end Go.Proofs.YtaibmobjpheaiaaDoor
