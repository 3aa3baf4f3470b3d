/-
  DERIVED. GIVEN WITH THE SEED: THE CARDS: each row of YtidoeplhgckmaaaDoorRows.lean that lists a variable, with what it lists TIED to the program's text (the seventh form; the later family's looks); each row that meets fmt, with fmt's text TOLD by the authors' own Lean function (tested against real Go, not proved from fmt's source: count such statements apart). THE CARD IS WHAT COUNTS. Prove the row's statement (the work); the ties are given (YtidoeplhgckmaaaDoorTie.lean); close each card by the builder's one call (the guide's Derived/Test/ToyasCard.lean, 'card_holds'). Laid BY PROGRAM, IN A SANDBOX (cutbox-door.mjs). By AI agents, Wed Nov 11 2026. No macro, syntax, notation, axiom, sorry.
-/
import Derived.Test.YtidoeplhgckmaaaDoorRows
import GoSem.ClaimSeven
namespace Go.Proofs.YtidoeplhgckmaaaDoor
namespace Rows

/-- THE TIED CARD OF 'clepsydralaw17.CivilMonths'. -/
def civilMonthsCard : Claim7 := { stood := { row := civilMonthsRow, standIns := [], harness := (true, "6a2a404128678ebd4eff9d76beb2d92adf3f4bb0dc791ab0b83b60a873def00f"), looks := false }, kinds := [], alts := [], laidByText := true, laidKinds := [.data], laidTests := true, laidLooks := .later }
def CivilMonthsCardSaid : Prop := Claim7.holds Tryd.pinned (.plain (OpenSpec.ofChange civilMonthsSpec)) civilMonthsCard

/-- THE TIED CARD OF 'clepsydralaw17.CivilDays'. -/
def civilDaysCard : Claim7 := { stood := { row := civilDaysRow, standIns := [], harness := (true, "6a2a404128678ebd4eff9d76beb2d92adf3f4bb0dc791ab0b83b60a873def00f"), looks := false }, kinds := [], alts := [], laidByText := true, laidKinds := [.data], laidTests := true, laidLooks := .later }
def CivilDaysCardSaid : Prop := Claim7.holds Tryd.pinned (.plain (OpenSpec.ofChange civilDaysSpec)) civilDaysCard

/-- THE TIED CARD OF 'clepsydralaw17.CivilDates'. -/
def civilDatesCard : Claim7 := { stood := { row := civilDatesRow, standIns := [], harness := (true, "6a2a404128678ebd4eff9d76beb2d92adf3f4bb0dc791ab0b83b60a873def00f"), looks := false }, kinds := [], alts := [], laidByText := true, laidKinds := [.data], laidTests := true, laidLooks := .later }
def CivilDatesCardSaid : Prop := Claim7.holds Tryd.pinned (.plain (OpenSpec.ofChange civilDatesSpec)) civilDatesCard

/-- THE TIED CARD OF 'clepsydralaw17.CivilBack'. -/
def civilBackCard : Claim7 := { stood := { row := civilBackRow, standIns := [], harness := (true, "6a2a404128678ebd4eff9d76beb2d92adf3f4bb0dc791ab0b83b60a873def00f"), looks := false }, kinds := [], alts := [], laidByText := true, laidKinds := [.data], laidTests := true, laidLooks := .later }
def CivilBackCardSaid : Prop := Claim7.holds Tryd.pinned (.plain (OpenSpec.ofChange civilBackSpec)) civilBackCard

/-- THE TIED CARD OF 'clepsydralaw17.CivilNext'. -/
def civilNextCard : Claim7 := { stood := { row := civilNextRow, standIns := [], harness := (true, "6a2a404128678ebd4eff9d76beb2d92adf3f4bb0dc791ab0b83b60a873def00f"), looks := false }, kinds := [], alts := [], laidByText := true, laidKinds := [.data], laidTests := true, laidLooks := .later }
def CivilNextCardSaid : Prop := Claim7.holds Tryd.pinned (.plain (OpenSpec.ofChange civilNextSpec)) civilNextCard

/-- THE TIED CARD OF 'clepsydralaw17.CivilCycles'. -/
def civilCyclesCard : Claim7 := { stood := { row := civilCyclesRow, standIns := [], harness := (true, "6a2a404128678ebd4eff9d76beb2d92adf3f4bb0dc791ab0b83b60a873def00f"), looks := false }, kinds := [], alts := [], laidByText := true, laidKinds := [.data], laidTests := true, laidLooks := .later }
def CivilCyclesCardSaid : Prop := Claim7.holds Tryd.pinned (.plain (OpenSpec.ofChange civilCyclesSpec)) civilCyclesCard

/-- THE SECOND FORM's CARD OF 'clepsydralaw17.CivilMonths'. -/
def civilMonthsUptoCard : Claim7 := { stood := { row := civilMonthsUptoRow, standIns := [], harness := (true, "6a2a404128678ebd4eff9d76beb2d92adf3f4bb0dc791ab0b83b60a873def00f"), looks := false }, kinds := [], alts := [], laidByText := true, laidKinds := [.data], laidTests := true, laidLooks := .later }
def CivilMonthsUptoCardSaid : Prop := Claim7.holds Tryd.pinned (.plain (OpenSpec.upto civilMonthsSpec)) civilMonthsUptoCard

/-- THE SECOND FORM's CARD OF 'clepsydralaw17.CivilDays'. -/
def civilDaysUptoCard : Claim7 := { stood := { row := civilDaysUptoRow, standIns := [], harness := (true, "6a2a404128678ebd4eff9d76beb2d92adf3f4bb0dc791ab0b83b60a873def00f"), looks := false }, kinds := [], alts := [], laidByText := true, laidKinds := [.data], laidTests := true, laidLooks := .later }
def CivilDaysUptoCardSaid : Prop := Claim7.holds Tryd.pinned (.plain (OpenSpec.upto civilDaysSpec)) civilDaysUptoCard

/-- THE SECOND FORM's CARD OF 'clepsydralaw17.CivilDates'. -/
def civilDatesUptoCard : Claim7 := { stood := { row := civilDatesUptoRow, standIns := [], harness := (true, "6a2a404128678ebd4eff9d76beb2d92adf3f4bb0dc791ab0b83b60a873def00f"), looks := false }, kinds := [], alts := [], laidByText := true, laidKinds := [.data], laidTests := true, laidLooks := .later }
def CivilDatesUptoCardSaid : Prop := Claim7.holds Tryd.pinned (.plain (OpenSpec.upto civilDatesSpec)) civilDatesUptoCard

/-- THE SECOND FORM's CARD OF 'clepsydralaw17.CivilBack'. -/
def civilBackUptoCard : Claim7 := { stood := { row := civilBackUptoRow, standIns := [], harness := (true, "6a2a404128678ebd4eff9d76beb2d92adf3f4bb0dc791ab0b83b60a873def00f"), looks := false }, kinds := [], alts := [], laidByText := true, laidKinds := [.data], laidTests := true, laidLooks := .later }
def CivilBackUptoCardSaid : Prop := Claim7.holds Tryd.pinned (.plain (OpenSpec.upto civilBackSpec)) civilBackUptoCard

/-- THE SECOND FORM's CARD OF 'clepsydralaw17.CivilNext'. -/
def civilNextUptoCard : Claim7 := { stood := { row := civilNextUptoRow, standIns := [], harness := (true, "6a2a404128678ebd4eff9d76beb2d92adf3f4bb0dc791ab0b83b60a873def00f"), looks := false }, kinds := [], alts := [], laidByText := true, laidKinds := [.data], laidTests := true, laidLooks := .later }
def CivilNextUptoCardSaid : Prop := Claim7.holds Tryd.pinned (.plain (OpenSpec.upto civilNextSpec)) civilNextUptoCard

/-- THE SECOND FORM's CARD OF 'clepsydralaw17.CivilCycles'. -/
def civilCyclesUptoCard : Claim7 := { stood := { row := civilCyclesUptoRow, standIns := [], harness := (true, "6a2a404128678ebd4eff9d76beb2d92adf3f4bb0dc791ab0b83b60a873def00f"), looks := false }, kinds := [], alts := [], laidByText := true, laidKinds := [.data], laidTests := true, laidLooks := .later }
def CivilCyclesUptoCardSaid : Prop := Claim7.holds Tryd.pinned (.plain (OpenSpec.upto civilCyclesSpec)) civilCyclesUptoCard
end Rows
end Go.Proofs.YtidoeplhgckmaaaDoor
