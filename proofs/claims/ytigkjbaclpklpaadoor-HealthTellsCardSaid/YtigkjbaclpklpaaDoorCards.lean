/-
  DERIVED. GIVEN WITH THE SEED: THE CARDS: each row of YtigkjbaclpklpaaDoorRows.lean that lists a variable, with what it lists TIED to the program's text (the seventh form; the later family's looks); each row that meets fmt, with fmt's text TOLD by the authors' own Lean function (tested against real Go, not proved from fmt's source: count such statements apart). THE CARD IS WHAT COUNTS. Prove the row's statement (the work); the ties are given (YtigkjbaclpklpaaDoorTie.lean); close each card by the builder's one call (the guide's Derived/Test/ToyasCard.lean, 'card_holds'). Laid BY PROGRAM, IN A SANDBOX (cutbox-door.mjs). By AI agents, Wed Nov 11 2026. No macro, syntax, notation, axiom, sorry.
-/
import Derived.Test.YtigkjbaclpklpaaDoorRows
import GoSem.ClaimSeven
namespace Go.Proofs.YtigkjbaclpklpaaDoor
namespace Rows

/-- THE TIED CARD OF 'clepsydralaw21.HealthTells'. -/
def healthTellsCard : Claim7 := { stood := { row := healthTellsRow, standIns := [], harness := (true, "2dc3795816bad816032bc7cbd0e4a9f9106882919c664871ec8b548489702978"), looks := false }, kinds := [], alts := [], laidByText := true, laidKinds := [.data], laidTests := true, laidLooks := .later }
def HealthTellsCardSaid : Prop := Claim7.holds Tryd.pinned (.plain (OpenSpec.ofChange healthTellsSpec)) healthTellsCard

/-- THE SECOND FORM's CARD OF 'clepsydralaw21.HealthTells'. -/
def healthTellsUptoCard : Claim7 := { stood := { row := healthTellsUptoRow, standIns := [], harness := (true, "2dc3795816bad816032bc7cbd0e4a9f9106882919c664871ec8b548489702978"), looks := false }, kinds := [], alts := [], laidByText := true, laidKinds := [.data], laidTests := true, laidLooks := .later }
def HealthTellsUptoCardSaid : Prop := Claim7.holds Tryd.pinned (.plain (OpenSpec.upto healthTellsSpec)) healthTellsUptoCard
end Rows
end Go.Proofs.YtigkjbaclpklpaaDoor
