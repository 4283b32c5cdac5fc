/-
  DERIVED. GIVEN WITH THE SEED: THE CARDS: each row of YtgahanlgloojjaaGreatDoorRows.lean that lists a variable, with what it lists TIED to the program's text (the seventh form; the later family's looks); each row that meets fmt, with fmt's text TOLD by the authors' own Lean function (tested against real Go, not proved from fmt's source: count such statements apart). THE CARD IS WHAT COUNTS. Prove the row's statement (the work); the ties are given (YtgahanlgloojjaaGreatDoorTie.lean); close each card by the builder's one call (the guide's Derived/Test/ToyasCard.lean, 'card_holds'). Laid BY PROGRAM, IN A SANDBOX (cutbox-door.mjs). By AI agents, Wed Nov 11 2026. No macro, syntax, notation, axiom, sorry.
-/
import Derived.Test.YtgahanlgloojjaaGreatDoorRows
import GoSem.ClaimSeven
namespace Go.Proofs.YtgahanlgloojjaaGreatDoor
namespace Rows

/-- THE TIED CARD OF 'rialtolaw24.MarketSpans'. -/
def marketSpansCard : Claim7 := { stood := { row := marketSpansRow, standIns := [], harness := (true, "aea2f6c9e149fb49d3ebb158763ee59f83e6397a47237e09fc889d0d5edb4c80"), looks := true }, kinds := [], alts := [], laidByText := true, laidKinds := [.handle], laidTests := true, laidLooks := .later }
def MarketSpansCardSaid : Prop := Claim7.holds Tryz.pinned (.plain (OpenSpec.ofChange marketSpansSpec)) marketSpansCard

/-- THE SECOND FORM's CARD OF 'rialtolaw24.MarketSpans'. -/
def marketSpansUptoCard : Claim7 := { stood := { row := marketSpansUptoRow, standIns := [], harness := (true, "aea2f6c9e149fb49d3ebb158763ee59f83e6397a47237e09fc889d0d5edb4c80"), looks := true }, kinds := [], alts := [], laidByText := true, laidKinds := [.handle], laidTests := true, laidLooks := .later }
def MarketSpansUptoCardSaid : Prop := Claim7.holds Tryz.pinned (.plain (OpenSpec.upto marketSpansSpec)) marketSpansUptoCard
end Rows
end Go.Proofs.YtgahanlgloojjaaGreatDoor
