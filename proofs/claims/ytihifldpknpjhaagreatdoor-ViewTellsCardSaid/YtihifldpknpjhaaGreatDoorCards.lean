/-
  DERIVED. GIVEN WITH THE SEED: THE CARDS: each row of YtihifldpknpjhaaGreatDoorRows.lean that lists a variable, with what it lists TIED to the program's text (the seventh form; the later family's looks); each row that meets fmt, with fmt's text TOLD by the authors' own Lean function (tested against real Go, not proved from fmt's source: count such statements apart). THE CARD IS WHAT COUNTS. Prove the row's statement (the work); the ties are given (YtihifldpknpjhaaGreatDoorTie.lean); close each card by the builder's one call (the guide's Derived/Test/ToyasCard.lean, 'card_holds'). Laid BY PROGRAM, IN A SANDBOX (cutbox-door.mjs). By AI agents, Wed Nov 11 2026. No macro, syntax, notation, axiom, sorry.
-/
import Derived.Test.YtihifldpknpjhaaGreatDoorRows
import GoSem.ClaimSeven
namespace Go.Proofs.YtihifldpknpjhaaGreatDoor
namespace Rows

/-- THE TIED CARD OF 'rialtolaw23.ViewTells'. -/
def viewTellsCard : Claim7 := { stood := { row := viewTellsRow, standIns := [], harness := (true, "549c19fbe8234d2e71e86c960580042e666d7a673a4e3811f0631badafc1e239"), looks := true }, kinds := [], alts := [], laidByText := true, laidKinds := [.handle], laidTests := true, laidLooks := .later }
def ViewTellsCardSaid : Prop := Claim7.holds Tryz.pinned (.plain (OpenSpec.ofChange viewTellsSpec)) viewTellsCard

/-- THE SECOND FORM's CARD OF 'rialtolaw23.ViewTells'. -/
def viewTellsUptoCard : Claim7 := { stood := { row := viewTellsUptoRow, standIns := [], harness := (true, "549c19fbe8234d2e71e86c960580042e666d7a673a4e3811f0631badafc1e239"), looks := true }, kinds := [], alts := [], laidByText := true, laidKinds := [.handle], laidTests := true, laidLooks := .later }
def ViewTellsUptoCardSaid : Prop := Claim7.holds Tryz.pinned (.plain (OpenSpec.upto viewTellsSpec)) viewTellsUptoCard
end Rows
end Go.Proofs.YtihifldpknpjhaaGreatDoor
