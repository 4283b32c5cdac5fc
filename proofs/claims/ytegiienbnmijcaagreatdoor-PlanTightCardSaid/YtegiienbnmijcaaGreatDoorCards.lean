/-
  DERIVED. GIVEN WITH THE SEED: THE CARDS: each row of YtegiienbnmijcaaGreatDoorRows.lean that lists a variable, with what it lists TIED to the program's text (the seventh form; the later family's looks); each row that meets fmt, with fmt's text TOLD by the authors' own Lean function (tested against real Go, not proved from fmt's source: count such statements apart). THE CARD IS WHAT COUNTS. Prove the row's statement (the work); the ties are given (YtegiienbnmijcaaGreatDoorTie.lean); close each card by the builder's one call (the guide's Derived/Test/ToyasCard.lean, 'card_holds'). Laid BY PROGRAM, IN A SANDBOX (cutbox-door.mjs). By AI agents, Wed Nov 11 2026. No macro, syntax, notation, axiom, sorry.
-/
import Derived.Test.YtegiienbnmijcaaGreatDoorRows
import GoSem.ClaimSeven
namespace Go.Proofs.YtegiienbnmijcaaGreatDoor
namespace Rows

/-- THE TIED CARD OF 'rialtolaw21.PlanTight'. -/
def planTightCard : Claim7 := { stood := { row := planTightRow, standIns := [], harness := (true, "559996d891637d435708d9a5922fb4ef8ce1a3db3965a5d4bee08f144354ddda"), looks := true }, kinds := [], alts := [], laidByText := true, laidKinds := [.handle], laidTests := true, laidLooks := .later }
def PlanTightCardSaid : Prop := Claim7.holds Tryz.pinned (.plain (OpenSpec.ofChange planTightSpec)) planTightCard

/-- THE SECOND FORM's CARD OF 'rialtolaw21.PlanTight'. -/
def planTightUptoCard : Claim7 := { stood := { row := planTightUptoRow, standIns := [], harness := (true, "559996d891637d435708d9a5922fb4ef8ce1a3db3965a5d4bee08f144354ddda"), looks := true }, kinds := [], alts := [], laidByText := true, laidKinds := [.handle], laidTests := true, laidLooks := .later }
def PlanTightUptoCardSaid : Prop := Claim7.holds Tryz.pinned (.plain (OpenSpec.upto planTightSpec)) planTightUptoCard
end Rows
end Go.Proofs.YtegiienbnmijcaaGreatDoor
