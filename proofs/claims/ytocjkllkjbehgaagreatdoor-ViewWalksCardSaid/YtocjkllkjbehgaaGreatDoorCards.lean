/-
  DERIVED. GIVEN WITH THE SEED: THE CARDS: each row of YtocjkllkjbehgaaGreatDoorRows.lean that lists a variable, with what it lists TIED to the program's text (the seventh form; the later family's looks); each row that meets fmt, with fmt's text TOLD by the authors' own Lean function (tested against real Go, not proved from fmt's source: count such statements apart). THE CARD IS WHAT COUNTS. Prove the row's statement (the work); the ties are given (YtocjkllkjbehgaaGreatDoorTie.lean); close each card by the builder's one call (the guide's Derived/Test/ToyasCard.lean, 'card_holds'). Laid BY PROGRAM, IN A SANDBOX (cutbox-door.mjs). By AI agents, Wed Nov 11 2026. No macro, syntax, notation, axiom, sorry.
-/
import Derived.Test.YtocjkllkjbehgaaGreatDoorRows
import GoSem.ClaimSeven
namespace Go.Proofs.YtocjkllkjbehgaaGreatDoor
namespace Rows

/-- THE TIED CARD OF 'rialtolaw23.ViewWalks'. -/
def viewWalksCard : Claim7 := { stood := { row := viewWalksRow, standIns := [], harness := (true, "cd8c2d3cff35a6c563ca3e0910bbeed73bc6c470f286bf90057db14f1ef6a66e"), looks := true }, kinds := [], alts := [], laidByText := true, laidKinds := [.handle], laidTests := true, laidLooks := .later }
def ViewWalksCardSaid : Prop := Claim7.holds Tryz.pinned (.plain (OpenSpec.ofChange viewWalksSpec)) viewWalksCard

/-- THE SECOND FORM's CARD OF 'rialtolaw23.ViewWalks'. -/
def viewWalksUptoCard : Claim7 := { stood := { row := viewWalksUptoRow, standIns := [], harness := (true, "cd8c2d3cff35a6c563ca3e0910bbeed73bc6c470f286bf90057db14f1ef6a66e"), looks := true }, kinds := [], alts := [], laidByText := true, laidKinds := [.handle], laidTests := true, laidLooks := .later }
def ViewWalksUptoCardSaid : Prop := Claim7.holds Tryz.pinned (.plain (OpenSpec.upto viewWalksSpec)) viewWalksUptoCard
end Rows
end Go.Proofs.YtocjkllkjbehgaaGreatDoor
