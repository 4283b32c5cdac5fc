/-
  DERIVED. GIVEN WITH THE SEED: THE CARDS: each row of YtipkgldmaaangaaGreatDoorRows.lean that lists a variable, with what it lists TIED to the program's text (the seventh form; the later family's looks); each row that meets fmt, with fmt's text TOLD by the authors' own Lean function (tested against real Go, not proved from fmt's source: count such statements apart). THE CARD IS WHAT COUNTS. Prove the row's statement (the work); the ties are given (YtipkgldmaaangaaGreatDoorTie.lean); close each card by the builder's one call (the guide's Derived/Test/ToyasCard.lean, 'card_holds'). Laid BY PROGRAM, IN A SANDBOX (cutbox-door.mjs). By AI agents, Wed Nov 11 2026. No macro, syntax, notation, axiom, sorry.
-/
import Derived.Test.YtipkgldmaaangaaGreatDoorRows
import GoSem.ClaimSeven
namespace Go.Proofs.YtipkgldmaaangaaGreatDoor
namespace Rows

/-- THE TIED CARD OF 'rialtolaw19.ChangeFirst'. -/
def changeFirstCard : Claim7 := { stood := { row := changeFirstRow, standIns := [], harness := (true, "2e1d4cd5e97822d7de92597bf9f6e6ebed0c2d8fbf00163c7fff96e75799e7a7"), looks := true }, kinds := [], alts := [], laidByText := true, laidKinds := [.handle], laidTests := true, laidLooks := .later }
def ChangeFirstCardSaid : Prop := Claim7.holds Tryz.pinned (.plain (OpenSpec.ofChange changeFirstSpec)) changeFirstCard

/-- THE TIED CARD OF 'rialtolaw19.ChangeShapes'. -/
def changeShapesCard : Claim7 := { stood := { row := changeShapesRow, standIns := [], harness := (true, "2e1d4cd5e97822d7de92597bf9f6e6ebed0c2d8fbf00163c7fff96e75799e7a7"), looks := true }, kinds := [], alts := [], laidByText := true, laidKinds := [.handle], laidTests := true, laidLooks := .later }
def ChangeShapesCardSaid : Prop := Claim7.holds Tryz.pinned (.plain (OpenSpec.ofChange changeShapesSpec)) changeShapesCard

/-- THE SECOND FORM's CARD OF 'rialtolaw19.ChangeFirst'. -/
def changeFirstUptoCard : Claim7 := { stood := { row := changeFirstUptoRow, standIns := [], harness := (true, "2e1d4cd5e97822d7de92597bf9f6e6ebed0c2d8fbf00163c7fff96e75799e7a7"), looks := true }, kinds := [], alts := [], laidByText := true, laidKinds := [.handle], laidTests := true, laidLooks := .later }
def ChangeFirstUptoCardSaid : Prop := Claim7.holds Tryz.pinned (.plain (OpenSpec.upto changeFirstSpec)) changeFirstUptoCard

/-- THE SECOND FORM's CARD OF 'rialtolaw19.ChangeShapes'. -/
def changeShapesUptoCard : Claim7 := { stood := { row := changeShapesUptoRow, standIns := [], harness := (true, "2e1d4cd5e97822d7de92597bf9f6e6ebed0c2d8fbf00163c7fff96e75799e7a7"), looks := true }, kinds := [], alts := [], laidByText := true, laidKinds := [.handle], laidTests := true, laidLooks := .later }
def ChangeShapesUptoCardSaid : Prop := Claim7.holds Tryz.pinned (.plain (OpenSpec.upto changeShapesSpec)) changeShapesUptoCard
end Rows
end Go.Proofs.YtipkgldmaaangaaGreatDoor
