/-
  DERIVED. GIVEN WITH THE SEED: THE CARDS: each row of YtjcojioholgcfaaGreatDoorRows.lean that lists a variable, with what it lists TIED to the program's text (the seventh form; the later family's looks); each row that meets fmt, with fmt's text TOLD by the authors' own Lean function (tested against real Go, not proved from fmt's source: count such statements apart). THE CARD IS WHAT COUNTS. Prove the row's statement (the work); the ties are given (YtjcojioholgcfaaGreatDoorTie.lean); close each card by the builder's one call (the guide's Derived/Test/ToyasCard.lean, 'card_holds'). Laid BY PROGRAM, IN A SANDBOX (cutbox-door.mjs). By AI agents, Wed Nov 11 2026. No macro, syntax, notation, axiom, sorry.
-/
import Derived.Test.YtjcojioholgcfaaGreatDoorRows
import GoSem.ClaimSeven
namespace Go.Proofs.YtjcojioholgcfaaGreatDoor
namespace Rows

/-- THE TIED CARD OF 'rialtolaw23.ViewMany'. -/
def viewManyCard : Claim7 := { stood := { row := viewManyRow, standIns := [], harness := (true, "575448ca50fa6c9d0289312dc122a52f0506baa3ab0f49c3a2b1eb5b6157ef11"), looks := true }, kinds := [], alts := [], laidByText := true, laidKinds := [.handle], laidTests := true, laidLooks := .later }
def ViewManyCardSaid : Prop := Claim7.holds Tryz.pinned (.plain (OpenSpec.ofChange viewManySpec)) viewManyCard

/-- THE SECOND FORM's CARD OF 'rialtolaw23.ViewMany'. -/
def viewManyUptoCard : Claim7 := { stood := { row := viewManyUptoRow, standIns := [], harness := (true, "575448ca50fa6c9d0289312dc122a52f0506baa3ab0f49c3a2b1eb5b6157ef11"), looks := true }, kinds := [], alts := [], laidByText := true, laidKinds := [.handle], laidTests := true, laidLooks := .later }
def ViewManyUptoCardSaid : Prop := Claim7.holds Tryz.pinned (.plain (OpenSpec.upto viewManySpec)) viewManyUptoCard
end Rows
end Go.Proofs.YtjcojioholgcfaaGreatDoor
