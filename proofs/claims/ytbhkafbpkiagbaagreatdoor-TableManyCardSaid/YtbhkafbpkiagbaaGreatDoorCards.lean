/-
  DERIVED. GIVEN WITH THE SEED: THE CARDS: each row of YtbhkafbpkiagbaaGreatDoorRows.lean that lists a variable, with what it lists TIED to the program's text (the seventh form; the later family's looks); each row that meets fmt, with fmt's text TOLD by the authors' own Lean function (tested against real Go, not proved from fmt's source: count such statements apart). THE CARD IS WHAT COUNTS. Prove the row's statement (the work); the ties are given (YtbhkafbpkiagbaaGreatDoorTie.lean); close each card by the builder's one call (the guide's Derived/Test/ToyasCard.lean, 'card_holds'). Laid BY PROGRAM, IN A SANDBOX (cutbox-door.mjs). By AI agents, Wed Nov 11 2026. No macro, syntax, notation, axiom, sorry.
-/
import Derived.Test.YtbhkafbpkiagbaaGreatDoorRows
import GoSem.ClaimSeven
namespace Go.Proofs.YtbhkafbpkiagbaaGreatDoor
namespace Rows

/-- THE TIED CARD OF 'rialtolaw18.TableMany'. -/
def tableManyCard : Claim7 := { stood := { row := tableManyRow, standIns := [], harness := (true, "17a08b6e3ecf826e51df84b4baec4a4589014da8d37c01de274c457bb48a3ec8"), looks := true }, kinds := [], alts := [], laidByText := true, laidKinds := [.handle], laidTests := true, laidLooks := .later }
def TableManyCardSaid : Prop := Claim7.holds Tryz.pinned (.plain (OpenSpec.ofChange tableManySpec)) tableManyCard

/-- THE SECOND FORM's CARD OF 'rialtolaw18.TableMany'. -/
def tableManyUptoCard : Claim7 := { stood := { row := tableManyUptoRow, standIns := [], harness := (true, "17a08b6e3ecf826e51df84b4baec4a4589014da8d37c01de274c457bb48a3ec8"), looks := true }, kinds := [], alts := [], laidByText := true, laidKinds := [.handle], laidTests := true, laidLooks := .later }
def TableManyUptoCardSaid : Prop := Claim7.holds Tryz.pinned (.plain (OpenSpec.upto tableManySpec)) tableManyUptoCard
end Rows
end Go.Proofs.YtbhkafbpkiagbaaGreatDoor
