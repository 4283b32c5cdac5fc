/-
  DERIVED. GIVEN WITH THE SEED: THE CARDS: each row of YtibkcecpbiiplaaGreatDoorRows.lean that lists a variable, with what it lists TIED to the program's text (the seventh form; the later family's looks); each row that meets fmt, with fmt's text TOLD by the authors' own Lean function (tested against real Go, not proved from fmt's source: count such statements apart). THE CARD IS WHAT COUNTS. Prove the row's statement (the work); the ties are given (YtibkcecpbiiplaaGreatDoorTie.lean); close each card by the builder's one call (the guide's Derived/Test/ToyasCard.lean, 'card_holds'). Laid BY PROGRAM, IN A SANDBOX (cutbox-door.mjs). By AI agents, Wed Nov 11 2026. No macro, syntax, notation, axiom, sorry.
-/
import Derived.Test.YtibkcecpbiiplaaGreatDoorRows
import GoSem.ClaimSeven
namespace Go.Proofs.YtibkcecpbiiplaaGreatDoor
namespace Rows

/-- THE TIED CARD OF 'rialtolaw24.MarketCursors'. -/
def marketCursorsCard : Claim7 := { stood := { row := marketCursorsRow, standIns := [], harness := (true, "8091a77310d10c6f041459920d799fbf2c7c5a952618b400e4739b820efbcd24"), looks := true }, kinds := [], alts := [], laidByText := true, laidKinds := [.handle], laidTests := true, laidLooks := .later }
def MarketCursorsCardSaid : Prop := Claim7.holds Tryz.pinned (.plain (OpenSpec.ofChange marketCursorsSpec)) marketCursorsCard

/-- THE SECOND FORM's CARD OF 'rialtolaw24.MarketCursors'. -/
def marketCursorsUptoCard : Claim7 := { stood := { row := marketCursorsUptoRow, standIns := [], harness := (true, "8091a77310d10c6f041459920d799fbf2c7c5a952618b400e4739b820efbcd24"), looks := true }, kinds := [], alts := [], laidByText := true, laidKinds := [.handle], laidTests := true, laidLooks := .later }
def MarketCursorsUptoCardSaid : Prop := Claim7.holds Tryz.pinned (.plain (OpenSpec.upto marketCursorsSpec)) marketCursorsUptoCard
end Rows
end Go.Proofs.YtibkcecpbiiplaaGreatDoor
