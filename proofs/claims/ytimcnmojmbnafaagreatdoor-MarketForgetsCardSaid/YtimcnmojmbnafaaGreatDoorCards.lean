/-
  DERIVED. GIVEN WITH THE SEED: THE CARDS: each row of YtimcnmojmbnafaaGreatDoorRows.lean that lists a variable, with what it lists TIED to the program's text (the seventh form; the later family's looks); each row that meets fmt, with fmt's text TOLD by the authors' own Lean function (tested against real Go, not proved from fmt's source: count such statements apart). THE CARD IS WHAT COUNTS. Prove the row's statement (the work); the ties are given (YtimcnmojmbnafaaGreatDoorTie.lean); close each card by the builder's one call (the guide's Derived/Test/ToyasCard.lean, 'card_holds'). Laid BY PROGRAM, IN A SANDBOX (cutbox-door.mjs). By AI agents, Wed Nov 11 2026. No macro, syntax, notation, axiom, sorry.
-/
import Derived.Test.YtimcnmojmbnafaaGreatDoorRows
import GoSem.ClaimSeven
namespace Go.Proofs.YtimcnmojmbnafaaGreatDoor
namespace Rows

/-- THE TIED CARD OF 'rialtolaw24.MarketForgets'. -/
def marketForgetsCard : Claim7 := { stood := { row := marketForgetsRow, standIns := [], harness := (true, "6d022aa39e65ce386ccdaf56343e0b6ce57d7a8f99b22ad9fb31ba90be9c5efc"), looks := true }, kinds := [], alts := [], laidByText := true, laidKinds := [.handle], laidTests := true, laidLooks := .later }
def MarketForgetsCardSaid : Prop := Claim7.holds Tryz.pinned (.plain (OpenSpec.ofChange marketForgetsSpec)) marketForgetsCard

/-- THE TIED CARD OF 'rialtolaw24.MarketQuiet'. -/
def marketQuietCard : Claim7 := { stood := { row := marketQuietRow, standIns := [], harness := (true, "6d022aa39e65ce386ccdaf56343e0b6ce57d7a8f99b22ad9fb31ba90be9c5efc"), looks := true }, kinds := [], alts := [], laidByText := true, laidKinds := [.handle], laidTests := true, laidLooks := .later }
def MarketQuietCardSaid : Prop := Claim7.holds Tryz.pinned (.plain (OpenSpec.ofChange marketQuietSpec)) marketQuietCard

/-- THE SECOND FORM's CARD OF 'rialtolaw24.MarketForgets'. -/
def marketForgetsUptoCard : Claim7 := { stood := { row := marketForgetsUptoRow, standIns := [], harness := (true, "6d022aa39e65ce386ccdaf56343e0b6ce57d7a8f99b22ad9fb31ba90be9c5efc"), looks := true }, kinds := [], alts := [], laidByText := true, laidKinds := [.handle], laidTests := true, laidLooks := .later }
def MarketForgetsUptoCardSaid : Prop := Claim7.holds Tryz.pinned (.plain (OpenSpec.upto marketForgetsSpec)) marketForgetsUptoCard

/-- THE SECOND FORM's CARD OF 'rialtolaw24.MarketQuiet'. -/
def marketQuietUptoCard : Claim7 := { stood := { row := marketQuietUptoRow, standIns := [], harness := (true, "6d022aa39e65ce386ccdaf56343e0b6ce57d7a8f99b22ad9fb31ba90be9c5efc"), looks := true }, kinds := [], alts := [], laidByText := true, laidKinds := [.handle], laidTests := true, laidLooks := .later }
def MarketQuietUptoCardSaid : Prop := Claim7.holds Tryz.pinned (.plain (OpenSpec.upto marketQuietSpec)) marketQuietUptoCard
end Rows
end Go.Proofs.YtimcnmojmbnafaaGreatDoor
