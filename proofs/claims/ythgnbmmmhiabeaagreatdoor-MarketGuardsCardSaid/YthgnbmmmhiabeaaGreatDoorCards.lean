/-
  DERIVED. GIVEN WITH THE SEED: THE CARDS: each row of YthgnbmmmhiabeaaGreatDoorRows.lean that lists a variable, with what it lists TIED to the program's text (the seventh form; the later family's looks); each row that meets fmt, with fmt's text TOLD by the authors' own Lean function (tested against real Go, not proved from fmt's source: count such statements apart). THE CARD IS WHAT COUNTS. Prove the row's statement (the work); the ties are given (YthgnbmmmhiabeaaGreatDoorTie.lean); close each card by the builder's one call (the guide's Derived/Test/ToyasCard.lean, 'card_holds'). Laid BY PROGRAM, IN A SANDBOX (cutbox-door.mjs). By AI agents, Wed Nov 11 2026. No macro, syntax, notation, axiom, sorry.
-/
import Derived.Test.YthgnbmmmhiabeaaGreatDoorRows
import GoSem.ClaimSeven
namespace Go.Proofs.YthgnbmmmhiabeaaGreatDoor
namespace Rows

/-- THE TIED CARD OF 'rialtolaw24.MarketGuards'. -/
def marketGuardsCard : Claim7 := { stood := { row := marketGuardsRow, standIns := [], harness := (true, "e91185fa6e0ccb360c468ee0bd4163f0b4e4fc9778b94b7dc2f05472374b9c16"), looks := true }, kinds := [], alts := [], laidByText := true, laidKinds := [.handle], laidTests := true, laidLooks := .later }
def MarketGuardsCardSaid : Prop := Claim7.holds Tryz.pinned (.plain (OpenSpec.ofChange marketGuardsSpec)) marketGuardsCard

/-- THE SECOND FORM's CARD OF 'rialtolaw24.MarketGuards'. -/
def marketGuardsUptoCard : Claim7 := { stood := { row := marketGuardsUptoRow, standIns := [], harness := (true, "e91185fa6e0ccb360c468ee0bd4163f0b4e4fc9778b94b7dc2f05472374b9c16"), looks := true }, kinds := [], alts := [], laidByText := true, laidKinds := [.handle], laidTests := true, laidLooks := .later }
def MarketGuardsUptoCardSaid : Prop := Claim7.holds Tryz.pinned (.plain (OpenSpec.upto marketGuardsSpec)) marketGuardsUptoCard
end Rows
end Go.Proofs.YthgnbmmmhiabeaaGreatDoor
