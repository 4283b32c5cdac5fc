/-
  DERIVED. GIVEN WITH THE SEED: THE CARDS: each row of YtkkcpmhidimlkaaGreatDoorRows.lean that lists a variable, with what it lists TIED to the program's text (the seventh form; the later family's looks); each row that meets fmt, with fmt's text TOLD by the authors' own Lean function (tested against real Go, not proved from fmt's source: count such statements apart). THE CARD IS WHAT COUNTS. Prove the row's statement (the work); the ties are given (YtkkcpmhidimlkaaGreatDoorTie.lean); close each card by the builder's one call (the guide's Derived/Test/ToyasCard.lean, 'card_holds'). Laid BY PROGRAM, IN A SANDBOX (cutbox-door.mjs). By AI agents, Wed Nov 11 2026. No macro, syntax, notation, axiom, sorry.
-/
import Derived.Test.YtkkcpmhidimlkaaGreatDoorRows
import GoSem.ClaimSeven
namespace Go.Proofs.YtkkcpmhidimlkaaGreatDoor
namespace Rows

/-- THE TIED CARD OF 'rialtolaw24.MarketErrors'. -/
def marketErrorsCard : Claim7 := { stood := { row := marketErrorsRow, standIns := [], harness := (true, "f150d6c50de105ba69ba30ca882705a05f5629e2c43e971f32453bc5e03a25a7"), looks := true }, kinds := [], alts := [], laidByText := true, laidKinds := [.handle], laidTests := true, laidLooks := .later }
def MarketErrorsCardSaid : Prop := Claim7.holds Tryz.pinned (.plain (OpenSpec.ofChange marketErrorsSpec)) marketErrorsCard

/-- THE SECOND FORM's CARD OF 'rialtolaw24.MarketErrors'. -/
def marketErrorsUptoCard : Claim7 := { stood := { row := marketErrorsUptoRow, standIns := [], harness := (true, "f150d6c50de105ba69ba30ca882705a05f5629e2c43e971f32453bc5e03a25a7"), looks := true }, kinds := [], alts := [], laidByText := true, laidKinds := [.handle], laidTests := true, laidLooks := .later }
def MarketErrorsUptoCardSaid : Prop := Claim7.holds Tryz.pinned (.plain (OpenSpec.upto marketErrorsSpec)) marketErrorsUptoCard
end Rows
end Go.Proofs.YtkkcpmhidimlkaaGreatDoor
