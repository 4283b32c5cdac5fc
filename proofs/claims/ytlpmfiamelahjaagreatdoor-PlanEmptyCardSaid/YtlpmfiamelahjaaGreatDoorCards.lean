/-
  DERIVED. GIVEN WITH THE SEED: THE CARDS: each row of YtlpmfiamelahjaaGreatDoorRows.lean that lists a variable, with what it lists TIED to the program's text (the seventh form; the later family's looks); each row that meets fmt, with fmt's text TOLD by the authors' own Lean function (tested against real Go, not proved from fmt's source: count such statements apart). THE CARD IS WHAT COUNTS. Prove the row's statement (the work); the ties are given (YtlpmfiamelahjaaGreatDoorTie.lean); close each card by the builder's one call (the guide's Derived/Test/ToyasCard.lean, 'card_holds'). Laid BY PROGRAM, IN A SANDBOX (cutbox-door.mjs). By AI agents, Wed Nov 11 2026. No macro, syntax, notation, axiom, sorry.
-/
import Derived.Test.YtlpmfiamelahjaaGreatDoorRows
import GoSem.ClaimSeven
namespace Go.Proofs.YtlpmfiamelahjaaGreatDoor
namespace Rows

/-- THE TIED CARD OF 'rialtolaw21.PlanEmpty'. -/
def planEmptyCard : Claim7 := { stood := { row := planEmptyRow, standIns := [], harness := (true, "89443770054ee3e956bdf60d20748bb41e0da5a6f7e1b5b3a0fac23b38bb1afc"), looks := true }, kinds := [], alts := [], laidByText := true, laidKinds := [.handle], laidTests := true, laidLooks := .later }
def PlanEmptyCardSaid : Prop := Claim7.holds Tryz.pinned (.plain (OpenSpec.ofChange planEmptySpec)) planEmptyCard

/-- THE SECOND FORM's CARD OF 'rialtolaw21.PlanEmpty'. -/
def planEmptyUptoCard : Claim7 := { stood := { row := planEmptyUptoRow, standIns := [], harness := (true, "89443770054ee3e956bdf60d20748bb41e0da5a6f7e1b5b3a0fac23b38bb1afc"), looks := true }, kinds := [], alts := [], laidByText := true, laidKinds := [.handle], laidTests := true, laidLooks := .later }
def PlanEmptyUptoCardSaid : Prop := Claim7.holds Tryz.pinned (.plain (OpenSpec.upto planEmptySpec)) planEmptyUptoCard
end Rows
end Go.Proofs.YtlpmfiamelahjaaGreatDoor
