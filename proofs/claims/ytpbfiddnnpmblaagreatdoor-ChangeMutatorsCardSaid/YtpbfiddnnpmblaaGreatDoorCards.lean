/-
  DERIVED. GIVEN WITH THE SEED: THE CARDS: each row of YtpbfiddnnpmblaaGreatDoorRows.lean that lists a variable, with what it lists TIED to the program's text (the seventh form; the later family's looks); each row that meets fmt, with fmt's text TOLD by the authors' own Lean function (tested against real Go, not proved from fmt's source: count such statements apart). THE CARD IS WHAT COUNTS. Prove the row's statement (the work); the ties are given (YtpbfiddnnpmblaaGreatDoorTie.lean); close each card by the builder's one call (the guide's Derived/Test/ToyasCard.lean, 'card_holds'). Laid BY PROGRAM, IN A SANDBOX (cutbox-door.mjs). By AI agents, Wed Nov 11 2026. No macro, syntax, notation, axiom, sorry.
-/
import Derived.Test.YtpbfiddnnpmblaaGreatDoorRows
import GoSem.ClaimSeven
namespace Go.Proofs.YtpbfiddnnpmblaaGreatDoor
namespace Rows

/-- THE TIED CARD OF 'rialtolaw19.ChangeMutators'. -/
def changeMutatorsCard : Claim7 := { stood := { row := changeMutatorsRow, standIns := [], harness := (true, "f1a905eeb7595a41fe5ed652a6d3017dafe6c06649339346925f831d2911aa04"), looks := true }, kinds := [], alts := [], laidByText := true, laidKinds := [.handle], laidTests := true, laidLooks := .later }
def ChangeMutatorsCardSaid : Prop := Claim7.holds Tryz.pinned (.plain (OpenSpec.ofChange changeMutatorsSpec)) changeMutatorsCard

/-- THE SECOND FORM's CARD OF 'rialtolaw19.ChangeMutators'. -/
def changeMutatorsUptoCard : Claim7 := { stood := { row := changeMutatorsUptoRow, standIns := [], harness := (true, "f1a905eeb7595a41fe5ed652a6d3017dafe6c06649339346925f831d2911aa04"), looks := true }, kinds := [], alts := [], laidByText := true, laidKinds := [.handle], laidTests := true, laidLooks := .later }
def ChangeMutatorsUptoCardSaid : Prop := Claim7.holds Tryz.pinned (.plain (OpenSpec.upto changeMutatorsSpec)) changeMutatorsUptoCard
end Rows
end Go.Proofs.YtpbfiddnnpmblaaGreatDoor
