/-
  DERIVED. GIVEN WITH THE SEED: THE CARDS: each row of YtlmdgpflcfdhdaaGreatDoorRows.lean that lists a variable, with what it lists TIED to the program's text (the seventh form; the later family's looks); each row that meets fmt, with fmt's text TOLD by the authors' own Lean function (tested against real Go, not proved from fmt's source: count such statements apart). THE CARD IS WHAT COUNTS. Prove the row's statement (the work); the ties are given (YtlmdgpflcfdhdaaGreatDoorTie.lean); close each card by the builder's one call (the guide's Derived/Test/ToyasCard.lean, 'card_holds'). Laid BY PROGRAM, IN A SANDBOX (cutbox-door.mjs). By AI agents, Wed Nov 11 2026. No macro, syntax, notation, axiom, sorry.
-/
import Derived.Test.YtlmdgpflcfdhdaaGreatDoorRows
import GoSem.ClaimSeven
namespace Go.Proofs.YtlmdgpflcfdhdaaGreatDoor
namespace Rows

/-- THE TIED CARD OF 'rialtolaw18.TableMany'. -/
def tableManyCard : Claim7 := { stood := { row := tableManyRow, standIns := [], harness := (true, "0ef03d14a26491715e945981e5b7e8c53191a773739428eb85c131b1bcb822f2"), looks := true }, kinds := [], alts := [], laidByText := true, laidKinds := [.handle], laidTests := true, laidLooks := .later }
def TableManyCardSaid : Prop := Claim7.holds Tryz.pinned (.plain (OpenSpec.ofChange tableManySpec)) tableManyCard

/-- THE TIED CARD OF 'rialtolaw21.PlanNone'. -/
def planNoneCard : Claim7 := { stood := { row := planNoneRow, standIns := [], harness := (true, "0ef03d14a26491715e945981e5b7e8c53191a773739428eb85c131b1bcb822f2"), looks := true }, kinds := [], alts := [], laidByText := true, laidKinds := [.handle], laidTests := true, laidLooks := .later }
def PlanNoneCardSaid : Prop := Claim7.holds Tryz.pinned (.plain (OpenSpec.ofChange planNoneSpec)) planNoneCard

/-- THE SECOND FORM's CARD OF 'rialtolaw18.TableMany'. -/
def tableManyUptoCard : Claim7 := { stood := { row := tableManyUptoRow, standIns := [], harness := (true, "0ef03d14a26491715e945981e5b7e8c53191a773739428eb85c131b1bcb822f2"), looks := true }, kinds := [], alts := [], laidByText := true, laidKinds := [.handle], laidTests := true, laidLooks := .later }
def TableManyUptoCardSaid : Prop := Claim7.holds Tryz.pinned (.plain (OpenSpec.upto tableManySpec)) tableManyUptoCard

/-- THE SECOND FORM's CARD OF 'rialtolaw21.PlanNone'. -/
def planNoneUptoCard : Claim7 := { stood := { row := planNoneUptoRow, standIns := [], harness := (true, "0ef03d14a26491715e945981e5b7e8c53191a773739428eb85c131b1bcb822f2"), looks := true }, kinds := [], alts := [], laidByText := true, laidKinds := [.handle], laidTests := true, laidLooks := .later }
def PlanNoneUptoCardSaid : Prop := Claim7.holds Tryz.pinned (.plain (OpenSpec.upto planNoneSpec)) planNoneUptoCard
end Rows
end Go.Proofs.YtlmdgpflcfdhdaaGreatDoor
