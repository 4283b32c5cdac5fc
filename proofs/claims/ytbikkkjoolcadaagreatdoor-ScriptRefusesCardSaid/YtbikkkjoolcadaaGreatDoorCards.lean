/-
  DERIVED. GIVEN WITH THE SEED: THE CARDS: each row of YtbikkkjoolcadaaGreatDoorRows.lean that lists a variable, with what it lists TIED to the program's text (the seventh form; the later family's looks); each row that meets fmt, with fmt's text TOLD by the authors' own Lean function (tested against real Go, not proved from fmt's source: count such statements apart). THE CARD IS WHAT COUNTS. Prove the row's statement (the work); the ties are given (YtbikkkjoolcadaaGreatDoorTie.lean); close each card by the builder's one call (the guide's Derived/Test/ToyasCard.lean, 'card_holds'). Laid BY PROGRAM, IN A SANDBOX (cutbox-door.mjs). By AI agents, Wed Nov 11 2026. No macro, syntax, notation, axiom, sorry.
-/
import Derived.Test.YtbikkkjoolcadaaGreatDoorRows
import GoSem.ClaimSeven
namespace Go.Proofs.YtbikkkjoolcadaaGreatDoor
namespace Rows

/-- THE TIED CARD OF 'rialtolaw25.ScriptErrors'. -/
def scriptErrorsCard : Claim7 := { stood := { row := scriptErrorsRow, standIns := [], harness := (true, "71980b5cbfb1a593e14ac93aa96e066576f871cf83f17abbc336e4cdffe9118a"), looks := true }, kinds := [], alts := [], laidByText := true, laidKinds := [.sentinel, .sentinel, .data, .data, .data, .handle, .pinned, .data], laidTests := true, laidLooks := .later }
def ScriptErrorsCardSaid : Prop := Claim7.holds Tryz.pinned (.plain (OpenSpec.ofChange scriptErrorsSpec)) scriptErrorsCard

/-- THE TIED CARD OF 'rialtolaw25.ScriptRefuses'. -/
def scriptRefusesCard : Claim7 := { stood := { row := scriptRefusesRow, standIns := [], harness := (true, "71980b5cbfb1a593e14ac93aa96e066576f871cf83f17abbc336e4cdffe9118a"), looks := true }, kinds := [], alts := [], laidByText := true, laidKinds := [.sentinel, .sentinel, .data, .data, .data, .handle, .pinned, .data], laidTests := true, laidLooks := .later }
def ScriptRefusesCardSaid : Prop := Claim7.holds Tryz.pinned (.plain (OpenSpec.ofChange scriptRefusesSpec)) scriptRefusesCard

/-- THE SECOND FORM's CARD OF 'rialtolaw25.ScriptErrors'. -/
def scriptErrorsUptoCard : Claim7 := { stood := { row := scriptErrorsUptoRow, standIns := [], harness := (true, "71980b5cbfb1a593e14ac93aa96e066576f871cf83f17abbc336e4cdffe9118a"), looks := true }, kinds := [], alts := [], laidByText := true, laidKinds := [.sentinel, .sentinel, .data, .data, .data, .handle, .pinned, .data], laidTests := true, laidLooks := .later }
def ScriptErrorsUptoCardSaid : Prop := Claim7.holds Tryz.pinned (.plain (OpenSpec.upto scriptErrorsSpec)) scriptErrorsUptoCard

/-- THE SECOND FORM's CARD OF 'rialtolaw25.ScriptRefuses'. -/
def scriptRefusesUptoCard : Claim7 := { stood := { row := scriptRefusesUptoRow, standIns := [], harness := (true, "71980b5cbfb1a593e14ac93aa96e066576f871cf83f17abbc336e4cdffe9118a"), looks := true }, kinds := [], alts := [], laidByText := true, laidKinds := [.sentinel, .sentinel, .data, .data, .data, .handle, .pinned, .data], laidTests := true, laidLooks := .later }
def ScriptRefusesUptoCardSaid : Prop := Claim7.holds Tryz.pinned (.plain (OpenSpec.upto scriptRefusesSpec)) scriptRefusesUptoCard
end Rows
end Go.Proofs.YtbikkkjoolcadaaGreatDoor
