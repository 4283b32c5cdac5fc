/-
  DERIVED. GIVEN WITH THE SEED: THE CARDS: each row of YtpjfhdbkkomogaaDoorRows.lean that lists a variable, with what it lists TIED to the program's text (the seventh form; the later family's looks); each row that meets fmt, with fmt's text TOLD by the authors' own Lean function (tested against real Go, not proved from fmt's source: count such statements apart). THE CARD IS WHAT COUNTS. Prove the row's statement (the work); the ties are given (YtpjfhdbkkomogaaDoorTie.lean); close each card by the builder's one call (the guide's Derived/Test/ToyasCard.lean, 'card_holds'). Laid BY PROGRAM, IN A SANDBOX (cutbox-door.mjs). By AI agents, Wed Nov 11 2026. No macro, syntax, notation, axiom, sorry.
-/
import Derived.Test.YtpjfhdbkkomogaaDoorRows
import GoSem.ClaimSeven
namespace Go.Proofs.YtpjfhdbkkomogaaDoor
namespace Rows

/-- THE TIED CARD OF 'rialtolaw4.TextTells'. -/
def textTellsCard : Claim7 := { stood := { row := textTellsRow, standIns := [], harness := (true, "1f9eaefb30ae04a08a5f3336e3534e72e1b206758b732c5ff1834556c7cbf4b7"), looks := true }, kinds := [], alts := [], laidByText := true, laidKinds := [.data, .data, .data, .sentinel, .sentinel], laidTests := true, laidLooks := .later }
def TextTellsCardSaid : Prop := Claim7.holds Tryd.pinned (.plain (OpenSpec.ofChange textTellsSpec)) textTellsCard

/-- THE TIED CARD OF 'rialtolaw4.TextBack'. -/
def textBackCard : Claim7 := { stood := { row := textBackRow, standIns := [], harness := (true, "1f9eaefb30ae04a08a5f3336e3534e72e1b206758b732c5ff1834556c7cbf4b7"), looks := true }, kinds := [], alts := [], laidByText := true, laidKinds := [.data, .data, .data, .sentinel, .sentinel], laidTests := true, laidLooks := .later }
def TextBackCardSaid : Prop := Claim7.holds Tryd.pinned (.plain (OpenSpec.ofChange textBackSpec)) textBackCard

/-- THE TIED CARD OF 'rialtolaw4.TextInts'. -/
def textIntsCard : Claim7 := { stood := { row := textIntsRow, standIns := [], harness := (true, "1f9eaefb30ae04a08a5f3336e3534e72e1b206758b732c5ff1834556c7cbf4b7"), looks := true }, kinds := [], alts := [], laidByText := true, laidKinds := [.data, .data, .data, .sentinel, .sentinel], laidTests := true, laidLooks := .later }
def TextIntsCardSaid : Prop := Claim7.holds Tryd.pinned (.plain (OpenSpec.ofChange textIntsSpec)) textIntsCard

/-- THE TIED CARD OF 'rialtolaw4.TextFloats'. -/
def textFloatsCard : Claim7 := { stood := { row := textFloatsRow, standIns := [], harness := (true, "1f9eaefb30ae04a08a5f3336e3534e72e1b206758b732c5ff1834556c7cbf4b7"), looks := true }, kinds := [], alts := [], laidByText := true, laidKinds := [.data, .data, .data, .sentinel, .sentinel], laidTests := true, laidLooks := .later }
def TextFloatsCardSaid : Prop := Claim7.holds Tryd.pinned (.plain (OpenSpec.ofChange textFloatsSpec)) textFloatsCard

/-- THE TIED CARD OF 'rialtolaw4.TextQuotes'. -/
def textQuotesCard : Claim7 := { stood := { row := textQuotesRow, standIns := [], harness := (true, "1f9eaefb30ae04a08a5f3336e3534e72e1b206758b732c5ff1834556c7cbf4b7"), looks := true }, kinds := [], alts := [], laidByText := true, laidKinds := [.data, .data, .data, .sentinel, .sentinel], laidTests := true, laidLooks := .later }
def TextQuotesCardSaid : Prop := Claim7.holds Tryd.pinned (.plain (OpenSpec.ofChange textQuotesSpec)) textQuotesCard

/-- THE SECOND FORM's CARD OF 'rialtolaw4.TextTells'. -/
def textTellsUptoCard : Claim7 := { stood := { row := textTellsUptoRow, standIns := [], harness := (true, "1f9eaefb30ae04a08a5f3336e3534e72e1b206758b732c5ff1834556c7cbf4b7"), looks := true }, kinds := [], alts := [], laidByText := true, laidKinds := [.data, .data, .data, .sentinel, .sentinel], laidTests := true, laidLooks := .later }
def TextTellsUptoCardSaid : Prop := Claim7.holds Tryd.pinned (.plain (OpenSpec.upto textTellsSpec)) textTellsUptoCard

/-- THE SECOND FORM's CARD OF 'rialtolaw4.TextBack'. -/
def textBackUptoCard : Claim7 := { stood := { row := textBackUptoRow, standIns := [], harness := (true, "1f9eaefb30ae04a08a5f3336e3534e72e1b206758b732c5ff1834556c7cbf4b7"), looks := true }, kinds := [], alts := [], laidByText := true, laidKinds := [.data, .data, .data, .sentinel, .sentinel], laidTests := true, laidLooks := .later }
def TextBackUptoCardSaid : Prop := Claim7.holds Tryd.pinned (.plain (OpenSpec.upto textBackSpec)) textBackUptoCard

/-- THE SECOND FORM's CARD OF 'rialtolaw4.TextInts'. -/
def textIntsUptoCard : Claim7 := { stood := { row := textIntsUptoRow, standIns := [], harness := (true, "1f9eaefb30ae04a08a5f3336e3534e72e1b206758b732c5ff1834556c7cbf4b7"), looks := true }, kinds := [], alts := [], laidByText := true, laidKinds := [.data, .data, .data, .sentinel, .sentinel], laidTests := true, laidLooks := .later }
def TextIntsUptoCardSaid : Prop := Claim7.holds Tryd.pinned (.plain (OpenSpec.upto textIntsSpec)) textIntsUptoCard

/-- THE SECOND FORM's CARD OF 'rialtolaw4.TextFloats'. -/
def textFloatsUptoCard : Claim7 := { stood := { row := textFloatsUptoRow, standIns := [], harness := (true, "1f9eaefb30ae04a08a5f3336e3534e72e1b206758b732c5ff1834556c7cbf4b7"), looks := true }, kinds := [], alts := [], laidByText := true, laidKinds := [.data, .data, .data, .sentinel, .sentinel], laidTests := true, laidLooks := .later }
def TextFloatsUptoCardSaid : Prop := Claim7.holds Tryd.pinned (.plain (OpenSpec.upto textFloatsSpec)) textFloatsUptoCard

/-- THE SECOND FORM's CARD OF 'rialtolaw4.TextQuotes'. -/
def textQuotesUptoCard : Claim7 := { stood := { row := textQuotesUptoRow, standIns := [], harness := (true, "1f9eaefb30ae04a08a5f3336e3534e72e1b206758b732c5ff1834556c7cbf4b7"), looks := true }, kinds := [], alts := [], laidByText := true, laidKinds := [.data, .data, .data, .sentinel, .sentinel], laidTests := true, laidLooks := .later }
def TextQuotesUptoCardSaid : Prop := Claim7.holds Tryd.pinned (.plain (OpenSpec.upto textQuotesSpec)) textQuotesUptoCard
end Rows
end Go.Proofs.YtpjfhdbkkomogaaDoor
