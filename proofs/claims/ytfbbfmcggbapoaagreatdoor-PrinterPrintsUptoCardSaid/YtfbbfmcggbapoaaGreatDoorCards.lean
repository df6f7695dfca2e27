/-
  DERIVED. GIVEN WITH THE SEED: THE CARDS: each row of YtfbbfmcggbapoaaGreatDoorRows.lean that lists a variable, with what it lists TIED to the program's text (the seventh form; the later family's looks); each row that meets fmt, with fmt's text TOLD by the authors' own Lean function (tested against real Go, not proved from fmt's source: count such statements apart). THE CARD IS WHAT COUNTS. Prove the row's statement (the work); the ties are given (YtfbbfmcggbapoaaGreatDoorTie.lean); close each card by the builder's one call (the guide's Derived/Test/ToyasCard.lean, 'card_holds'). Laid BY PROGRAM, IN A SANDBOX (cutbox-door.mjs). By AI agents, Wed Nov 11 2026. No macro, syntax, notation, axiom, sorry.
-/
import Derived.Test.YtfbbfmcggbapoaaGreatDoorRows
import GoSem.ClaimSeven
namespace Go.Proofs.YtfbbfmcggbapoaaGreatDoor
namespace Rows

/-- THE TIED CARD OF 'modcertlaw06.PrinterPrints'. -/
def printerPrintsCard : Claim7 := { stood := { row := printerPrintsRow, standIns := [], harness := (true, "d56dcf2441fbc131158497eacc9b746b071f8efb5db858bfefd18fa149529516"), looks := false }, kinds := [], alts := [], laidByText := true, laidKinds := [.data, .data, .data, .data, .pinned], laidTests := true, laidLooks := .later }
def PrinterPrintsCardSaid : Prop := Claim7.holds Tryz.pinned (.plain (OpenSpec.ofChange printerPrintsSpec)) printerPrintsCard

/-- THE TIED CARD OF 'modcertlaw06.PrinterReturns'. -/
def printerReturnsCard : Claim7 := { stood := { row := printerReturnsRow, standIns := [], harness := (true, "d56dcf2441fbc131158497eacc9b746b071f8efb5db858bfefd18fa149529516"), looks := false }, kinds := [], alts := [], laidByText := true, laidKinds := [.data, .data, .data, .data, .pinned], laidTests := true, laidLooks := .later }
def PrinterReturnsCardSaid : Prop := Claim7.holds Tryz.pinned (.plain (OpenSpec.ofChange printerReturnsSpec)) printerReturnsCard

/-- THE TIED CARD OF 'modcertlaw06.PrinterStable'. -/
def printerStableCard : Claim7 := { stood := { row := printerStableRow, standIns := [], harness := (true, "d56dcf2441fbc131158497eacc9b746b071f8efb5db858bfefd18fa149529516"), looks := false }, kinds := [], alts := [], laidByText := true, laidKinds := [.data, .data, .data, .data, .pinned], laidTests := true, laidLooks := .later }
def PrinterStableCardSaid : Prop := Claim7.holds Tryz.pinned (.plain (OpenSpec.ofChange printerStableSpec)) printerStableCard

/-- THE TIED CARD OF 'modcertlaw06.PrinterApart'. -/
def printerApartCard : Claim7 := { stood := { row := printerApartRow, standIns := [], harness := (true, "d56dcf2441fbc131158497eacc9b746b071f8efb5db858bfefd18fa149529516"), looks := false }, kinds := [], alts := [], laidByText := true, laidKinds := [.data, .data, .data, .data, .pinned], laidTests := true, laidLooks := .later }
def PrinterApartCardSaid : Prop := Claim7.holds Tryz.pinned (.plain (OpenSpec.ofChange printerApartSpec)) printerApartCard

/-- THE TIED CARD OF 'modcertlaw06.PrinterParentheses'. -/
def printerParenthesesCard : Claim7 := { stood := { row := printerParenthesesRow, standIns := [], harness := (true, "d56dcf2441fbc131158497eacc9b746b071f8efb5db858bfefd18fa149529516"), looks := false }, kinds := [], alts := [], laidByText := true, laidKinds := [.data, .data, .data, .data, .pinned], laidTests := true, laidLooks := .later }
def PrinterParenthesesCardSaid : Prop := Claim7.holds Tryz.pinned (.plain (OpenSpec.ofChange printerParenthesesSpec)) printerParenthesesCard

/-- THE TIED CARD OF 'modcertlaw06.PrinterRefuses'. -/
def printerRefusesCard : Claim7 := { stood := { row := printerRefusesRow, standIns := [], harness := (true, "d56dcf2441fbc131158497eacc9b746b071f8efb5db858bfefd18fa149529516"), looks := false }, kinds := [], alts := [], laidByText := true, laidKinds := [.data, .data, .data, .data, .pinned], laidTests := true, laidLooks := .later }
def PrinterRefusesCardSaid : Prop := Claim7.holds Tryz.pinned (.plain (OpenSpec.ofChange printerRefusesSpec)) printerRefusesCard

/-- THE SECOND FORM's CARD OF 'modcertlaw06.PrinterPrints'. -/
def printerPrintsUptoCard : Claim7 := { stood := { row := printerPrintsUptoRow, standIns := [], harness := (true, "d56dcf2441fbc131158497eacc9b746b071f8efb5db858bfefd18fa149529516"), looks := false }, kinds := [], alts := [], laidByText := true, laidKinds := [.data, .data, .data, .data, .pinned], laidTests := true, laidLooks := .later }
def PrinterPrintsUptoCardSaid : Prop := Claim7.holds Tryz.pinned (.plain (OpenSpec.upto printerPrintsSpec)) printerPrintsUptoCard

/-- THE SECOND FORM's CARD OF 'modcertlaw06.PrinterReturns'. -/
def printerReturnsUptoCard : Claim7 := { stood := { row := printerReturnsUptoRow, standIns := [], harness := (true, "d56dcf2441fbc131158497eacc9b746b071f8efb5db858bfefd18fa149529516"), looks := false }, kinds := [], alts := [], laidByText := true, laidKinds := [.data, .data, .data, .data, .pinned], laidTests := true, laidLooks := .later }
def PrinterReturnsUptoCardSaid : Prop := Claim7.holds Tryz.pinned (.plain (OpenSpec.upto printerReturnsSpec)) printerReturnsUptoCard

/-- THE SECOND FORM's CARD OF 'modcertlaw06.PrinterStable'. -/
def printerStableUptoCard : Claim7 := { stood := { row := printerStableUptoRow, standIns := [], harness := (true, "d56dcf2441fbc131158497eacc9b746b071f8efb5db858bfefd18fa149529516"), looks := false }, kinds := [], alts := [], laidByText := true, laidKinds := [.data, .data, .data, .data, .pinned], laidTests := true, laidLooks := .later }
def PrinterStableUptoCardSaid : Prop := Claim7.holds Tryz.pinned (.plain (OpenSpec.upto printerStableSpec)) printerStableUptoCard

/-- THE SECOND FORM's CARD OF 'modcertlaw06.PrinterApart'. -/
def printerApartUptoCard : Claim7 := { stood := { row := printerApartUptoRow, standIns := [], harness := (true, "d56dcf2441fbc131158497eacc9b746b071f8efb5db858bfefd18fa149529516"), looks := false }, kinds := [], alts := [], laidByText := true, laidKinds := [.data, .data, .data, .data, .pinned], laidTests := true, laidLooks := .later }
def PrinterApartUptoCardSaid : Prop := Claim7.holds Tryz.pinned (.plain (OpenSpec.upto printerApartSpec)) printerApartUptoCard

/-- THE SECOND FORM's CARD OF 'modcertlaw06.PrinterParentheses'. -/
def printerParenthesesUptoCard : Claim7 := { stood := { row := printerParenthesesUptoRow, standIns := [], harness := (true, "d56dcf2441fbc131158497eacc9b746b071f8efb5db858bfefd18fa149529516"), looks := false }, kinds := [], alts := [], laidByText := true, laidKinds := [.data, .data, .data, .data, .pinned], laidTests := true, laidLooks := .later }
def PrinterParenthesesUptoCardSaid : Prop := Claim7.holds Tryz.pinned (.plain (OpenSpec.upto printerParenthesesSpec)) printerParenthesesUptoCard

/-- THE SECOND FORM's CARD OF 'modcertlaw06.PrinterRefuses'. -/
def printerRefusesUptoCard : Claim7 := { stood := { row := printerRefusesUptoRow, standIns := [], harness := (true, "d56dcf2441fbc131158497eacc9b746b071f8efb5db858bfefd18fa149529516"), looks := false }, kinds := [], alts := [], laidByText := true, laidKinds := [.data, .data, .data, .data, .pinned], laidTests := true, laidLooks := .later }
def PrinterRefusesUptoCardSaid : Prop := Claim7.holds Tryz.pinned (.plain (OpenSpec.upto printerRefusesSpec)) printerRefusesUptoCard
end Rows
end Go.Proofs.YtfbbfmcggbapoaaGreatDoor
