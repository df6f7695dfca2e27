/-
  DERIVED. GIVEN WITH THE SEED: THE CARDS: each row of YtcajnfkkokeeeaaGreatDoorRows.lean that lists a variable, with what it lists TIED to the program's text (the seventh form; the later family's looks); each row that meets fmt, with fmt's text TOLD by the authors' own Lean function (tested against real Go, not proved from fmt's source: count such statements apart). THE CARD IS WHAT COUNTS. Prove the row's statement (the work); the ties are given (YtcajnfkkokeeeaaGreatDoorTie.lean); close each card by the builder's one call (the guide's Derived/Test/ToyasCard.lean, 'card_holds'). Laid BY PROGRAM, IN A SANDBOX (cutbox-door.mjs). By AI agents, Wed Nov 11 2026. No macro, syntax, notation, axiom, sorry.
-/
import Derived.Test.YtcajnfkkokeeeaaGreatDoorRows
import GoSem.ClaimSeven
namespace Go.Proofs.YtcajnfkkokeeeaaGreatDoor
namespace Rows

/-- THE TIED CARD OF 'modcertlaw27.DeprecateParts'. -/
def deprecatePartsCard : Claim7 := { stood := { row := deprecatePartsRow, standIns := [], harness := (true, "a719ca8f5add0b6691884bf5be6b3fe5e11e7b212dd1bdce53800e4cae630149"), looks := false }, kinds := [], alts := [], laidByText := true, laidKinds := [.data, .pinned], laidTests := true, laidLooks := .later }
def DeprecatePartsCardSaid : Prop := Claim7.holds Tryz.pinned (.plain (OpenSpec.ofChange deprecatePartsSpec)) deprecatePartsCard

/-- THE TIED CARD OF 'modcertlaw27.DeprecateRemoves'. -/
def deprecateRemovesCard : Claim7 := { stood := { row := deprecateRemovesRow, standIns := [], harness := (true, "a719ca8f5add0b6691884bf5be6b3fe5e11e7b212dd1bdce53800e4cae630149"), looks := false }, kinds := [], alts := [], laidByText := true, laidKinds := [.data, .pinned], laidTests := true, laidLooks := .later }
def DeprecateRemovesCardSaid : Prop := Claim7.holds Tryz.pinned (.plain (OpenSpec.ofChange deprecateRemovesSpec)) deprecateRemovesCard

/-- THE SECOND FORM's CARD OF 'modcertlaw27.DeprecateParts'. -/
def deprecatePartsUptoCard : Claim7 := { stood := { row := deprecatePartsUptoRow, standIns := [], harness := (true, "a719ca8f5add0b6691884bf5be6b3fe5e11e7b212dd1bdce53800e4cae630149"), looks := false }, kinds := [], alts := [], laidByText := true, laidKinds := [.data, .pinned], laidTests := true, laidLooks := .later }
def DeprecatePartsUptoCardSaid : Prop := Claim7.holds Tryz.pinned (.plain (OpenSpec.upto deprecatePartsSpec)) deprecatePartsUptoCard

/-- THE SECOND FORM's CARD OF 'modcertlaw27.DeprecateRemoves'. -/
def deprecateRemovesUptoCard : Claim7 := { stood := { row := deprecateRemovesUptoRow, standIns := [], harness := (true, "a719ca8f5add0b6691884bf5be6b3fe5e11e7b212dd1bdce53800e4cae630149"), looks := false }, kinds := [], alts := [], laidByText := true, laidKinds := [.data, .pinned], laidTests := true, laidLooks := .later }
def DeprecateRemovesUptoCardSaid : Prop := Claim7.holds Tryz.pinned (.plain (OpenSpec.upto deprecateRemovesSpec)) deprecateRemovesUptoCard
end Rows
end Go.Proofs.YtcajnfkkokeeeaaGreatDoor
