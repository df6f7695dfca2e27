/-
  DERIVED. GIVEN WITH THE SEED: THE CARDS: each row of YtnfeacnbgbggfaaGreatDoorRows.lean that lists a variable, with what it lists TIED to the program's text (the seventh form; the later family's looks); each row that meets fmt, with fmt's text TOLD by the authors' own Lean function (tested against real Go, not proved from fmt's source: count such statements apart). THE CARD IS WHAT COUNTS. Prove the row's statement (the work); the ties are given (YtnfeacnbgbggfaaGreatDoorTie.lean); close each card by the builder's one call (the guide's Derived/Test/ToyasCard.lean, 'card_holds'). Laid BY PROGRAM, IN A SANDBOX (cutbox-door.mjs). By AI agents, Wed Nov 11 2026. No macro, syntax, notation, axiom, sorry.
-/
import Derived.Test.YtnfeacnbgbggfaaGreatDoorRows
import GoSem.ClaimSeven
namespace Go.Proofs.YtnfeacnbgbggfaaGreatDoor
namespace Rows

/-- THE TIED CARD OF 'modcertlaw32.IndexReaches'. -/
def indexReachesCard : Claim7 := { stood := { row := indexReachesRow, standIns := [], harness := (true, "e7b4ff280ae9be64f648722b0fa541c102595f876f25e051c630d85286077e0b"), looks := false }, kinds := [], alts := [], laidByText := true, laidKinds := [.data, .pinned], laidTests := true, laidLooks := .later }
def IndexReachesCardSaid : Prop := Claim7.holds Tryz.pinned (.plain (OpenSpec.ofChange indexReachesSpec)) indexReachesCard

/-- THE TIED CARD OF 'modcertlaw32.IndexManifests'. -/
def indexManifestsCard : Claim7 := { stood := { row := indexManifestsRow, standIns := [], harness := (true, "e7b4ff280ae9be64f648722b0fa541c102595f876f25e051c630d85286077e0b"), looks := false }, kinds := [], alts := [], laidByText := true, laidKinds := [.data, .pinned], laidTests := true, laidLooks := .later }
def IndexManifestsCardSaid : Prop := Claim7.holds Tryz.pinned (.plain (OpenSpec.ofChange indexManifestsSpec)) indexManifestsCard

/-- THE TIED CARD OF 'modcertlaw32.IndexReturns'. -/
def indexReturnsCard : Claim7 := { stood := { row := indexReturnsRow, standIns := [], harness := (true, "e7b4ff280ae9be64f648722b0fa541c102595f876f25e051c630d85286077e0b"), looks := false }, kinds := [], alts := [], laidByText := true, laidKinds := [.data, .pinned], laidTests := true, laidLooks := .later }
def IndexReturnsCardSaid : Prop := Claim7.holds Tryz.pinned (.plain (OpenSpec.ofChange indexReturnsSpec)) indexReturnsCard

/-- THE TIED CARD OF 'modcertlaw32.IndexClosed'. -/
def indexClosedCard : Claim7 := { stood := { row := indexClosedRow, standIns := [], harness := (true, "e7b4ff280ae9be64f648722b0fa541c102595f876f25e051c630d85286077e0b"), looks := false }, kinds := [], alts := [], laidByText := true, laidKinds := [.data, .pinned], laidTests := true, laidLooks := .later }
def IndexClosedCardSaid : Prop := Claim7.holds Tryz.pinned (.plain (OpenSpec.ofChange indexClosedSpec)) indexClosedCard

/-- THE TIED CARD OF 'modcertlaw32.IndexSolutions'. -/
def indexSolutionsCard : Claim7 := { stood := { row := indexSolutionsRow, standIns := [], harness := (true, "e7b4ff280ae9be64f648722b0fa541c102595f876f25e051c630d85286077e0b"), looks := false }, kinds := [], alts := [], laidByText := true, laidKinds := [.data, .pinned], laidTests := true, laidLooks := .later }
def IndexSolutionsCardSaid : Prop := Claim7.holds Tryz.pinned (.plain (OpenSpec.ofChange indexSolutionsSpec)) indexSolutionsCard

/-- THE TIED CARD OF 'modcertlaw32.IndexLooks'. -/
def indexLooksCard : Claim7 := { stood := { row := indexLooksRow, standIns := [], harness := (true, "e7b4ff280ae9be64f648722b0fa541c102595f876f25e051c630d85286077e0b"), looks := false }, kinds := [], alts := [], laidByText := true, laidKinds := [.data, .pinned], laidTests := true, laidLooks := .later }
def IndexLooksCardSaid : Prop := Claim7.holds Tryz.pinned (.plain (OpenSpec.ofChange indexLooksSpec)) indexLooksCard

/-- THE SECOND FORM's CARD OF 'modcertlaw32.IndexReaches'. -/
def indexReachesUptoCard : Claim7 := { stood := { row := indexReachesUptoRow, standIns := [], harness := (true, "e7b4ff280ae9be64f648722b0fa541c102595f876f25e051c630d85286077e0b"), looks := false }, kinds := [], alts := [], laidByText := true, laidKinds := [.data, .pinned], laidTests := true, laidLooks := .later }
def IndexReachesUptoCardSaid : Prop := Claim7.holds Tryz.pinned (.plain (OpenSpec.upto indexReachesSpec)) indexReachesUptoCard

/-- THE SECOND FORM's CARD OF 'modcertlaw32.IndexManifests'. -/
def indexManifestsUptoCard : Claim7 := { stood := { row := indexManifestsUptoRow, standIns := [], harness := (true, "e7b4ff280ae9be64f648722b0fa541c102595f876f25e051c630d85286077e0b"), looks := false }, kinds := [], alts := [], laidByText := true, laidKinds := [.data, .pinned], laidTests := true, laidLooks := .later }
def IndexManifestsUptoCardSaid : Prop := Claim7.holds Tryz.pinned (.plain (OpenSpec.upto indexManifestsSpec)) indexManifestsUptoCard

/-- THE SECOND FORM's CARD OF 'modcertlaw32.IndexReturns'. -/
def indexReturnsUptoCard : Claim7 := { stood := { row := indexReturnsUptoRow, standIns := [], harness := (true, "e7b4ff280ae9be64f648722b0fa541c102595f876f25e051c630d85286077e0b"), looks := false }, kinds := [], alts := [], laidByText := true, laidKinds := [.data, .pinned], laidTests := true, laidLooks := .later }
def IndexReturnsUptoCardSaid : Prop := Claim7.holds Tryz.pinned (.plain (OpenSpec.upto indexReturnsSpec)) indexReturnsUptoCard

/-- THE SECOND FORM's CARD OF 'modcertlaw32.IndexClosed'. -/
def indexClosedUptoCard : Claim7 := { stood := { row := indexClosedUptoRow, standIns := [], harness := (true, "e7b4ff280ae9be64f648722b0fa541c102595f876f25e051c630d85286077e0b"), looks := false }, kinds := [], alts := [], laidByText := true, laidKinds := [.data, .pinned], laidTests := true, laidLooks := .later }
def IndexClosedUptoCardSaid : Prop := Claim7.holds Tryz.pinned (.plain (OpenSpec.upto indexClosedSpec)) indexClosedUptoCard

/-- THE SECOND FORM's CARD OF 'modcertlaw32.IndexSolutions'. -/
def indexSolutionsUptoCard : Claim7 := { stood := { row := indexSolutionsUptoRow, standIns := [], harness := (true, "e7b4ff280ae9be64f648722b0fa541c102595f876f25e051c630d85286077e0b"), looks := false }, kinds := [], alts := [], laidByText := true, laidKinds := [.data, .pinned], laidTests := true, laidLooks := .later }
def IndexSolutionsUptoCardSaid : Prop := Claim7.holds Tryz.pinned (.plain (OpenSpec.upto indexSolutionsSpec)) indexSolutionsUptoCard

/-- THE SECOND FORM's CARD OF 'modcertlaw32.IndexLooks'. -/
def indexLooksUptoCard : Claim7 := { stood := { row := indexLooksUptoRow, standIns := [], harness := (true, "e7b4ff280ae9be64f648722b0fa541c102595f876f25e051c630d85286077e0b"), looks := false }, kinds := [], alts := [], laidByText := true, laidKinds := [.data, .pinned], laidTests := true, laidLooks := .later }
def IndexLooksUptoCardSaid : Prop := Claim7.holds Tryz.pinned (.plain (OpenSpec.upto indexLooksSpec)) indexLooksUptoCard
end Rows
end Go.Proofs.YtnfeacnbgbggfaaGreatDoor
