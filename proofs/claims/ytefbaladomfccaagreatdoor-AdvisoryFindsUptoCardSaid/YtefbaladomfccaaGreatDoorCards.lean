/-
  DERIVED. GIVEN WITH THE SEED: THE CARDS: each row of YtefbaladomfccaaGreatDoorRows.lean that lists a variable, with what it lists TIED to the program's text (the seventh form; the later family's looks); each row that meets fmt, with fmt's text TOLD by the authors' own Lean function (tested against real Go, not proved from fmt's source: count such statements apart). THE CARD IS WHAT COUNTS. Prove the row's statement (the work); the ties are given (YtefbaladomfccaaGreatDoorTie.lean); close each card by the builder's one call (the guide's Derived/Test/ToyasCard.lean, 'card_holds'). Laid BY PROGRAM, IN A SANDBOX (cutbox-door.mjs). By AI agents, Wed Nov 11 2026. No macro, syntax, notation, axiom, sorry.
-/
import Derived.Test.YtefbaladomfccaaGreatDoorRows
import GoSem.ClaimSeven
namespace Go.Proofs.YtefbaladomfccaaGreatDoor
namespace Rows

/-- THE TIED CARD OF 'modcertlaw42.AdvisoryFinds'. -/
def advisoryFindsCard : Claim7 := { stood := { row := advisoryFindsRow, standIns := [], harness := (true, "287997f13622dcf4e9b9c8f1d6f41e5109139b84fe1ec637306604f95fc77b74"), looks := false }, kinds := [], alts := [], laidByText := true, laidKinds := [.data, .pinned], laidTests := true, laidLooks := .later }
def AdvisoryFindsCardSaid : Prop := Claim7.holds Tryz.pinned (.plain (OpenSpec.ofChange advisoryFindsSpec)) advisoryFindsCard

/-- THE TIED CARD OF 'modcertlaw42.AdvisoryFixes'. -/
def advisoryFixesCard : Claim7 := { stood := { row := advisoryFixesRow, standIns := [], harness := (true, "287997f13622dcf4e9b9c8f1d6f41e5109139b84fe1ec637306604f95fc77b74"), looks := false }, kinds := [], alts := [], laidByText := true, laidKinds := [.data, .pinned], laidTests := true, laidLooks := .later }
def AdvisoryFixesCardSaid : Prop := Claim7.holds Tryz.pinned (.plain (OpenSpec.ofChange advisoryFixesSpec)) advisoryFixesCard

/-- THE TIED CARD OF 'modcertlaw42.AdvisoryAvoids'. -/
def advisoryAvoidsCard : Claim7 := { stood := { row := advisoryAvoidsRow, standIns := [], harness := (true, "287997f13622dcf4e9b9c8f1d6f41e5109139b84fe1ec637306604f95fc77b74"), looks := false }, kinds := [], alts := [], laidByText := true, laidKinds := [.data, .pinned], laidTests := true, laidLooks := .later }
def AdvisoryAvoidsCardSaid : Prop := Claim7.holds Tryz.pinned (.plain (OpenSpec.ofChange advisoryAvoidsSpec)) advisoryAvoidsCard

/-- THE TIED CARD OF 'modcertlaw42.AdvisoryUses'. -/
def advisoryUsesCard : Claim7 := { stood := { row := advisoryUsesRow, standIns := [], harness := (true, "287997f13622dcf4e9b9c8f1d6f41e5109139b84fe1ec637306604f95fc77b74"), looks := false }, kinds := [], alts := [], laidByText := true, laidKinds := [.data, .pinned], laidTests := true, laidLooks := .later }
def AdvisoryUsesCardSaid : Prop := Claim7.holds Tryz.pinned (.plain (OpenSpec.ofChange advisoryUsesSpec)) advisoryUsesCard

/-- THE TIED CARD OF 'modcertlaw42.AdvisoryChains'. -/
def advisoryChainsCard : Claim7 := { stood := { row := advisoryChainsRow, standIns := [], harness := (true, "287997f13622dcf4e9b9c8f1d6f41e5109139b84fe1ec637306604f95fc77b74"), looks := false }, kinds := [], alts := [], laidByText := true, laidKinds := [.data, .pinned], laidTests := true, laidLooks := .later }
def AdvisoryChainsCardSaid : Prop := Claim7.holds Tryz.pinned (.plain (OpenSpec.ofChange advisoryChainsSpec)) advisoryChainsCard

/-- THE SECOND FORM's CARD OF 'modcertlaw42.AdvisoryFinds'. -/
def advisoryFindsUptoCard : Claim7 := { stood := { row := advisoryFindsUptoRow, standIns := [], harness := (true, "287997f13622dcf4e9b9c8f1d6f41e5109139b84fe1ec637306604f95fc77b74"), looks := false }, kinds := [], alts := [], laidByText := true, laidKinds := [.data, .pinned], laidTests := true, laidLooks := .later }
def AdvisoryFindsUptoCardSaid : Prop := Claim7.holds Tryz.pinned (.plain (OpenSpec.upto advisoryFindsSpec)) advisoryFindsUptoCard

/-- THE SECOND FORM's CARD OF 'modcertlaw42.AdvisoryFixes'. -/
def advisoryFixesUptoCard : Claim7 := { stood := { row := advisoryFixesUptoRow, standIns := [], harness := (true, "287997f13622dcf4e9b9c8f1d6f41e5109139b84fe1ec637306604f95fc77b74"), looks := false }, kinds := [], alts := [], laidByText := true, laidKinds := [.data, .pinned], laidTests := true, laidLooks := .later }
def AdvisoryFixesUptoCardSaid : Prop := Claim7.holds Tryz.pinned (.plain (OpenSpec.upto advisoryFixesSpec)) advisoryFixesUptoCard

/-- THE SECOND FORM's CARD OF 'modcertlaw42.AdvisoryAvoids'. -/
def advisoryAvoidsUptoCard : Claim7 := { stood := { row := advisoryAvoidsUptoRow, standIns := [], harness := (true, "287997f13622dcf4e9b9c8f1d6f41e5109139b84fe1ec637306604f95fc77b74"), looks := false }, kinds := [], alts := [], laidByText := true, laidKinds := [.data, .pinned], laidTests := true, laidLooks := .later }
def AdvisoryAvoidsUptoCardSaid : Prop := Claim7.holds Tryz.pinned (.plain (OpenSpec.upto advisoryAvoidsSpec)) advisoryAvoidsUptoCard

/-- THE SECOND FORM's CARD OF 'modcertlaw42.AdvisoryUses'. -/
def advisoryUsesUptoCard : Claim7 := { stood := { row := advisoryUsesUptoRow, standIns := [], harness := (true, "287997f13622dcf4e9b9c8f1d6f41e5109139b84fe1ec637306604f95fc77b74"), looks := false }, kinds := [], alts := [], laidByText := true, laidKinds := [.data, .pinned], laidTests := true, laidLooks := .later }
def AdvisoryUsesUptoCardSaid : Prop := Claim7.holds Tryz.pinned (.plain (OpenSpec.upto advisoryUsesSpec)) advisoryUsesUptoCard

/-- THE SECOND FORM's CARD OF 'modcertlaw42.AdvisoryChains'. -/
def advisoryChainsUptoCard : Claim7 := { stood := { row := advisoryChainsUptoRow, standIns := [], harness := (true, "287997f13622dcf4e9b9c8f1d6f41e5109139b84fe1ec637306604f95fc77b74"), looks := false }, kinds := [], alts := [], laidByText := true, laidKinds := [.data, .pinned], laidTests := true, laidLooks := .later }
def AdvisoryChainsUptoCardSaid : Prop := Claim7.holds Tryz.pinned (.plain (OpenSpec.upto advisoryChainsSpec)) advisoryChainsUptoCard
end Rows
end Go.Proofs.YtefbaladomfccaaGreatDoor
