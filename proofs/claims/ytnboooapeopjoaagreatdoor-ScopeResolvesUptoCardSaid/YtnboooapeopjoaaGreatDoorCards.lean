/-
  DERIVED. GIVEN WITH THE SEED: THE CARDS: each row of YtnboooapeopjoaaGreatDoorRows.lean that lists a variable, with what it lists TIED to the program's text (the seventh form; the later family's looks); each row that meets fmt, with fmt's text TOLD by the authors' own Lean function (tested against real Go, not proved from fmt's source: count such statements apart). THE CARD IS WHAT COUNTS. Prove the row's statement (the work); the ties are given (YtnboooapeopjoaaGreatDoorTie.lean); close each card by the builder's one call (the guide's Derived/Test/ToyasCard.lean, 'card_holds'). Laid BY PROGRAM, IN A SANDBOX (cutbox-door.mjs). By AI agents, Wed Nov 11 2026. No macro, syntax, notation, axiom, sorry.
-/
import Derived.Test.YtnboooapeopjoaaGreatDoorRows
import GoSem.ClaimSeven
namespace Go.Proofs.YtnboooapeopjoaaGreatDoor
namespace Rows

/-- THE TIED CARD OF 'modcertlaw10.ScopeResolves'. -/
def scopeResolvesCard : Claim7 := { stood := { row := scopeResolvesRow, standIns := [], harness := (true, "00406d605d061c48ef020c0e3c8b39bab3b24c356de5de18440907715a6f5833"), looks := false }, kinds := [], alts := [], laidByText := true, laidKinds := [.data, .data, .data, .data, .pinned], laidTests := true, laidLooks := .later }
def ScopeResolvesCardSaid : Prop := Claim7.holds Tryz.pinned (.plain (OpenSpec.ofChange scopeResolvesSpec)) scopeResolvesCard

/-- THE TIED CARD OF 'modcertlaw10.ScopeAbsolute'. -/
def scopeAbsoluteCard : Claim7 := { stood := { row := scopeAbsoluteRow, standIns := [], harness := (true, "00406d605d061c48ef020c0e3c8b39bab3b24c356de5de18440907715a6f5833"), looks := false }, kinds := [], alts := [], laidByText := true, laidKinds := [.data, .data, .data, .data, .pinned], laidTests := true, laidLooks := .later }
def ScopeAbsoluteCardSaid : Prop := Claim7.holds Tryz.pinned (.plain (OpenSpec.ofChange scopeAbsoluteSpec)) scopeAbsoluteCard

/-- THE TIED CARD OF 'modcertlaw10.ScopeAliases'. -/
def scopeAliasesCard : Claim7 := { stood := { row := scopeAliasesRow, standIns := [], harness := (true, "00406d605d061c48ef020c0e3c8b39bab3b24c356de5de18440907715a6f5833"), looks := false }, kinds := [], alts := [], laidByText := true, laidKinds := [.data, .data, .data, .data, .pinned], laidTests := true, laidLooks := .later }
def ScopeAliasesCardSaid : Prop := Claim7.holds Tryz.pinned (.plain (OpenSpec.ofChange scopeAliasesSpec)) scopeAliasesCard

/-- THE TIED CARD OF 'modcertlaw10.ScopeOrder'. -/
def scopeOrderCard : Claim7 := { stood := { row := scopeOrderRow, standIns := [], harness := (true, "00406d605d061c48ef020c0e3c8b39bab3b24c356de5de18440907715a6f5833"), looks := false }, kinds := [], alts := [], laidByText := true, laidKinds := [.data, .data, .data, .data, .pinned], laidTests := true, laidLooks := .later }
def ScopeOrderCardSaid : Prop := Claim7.holds Tryz.pinned (.plain (OpenSpec.ofChange scopeOrderSpec)) scopeOrderCard

/-- THE SECOND FORM's CARD OF 'modcertlaw10.ScopeResolves'. -/
def scopeResolvesUptoCard : Claim7 := { stood := { row := scopeResolvesUptoRow, standIns := [], harness := (true, "00406d605d061c48ef020c0e3c8b39bab3b24c356de5de18440907715a6f5833"), looks := false }, kinds := [], alts := [], laidByText := true, laidKinds := [.data, .data, .data, .data, .pinned], laidTests := true, laidLooks := .later }
def ScopeResolvesUptoCardSaid : Prop := Claim7.holds Tryz.pinned (.plain (OpenSpec.upto scopeResolvesSpec)) scopeResolvesUptoCard

/-- THE SECOND FORM's CARD OF 'modcertlaw10.ScopeAbsolute'. -/
def scopeAbsoluteUptoCard : Claim7 := { stood := { row := scopeAbsoluteUptoRow, standIns := [], harness := (true, "00406d605d061c48ef020c0e3c8b39bab3b24c356de5de18440907715a6f5833"), looks := false }, kinds := [], alts := [], laidByText := true, laidKinds := [.data, .data, .data, .data, .pinned], laidTests := true, laidLooks := .later }
def ScopeAbsoluteUptoCardSaid : Prop := Claim7.holds Tryz.pinned (.plain (OpenSpec.upto scopeAbsoluteSpec)) scopeAbsoluteUptoCard

/-- THE SECOND FORM's CARD OF 'modcertlaw10.ScopeAliases'. -/
def scopeAliasesUptoCard : Claim7 := { stood := { row := scopeAliasesUptoRow, standIns := [], harness := (true, "00406d605d061c48ef020c0e3c8b39bab3b24c356de5de18440907715a6f5833"), looks := false }, kinds := [], alts := [], laidByText := true, laidKinds := [.data, .data, .data, .data, .pinned], laidTests := true, laidLooks := .later }
def ScopeAliasesUptoCardSaid : Prop := Claim7.holds Tryz.pinned (.plain (OpenSpec.upto scopeAliasesSpec)) scopeAliasesUptoCard

/-- THE SECOND FORM's CARD OF 'modcertlaw10.ScopeOrder'. -/
def scopeOrderUptoCard : Claim7 := { stood := { row := scopeOrderUptoRow, standIns := [], harness := (true, "00406d605d061c48ef020c0e3c8b39bab3b24c356de5de18440907715a6f5833"), looks := false }, kinds := [], alts := [], laidByText := true, laidKinds := [.data, .data, .data, .data, .pinned], laidTests := true, laidLooks := .later }
def ScopeOrderUptoCardSaid : Prop := Claim7.holds Tryz.pinned (.plain (OpenSpec.upto scopeOrderSpec)) scopeOrderUptoCard
end Rows
end Go.Proofs.YtnboooapeopjoaaGreatDoor
