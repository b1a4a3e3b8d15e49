/-
  DERIVED. GIVEN WITH THE SEED: THE CARDS: each row of YtdmmgeggljlceaaDoorRows.lean that lists a variable, with what it lists TIED to the program's text (the seventh form; the later family's looks); each row that meets fmt, with fmt's text TOLD by the authors' own Lean function (tested against real Go, not proved from fmt's source: count such statements apart). THE CARD IS WHAT COUNTS. Prove the row's statement (the work); the ties are given (YtdmmgeggljlceaaDoorTie.lean); close each card by the builder's one call (the guide's Derived/Test/ToyasCard.lean, 'card_holds'). Laid BY PROGRAM, IN A SANDBOX (cutbox-door.mjs). By AI agents, Wed Nov 11 2026. No macro, syntax, notation, axiom, sorry.
-/
import Derived.Test.YtdmmgeggljlceaaDoorRows
import GoSem.ClaimSeven
namespace Go.Proofs.YtdmmgeggljlceaaDoor
namespace Rows

/-- THE TIED CARD OF 'switchyardlaw06.ValueRights'. -/
def valueRightsCard : Claim7 := { stood := { row := valueRightsRow, standIns := [], harness := (true, "4217ac3d9a386417f05a36520f5f6a1bf1c8cb3f11235e2b184399bf5f78575d"), looks := false }, kinds := [], alts := [], laidByText := true, laidKinds := [.data, .data, .data], laidTests := true, laidLooks := .later }
def ValueRightsCardSaid : Prop := Claim7.holds Tryd.pinned (.plain (OpenSpec.ofChange valueRightsSpec)) valueRightsCard

/-- THE TIED CARD OF 'switchyardlaw06.ValueKeys'. -/
def valueKeysCard : Claim7 := { stood := { row := valueKeysRow, standIns := [], harness := (true, "4217ac3d9a386417f05a36520f5f6a1bf1c8cb3f11235e2b184399bf5f78575d"), looks := false }, kinds := [], alts := [], laidByText := true, laidKinds := [.data, .data, .data], laidTests := true, laidLooks := .later }
def ValueKeysCardSaid : Prop := Claim7.holds Tryd.pinned (.plain (OpenSpec.ofChange valueKeysSpec)) valueKeysCard

/-- THE TIED CARD OF 'switchyardlaw06.ValueNames'. -/
def valueNamesCard : Claim7 := { stood := { row := valueNamesRow, standIns := [], harness := (true, "4217ac3d9a386417f05a36520f5f6a1bf1c8cb3f11235e2b184399bf5f78575d"), looks := false }, kinds := [], alts := [], laidByText := true, laidKinds := [.data, .data, .data], laidTests := true, laidLooks := .later }
def ValueNamesCardSaid : Prop := Claim7.holds Tryd.pinned (.plain (OpenSpec.ofChange valueNamesSpec)) valueNamesCard

/-- THE TIED CARD OF 'switchyardlaw06.ValuePrints'. -/
def valuePrintsCard : Claim7 := { stood := { row := valuePrintsRow, standIns := [], harness := (true, "4217ac3d9a386417f05a36520f5f6a1bf1c8cb3f11235e2b184399bf5f78575d"), looks := false }, kinds := [], alts := [], laidByText := true, laidKinds := [.data, .data, .data], laidTests := true, laidLooks := .later }
def ValuePrintsCardSaid : Prop := Claim7.holds Tryd.pinned (.plain (OpenSpec.ofChange valuePrintsSpec)) valuePrintsCard

/-- THE TIED CARD OF 'switchyardlaw06.ValueRanks'. -/
def valueRanksCard : Claim7 := { stood := { row := valueRanksRow, standIns := [], harness := (true, "4217ac3d9a386417f05a36520f5f6a1bf1c8cb3f11235e2b184399bf5f78575d"), looks := false }, kinds := [], alts := [], laidByText := true, laidKinds := [.data, .data, .data], laidTests := true, laidLooks := .later }
def ValueRanksCardSaid : Prop := Claim7.holds Tryd.pinned (.plain (OpenSpec.ofChange valueRanksSpec)) valueRanksCard

/-- THE TIED CARD OF 'switchyardlaw06.ValueLists'. -/
def valueListsCard : Claim7 := { stood := { row := valueListsRow, standIns := [], harness := (true, "4217ac3d9a386417f05a36520f5f6a1bf1c8cb3f11235e2b184399bf5f78575d"), looks := false }, kinds := [], alts := [], laidByText := true, laidKinds := [.data, .data, .data], laidTests := true, laidLooks := .later }
def ValueListsCardSaid : Prop := Claim7.holds Tryd.pinned (.plain (OpenSpec.ofChange valueListsSpec)) valueListsCard

/-- THE TIED CARD OF 'switchyardlaw06.ValueOrders'. -/
def valueOrdersCard : Claim7 := { stood := { row := valueOrdersRow, standIns := [], harness := (true, "4217ac3d9a386417f05a36520f5f6a1bf1c8cb3f11235e2b184399bf5f78575d"), looks := false }, kinds := [], alts := [], laidByText := true, laidKinds := [.data, .data, .data], laidTests := true, laidLooks := .later }
def ValueOrdersCardSaid : Prop := Claim7.holds Tryd.pinned (.plain (OpenSpec.ofChange valueOrdersSpec)) valueOrdersCard

/-- THE SECOND FORM's CARD OF 'switchyardlaw06.ValueRights'. -/
def valueRightsUptoCard : Claim7 := { stood := { row := valueRightsUptoRow, standIns := [], harness := (true, "4217ac3d9a386417f05a36520f5f6a1bf1c8cb3f11235e2b184399bf5f78575d"), looks := false }, kinds := [], alts := [], laidByText := true, laidKinds := [.data, .data, .data], laidTests := true, laidLooks := .later }
def ValueRightsUptoCardSaid : Prop := Claim7.holds Tryd.pinned (.plain (OpenSpec.upto valueRightsSpec)) valueRightsUptoCard

/-- THE SECOND FORM's CARD OF 'switchyardlaw06.ValueKeys'. -/
def valueKeysUptoCard : Claim7 := { stood := { row := valueKeysUptoRow, standIns := [], harness := (true, "4217ac3d9a386417f05a36520f5f6a1bf1c8cb3f11235e2b184399bf5f78575d"), looks := false }, kinds := [], alts := [], laidByText := true, laidKinds := [.data, .data, .data], laidTests := true, laidLooks := .later }
def ValueKeysUptoCardSaid : Prop := Claim7.holds Tryd.pinned (.plain (OpenSpec.upto valueKeysSpec)) valueKeysUptoCard

/-- THE SECOND FORM's CARD OF 'switchyardlaw06.ValueNames'. -/
def valueNamesUptoCard : Claim7 := { stood := { row := valueNamesUptoRow, standIns := [], harness := (true, "4217ac3d9a386417f05a36520f5f6a1bf1c8cb3f11235e2b184399bf5f78575d"), looks := false }, kinds := [], alts := [], laidByText := true, laidKinds := [.data, .data, .data], laidTests := true, laidLooks := .later }
def ValueNamesUptoCardSaid : Prop := Claim7.holds Tryd.pinned (.plain (OpenSpec.upto valueNamesSpec)) valueNamesUptoCard

/-- THE SECOND FORM's CARD OF 'switchyardlaw06.ValuePrints'. -/
def valuePrintsUptoCard : Claim7 := { stood := { row := valuePrintsUptoRow, standIns := [], harness := (true, "4217ac3d9a386417f05a36520f5f6a1bf1c8cb3f11235e2b184399bf5f78575d"), looks := false }, kinds := [], alts := [], laidByText := true, laidKinds := [.data, .data, .data], laidTests := true, laidLooks := .later }
def ValuePrintsUptoCardSaid : Prop := Claim7.holds Tryd.pinned (.plain (OpenSpec.upto valuePrintsSpec)) valuePrintsUptoCard

/-- THE SECOND FORM's CARD OF 'switchyardlaw06.ValueRanks'. -/
def valueRanksUptoCard : Claim7 := { stood := { row := valueRanksUptoRow, standIns := [], harness := (true, "4217ac3d9a386417f05a36520f5f6a1bf1c8cb3f11235e2b184399bf5f78575d"), looks := false }, kinds := [], alts := [], laidByText := true, laidKinds := [.data, .data, .data], laidTests := true, laidLooks := .later }
def ValueRanksUptoCardSaid : Prop := Claim7.holds Tryd.pinned (.plain (OpenSpec.upto valueRanksSpec)) valueRanksUptoCard

/-- THE SECOND FORM's CARD OF 'switchyardlaw06.ValueLists'. -/
def valueListsUptoCard : Claim7 := { stood := { row := valueListsUptoRow, standIns := [], harness := (true, "4217ac3d9a386417f05a36520f5f6a1bf1c8cb3f11235e2b184399bf5f78575d"), looks := false }, kinds := [], alts := [], laidByText := true, laidKinds := [.data, .data, .data], laidTests := true, laidLooks := .later }
def ValueListsUptoCardSaid : Prop := Claim7.holds Tryd.pinned (.plain (OpenSpec.upto valueListsSpec)) valueListsUptoCard

/-- THE SECOND FORM's CARD OF 'switchyardlaw06.ValueOrders'. -/
def valueOrdersUptoCard : Claim7 := { stood := { row := valueOrdersUptoRow, standIns := [], harness := (true, "4217ac3d9a386417f05a36520f5f6a1bf1c8cb3f11235e2b184399bf5f78575d"), looks := false }, kinds := [], alts := [], laidByText := true, laidKinds := [.data, .data, .data], laidTests := true, laidLooks := .later }
def ValueOrdersUptoCardSaid : Prop := Claim7.holds Tryd.pinned (.plain (OpenSpec.upto valueOrdersSpec)) valueOrdersUptoCard
end Rows
end Go.Proofs.YtdmmgeggljlceaaDoor
