/-
  DERIVED. GIVEN WITH THE SEED: THE CARDS: each row of YtknbebjphjpgpaaDoorRows.lean that lists a variable, with what it lists TIED to the program's text (the seventh form; the later family's looks); each row that meets fmt, with fmt's text TOLD by the authors' own Lean function (tested against real Go, not proved from fmt's source: count such statements apart). THE CARD IS WHAT COUNTS. Prove the row's statement (the work); the ties are given (YtknbebjphjpgpaaDoorTie.lean); close each card by the builder's one call (the guide's Derived/Test/ToyasCard.lean, 'card_holds'). Laid BY PROGRAM, IN A SANDBOX (cutbox-door.mjs). By AI agents, Wed Nov 11 2026. No macro, syntax, notation, axiom, sorry.
-/
import Derived.Test.YtknbebjphjpgpaaDoorRows
import GoSem.ClaimSeven
namespace Go.Proofs.YtknbebjphjpgpaaDoor
namespace Rows

/-- THE TIED CARD OF 'switchyardlaw19.DeadOwn'. -/
def deadOwnCard : Claim7 := { stood := { row := deadOwnRow, standIns := [], harness := (true, "082a175ab3fb4a6814a4ab67dadfecd13186a509aa05699093f69527edcefca9"), looks := false }, kinds := [], alts := [], laidByText := true, laidKinds := [.data], laidTests := true, laidLooks := .later }
def DeadOwnCardSaid : Prop := Claim7.holds Tryd.pinned (.plain (OpenSpec.ofChange deadOwnSpec)) deadOwnCard

/-- THE TIED CARD OF 'switchyardlaw19.DeadCounts'. -/
def deadCountsCard : Claim7 := { stood := { row := deadCountsRow, standIns := [], harness := (true, "082a175ab3fb4a6814a4ab67dadfecd13186a509aa05699093f69527edcefca9"), looks := false }, kinds := [], alts := [], laidByText := true, laidKinds := [.data], laidTests := true, laidLooks := .later }
def DeadCountsCardSaid : Prop := Claim7.holds Tryd.pinned (.plain (OpenSpec.ofChange deadCountsSpec)) deadCountsCard

/-- THE TIED CARD OF 'switchyardlaw19.DeadPuts'. -/
def deadPutsCard : Claim7 := { stood := { row := deadPutsRow, standIns := [], harness := (true, "082a175ab3fb4a6814a4ab67dadfecd13186a509aa05699093f69527edcefca9"), looks := false }, kinds := [], alts := [], laidByText := true, laidKinds := [.data], laidTests := true, laidLooks := .later }
def DeadPutsCardSaid : Prop := Claim7.holds Tryd.pinned (.plain (OpenSpec.ofChange deadPutsSpec)) deadPutsCard

/-- THE TIED CARD OF 'switchyardlaw19.DeadBack'. -/
def deadBackCard : Claim7 := { stood := { row := deadBackRow, standIns := [], harness := (true, "082a175ab3fb4a6814a4ab67dadfecd13186a509aa05699093f69527edcefca9"), looks := false }, kinds := [], alts := [], laidByText := true, laidKinds := [.data], laidTests := true, laidLooks := .later }
def DeadBackCardSaid : Prop := Claim7.holds Tryd.pinned (.plain (OpenSpec.ofChange deadBackSpec)) deadBackCard

/-- THE SECOND FORM's CARD OF 'switchyardlaw19.DeadOwn'. -/
def deadOwnUptoCard : Claim7 := { stood := { row := deadOwnUptoRow, standIns := [], harness := (true, "082a175ab3fb4a6814a4ab67dadfecd13186a509aa05699093f69527edcefca9"), looks := false }, kinds := [], alts := [], laidByText := true, laidKinds := [.data], laidTests := true, laidLooks := .later }
def DeadOwnUptoCardSaid : Prop := Claim7.holds Tryd.pinned (.plain (OpenSpec.upto deadOwnSpec)) deadOwnUptoCard

/-- THE SECOND FORM's CARD OF 'switchyardlaw19.DeadCounts'. -/
def deadCountsUptoCard : Claim7 := { stood := { row := deadCountsUptoRow, standIns := [], harness := (true, "082a175ab3fb4a6814a4ab67dadfecd13186a509aa05699093f69527edcefca9"), looks := false }, kinds := [], alts := [], laidByText := true, laidKinds := [.data], laidTests := true, laidLooks := .later }
def DeadCountsUptoCardSaid : Prop := Claim7.holds Tryd.pinned (.plain (OpenSpec.upto deadCountsSpec)) deadCountsUptoCard

/-- THE SECOND FORM's CARD OF 'switchyardlaw19.DeadPuts'. -/
def deadPutsUptoCard : Claim7 := { stood := { row := deadPutsUptoRow, standIns := [], harness := (true, "082a175ab3fb4a6814a4ab67dadfecd13186a509aa05699093f69527edcefca9"), looks := false }, kinds := [], alts := [], laidByText := true, laidKinds := [.data], laidTests := true, laidLooks := .later }
def DeadPutsUptoCardSaid : Prop := Claim7.holds Tryd.pinned (.plain (OpenSpec.upto deadPutsSpec)) deadPutsUptoCard

/-- THE SECOND FORM's CARD OF 'switchyardlaw19.DeadBack'. -/
def deadBackUptoCard : Claim7 := { stood := { row := deadBackUptoRow, standIns := [], harness := (true, "082a175ab3fb4a6814a4ab67dadfecd13186a509aa05699093f69527edcefca9"), looks := false }, kinds := [], alts := [], laidByText := true, laidKinds := [.data], laidTests := true, laidLooks := .later }
def DeadBackUptoCardSaid : Prop := Claim7.holds Tryd.pinned (.plain (OpenSpec.upto deadBackSpec)) deadBackUptoCard
end Rows
end Go.Proofs.YtknbebjphjpgpaaDoor
