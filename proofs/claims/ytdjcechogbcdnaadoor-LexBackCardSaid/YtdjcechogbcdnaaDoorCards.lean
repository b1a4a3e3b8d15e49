/-
  DERIVED. GIVEN WITH THE SEED: THE CARDS: each row of YtdjcechogbcdnaaDoorRows.lean that lists a variable, with what it lists TIED to the program's text (the seventh form; the later family's looks); each row that meets fmt, with fmt's text TOLD by the authors' own Lean function (tested against real Go, not proved from fmt's source: count such statements apart). THE CARD IS WHAT COUNTS. Prove the row's statement (the work); the ties are given (YtdjcechogbcdnaaDoorTie.lean); close each card by the builder's one call (the guide's Derived/Test/ToyasCard.lean, 'card_holds'). Laid BY PROGRAM, IN A SANDBOX (cutbox-door.mjs). By AI agents, Wed Nov 11 2026. No macro, syntax, notation, axiom, sorry.
-/
import Derived.Test.YtdjcechogbcdnaaDoorRows
import GoSem.ClaimSeven
namespace Go.Proofs.YtdjcechogbcdnaaDoor
namespace Rows

/-- THE TIED CARD OF 'switchyardlaw07.LexScans'. -/
def lexScansCard : Claim7 := { stood := { row := lexScansRow, standIns := [], harness := (true, "014ed79bff4ff950644538d023eda56c2caef8150cd3955ee4071edaba877566"), looks := true }, kinds := [], alts := [], laidByText := true, laidKinds := [.data, .data, .data, .sentinel, .sentinel, .data], laidTests := true, laidLooks := .later }
def LexScansCardSaid : Prop := Claim7.holds Tryd.pinned (.plain (OpenSpec.ofChange lexScansSpec)) lexScansCard

/-- THE TIED CARD OF 'switchyardlaw07.LexCuts'. -/
def lexCutsCard : Claim7 := { stood := { row := lexCutsRow, standIns := [], harness := (true, "014ed79bff4ff950644538d023eda56c2caef8150cd3955ee4071edaba877566"), looks := true }, kinds := [], alts := [], laidByText := true, laidKinds := [.data, .data, .data, .sentinel, .sentinel, .data], laidTests := true, laidLooks := .later }
def LexCutsCardSaid : Prop := Claim7.holds Tryd.pinned (.plain (OpenSpec.ofChange lexCutsSpec)) lexCutsCard

/-- THE TIED CARD OF 'switchyardlaw07.LexGlues'. -/
def lexGluesCard : Claim7 := { stood := { row := lexGluesRow, standIns := [], harness := (true, "014ed79bff4ff950644538d023eda56c2caef8150cd3955ee4071edaba877566"), looks := true }, kinds := [], alts := [], laidByText := true, laidKinds := [.data, .data, .data, .sentinel, .sentinel, .data], laidTests := true, laidLooks := .later }
def LexGluesCardSaid : Prop := Claim7.holds Tryd.pinned (.plain (OpenSpec.ofChange lexGluesSpec)) lexGluesCard

/-- THE TIED CARD OF 'switchyardlaw07.LexBack'. -/
def lexBackCard : Claim7 := { stood := { row := lexBackRow, standIns := [], harness := (true, "014ed79bff4ff950644538d023eda56c2caef8150cd3955ee4071edaba877566"), looks := true }, kinds := [], alts := [], laidByText := true, laidKinds := [.data, .data, .data, .sentinel, .sentinel, .data], laidTests := true, laidLooks := .later }
def LexBackCardSaid : Prop := Claim7.holds Tryd.pinned (.plain (OpenSpec.ofChange lexBackSpec)) lexBackCard

/-- THE SECOND FORM's CARD OF 'switchyardlaw07.LexScans'. -/
def lexScansUptoCard : Claim7 := { stood := { row := lexScansUptoRow, standIns := [], harness := (true, "014ed79bff4ff950644538d023eda56c2caef8150cd3955ee4071edaba877566"), looks := true }, kinds := [], alts := [], laidByText := true, laidKinds := [.data, .data, .data, .sentinel, .sentinel, .data], laidTests := true, laidLooks := .later }
def LexScansUptoCardSaid : Prop := Claim7.holds Tryd.pinned (.plain (OpenSpec.upto lexScansSpec)) lexScansUptoCard

/-- THE SECOND FORM's CARD OF 'switchyardlaw07.LexCuts'. -/
def lexCutsUptoCard : Claim7 := { stood := { row := lexCutsUptoRow, standIns := [], harness := (true, "014ed79bff4ff950644538d023eda56c2caef8150cd3955ee4071edaba877566"), looks := true }, kinds := [], alts := [], laidByText := true, laidKinds := [.data, .data, .data, .sentinel, .sentinel, .data], laidTests := true, laidLooks := .later }
def LexCutsUptoCardSaid : Prop := Claim7.holds Tryd.pinned (.plain (OpenSpec.upto lexCutsSpec)) lexCutsUptoCard

/-- THE SECOND FORM's CARD OF 'switchyardlaw07.LexGlues'. -/
def lexGluesUptoCard : Claim7 := { stood := { row := lexGluesUptoRow, standIns := [], harness := (true, "014ed79bff4ff950644538d023eda56c2caef8150cd3955ee4071edaba877566"), looks := true }, kinds := [], alts := [], laidByText := true, laidKinds := [.data, .data, .data, .sentinel, .sentinel, .data], laidTests := true, laidLooks := .later }
def LexGluesUptoCardSaid : Prop := Claim7.holds Tryd.pinned (.plain (OpenSpec.upto lexGluesSpec)) lexGluesUptoCard

/-- THE SECOND FORM's CARD OF 'switchyardlaw07.LexBack'. -/
def lexBackUptoCard : Claim7 := { stood := { row := lexBackUptoRow, standIns := [], harness := (true, "014ed79bff4ff950644538d023eda56c2caef8150cd3955ee4071edaba877566"), looks := true }, kinds := [], alts := [], laidByText := true, laidKinds := [.data, .data, .data, .sentinel, .sentinel, .data], laidTests := true, laidLooks := .later }
def LexBackUptoCardSaid : Prop := Claim7.holds Tryd.pinned (.plain (OpenSpec.upto lexBackSpec)) lexBackUptoCard
end Rows
end Go.Proofs.YtdjcechogbcdnaaDoor
