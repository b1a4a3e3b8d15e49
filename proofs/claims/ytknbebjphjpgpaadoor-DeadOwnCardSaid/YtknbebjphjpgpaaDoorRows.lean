/-
  NARROWER THAN 'FOR EVERY INPUT', by the rows' own cells (each row's printed sentence says how): DeadOwn: laid · DeadCounts: laid · DeadPuts: laid · DeadBack: laid.
  DERIVED. THE GIVEN ROWS OF THIS SEAT. 4 by the template 'for every input the law returns true; each argument reads behind the call as it read before'; 0 by the template 'total and deterministic' (their statements: YtknbebjphjpgpaaDoorTotals.lean).
  GIVEN WITH THE SEED: the statements are not yours to turn. If you find one false, say at which input.
  Laid BY PROGRAM, IN A SANDBOX (cutbox-rows.mjs): the forced cells as the released guide's own fill.sh prints them over the translation 60175e6bfeae72f1… (all of the seat's roots in one cut). By AI agents, Wed Nov 11 2026. No macro, syntax, notation, axiom, sorry.
-/
import Derived.Test.YtknbebjphjpgpaaDoorChecked
import GoSem.Claim
import GoSem.ClaimJoined
import GoSem.ClaimMapViews
import Derived.JoinedTies
import Derived.KernelRfl
namespace Go.Proofs.YtknbebjphjpgpaaDoor
/- THE CELL 'sum', in the pinned program and in every row, IS THE sha256 OF THE DUMP (.gsa) THAT YtknbebjphjpgpaaDoorProg.lean LOADS. Nothing in Lean hashes anything: it is a label: what it is worth is what the hold of that sum in a sandbox is worth. -/
noncomputable def Tryd.pinned : Pinned := { name := "ytknbebjphjpgpaadoor", sum := "60175e6bfeae72f1a4af52e71ef6a31b2c00d669016c7bd53b4ee8d5b910e9c2", checked := Tryd.checked }
namespace Rows
def none {H : Type} : Left H := { results := [], args := [] }

/- WHAT THE LISTED PACKAGE-LEVEL VARIABLES READ AS WHEN THE CALL BEGINS. Each datum BY PROGRAM (the guide's laid-datum.mjs) off the statement by which the dump's own 'gosem.cut.vars' lays the variable. In a bare row this is a premise. The card (YtknbebjphjpgpaaDoorCards.lean) ties it to the program's text. -/
def laid_switchyard_dead_words {H : Type} : DataW H := .agg [.lit (.string []), .lit (.string [110, 111, 32, 109, 97, 116, 99, 104]), .lit (.string [116, 111, 111, 32, 102, 101, 119]), .lit (.string [116, 111, 111, 32, 109, 97, 110, 121]), .lit (.string [111, 118, 101, 114]), .lit (.string [98, 117, 114, 105, 101, 100])]

/-- 'switchyardlaw19.DeadOwn': WHATEVER THE INPUT: true; the input reads as it did. -/
def deadOwnSpec : ChangeSpec := { name := "deadOwn", fn := fun _ => fun
  | [d1, d2] => { results := [.lit (.bool true)], args := [d1, d2] }
  | _ => none }
def deadOwnRow : OpenClaim := { program := "ytknbebjphjpgpaadoor", sum := "60175e6bfeae72f1a4af52e71ef6a31b2c00d669016c7bd53b4ee8d5b910e9c2", func := "switchyard/switchyardlaw19.DeadOwn", spec := "deadOwn", unfollowed := true, recurses := true, named := ["switchyard/dead.words"], apart := false, laid := [("switchyard/dead.words", laid_switchyard_dead_words)] }
def DeadOwnSaid : Prop := deadOwnRow.holds Tryd.pinned (OpenSpec.ofChange deadOwnSpec)

/-- ITS FALSE NEIGHBOUR: 'it returns false'. Refute it at one input. -/
def deadOwnWrong : ChangeSpec := { name := "deadOwn", fn := fun _ => fun
  | [d1, d2] => { results := [.lit (.bool false)], args := [d1, d2] }
  | _ => none }
def DeadOwnWrongFalsely : Prop := deadOwnRow.holds Tryd.pinned (OpenSpec.ofChange deadOwnWrong)

/-- 'switchyardlaw19.DeadCounts': WHATEVER THE INPUT: true; the input reads as it did. -/
def deadCountsSpec : ChangeSpec := { name := "deadCounts", fn := fun _ => fun
  | [d1, d2] => { results := [.lit (.bool true)], args := [d1, d2] }
  | _ => none }
def deadCountsRow : OpenClaim := { program := "ytknbebjphjpgpaadoor", sum := "60175e6bfeae72f1a4af52e71ef6a31b2c00d669016c7bd53b4ee8d5b910e9c2", func := "switchyard/switchyardlaw19.DeadCounts", spec := "deadCounts", unfollowed := true, recurses := true, named := ["switchyard/dead.words"], apart := false, laid := [("switchyard/dead.words", laid_switchyard_dead_words)] }
def DeadCountsSaid : Prop := deadCountsRow.holds Tryd.pinned (OpenSpec.ofChange deadCountsSpec)

/-- ITS FALSE NEIGHBOUR: 'it returns false'. Refute it at one input. -/
def deadCountsWrong : ChangeSpec := { name := "deadCounts", fn := fun _ => fun
  | [d1, d2] => { results := [.lit (.bool false)], args := [d1, d2] }
  | _ => none }
def DeadCountsWrongFalsely : Prop := deadCountsRow.holds Tryd.pinned (OpenSpec.ofChange deadCountsWrong)

/-- 'switchyardlaw19.DeadPuts': WHATEVER THE INPUT: true; the input reads as it did. -/
def deadPutsSpec : ChangeSpec := { name := "deadPuts", fn := fun _ => fun
  | [d1, d2, d3] => { results := [.lit (.bool true)], args := [d1, d2, d3] }
  | _ => none }
def deadPutsRow : OpenClaim := { program := "ytknbebjphjpgpaadoor", sum := "60175e6bfeae72f1a4af52e71ef6a31b2c00d669016c7bd53b4ee8d5b910e9c2", func := "switchyard/switchyardlaw19.DeadPuts", spec := "deadPuts", unfollowed := true, recurses := true, named := ["switchyard/dead.words"], apart := false, laid := [("switchyard/dead.words", laid_switchyard_dead_words)] }
def DeadPutsSaid : Prop := deadPutsRow.holds Tryd.pinned (OpenSpec.ofChange deadPutsSpec)

/-- ITS FALSE NEIGHBOUR: 'it returns false'. Refute it at one input. -/
def deadPutsWrong : ChangeSpec := { name := "deadPuts", fn := fun _ => fun
  | [d1, d2, d3] => { results := [.lit (.bool false)], args := [d1, d2, d3] }
  | _ => none }
def DeadPutsWrongFalsely : Prop := deadPutsRow.holds Tryd.pinned (OpenSpec.ofChange deadPutsWrong)

/-- 'switchyardlaw19.DeadBack': WHATEVER THE INPUT: true; the input reads as it did. -/
def deadBackSpec : ChangeSpec := { name := "deadBack", fn := fun _ => fun
  | [d1, d2] => { results := [.lit (.bool true)], args := [d1, d2] }
  | _ => none }
def deadBackRow : OpenClaim := { program := "ytknbebjphjpgpaadoor", sum := "60175e6bfeae72f1a4af52e71ef6a31b2c00d669016c7bd53b4ee8d5b910e9c2", func := "switchyard/switchyardlaw19.DeadBack", spec := "deadBack", unfollowed := true, recurses := true, named := ["switchyard/dead.words"], apart := false, laid := [("switchyard/dead.words", laid_switchyard_dead_words)] }
def DeadBackSaid : Prop := deadBackRow.holds Tryd.pinned (OpenSpec.ofChange deadBackSpec)

/-- ITS FALSE NEIGHBOUR: 'it returns false'. Refute it at one input. -/
def deadBackWrong : ChangeSpec := { name := "deadBack", fn := fun _ => fun
  | [d1, d2] => { results := [.lit (.bool false)], args := [d1, d2] }
  | _ => none }
def DeadBackWrongFalsely : Prop := deadBackRow.holds Tryd.pinned (OpenSpec.ofChange deadBackWrong)

/- THE SECOND FORM. 'bulk': how many values and letters a reading holds, each counted each time it is reached (what is shared counts as often as it is met; a slice's spare places count too). A statement '..UptoSaid' is the law's where the arguments, and the package variables that the reading takes, are together of bulk at most 1048576: NARROWER than '..Said'. Prove '..Said' where nothing that the law and all that it calls make is longer than what came in: it says more and counts as full. Else prove '..UptoSaid'. A law counts once. -/
mutual
def uptoBulk {H : Type} : DataW H → Nat
  | .lit (.string bytes) => bytes.length + 1
  | .lit _ => 1
  | .nil => 1
  | .ptr d => uptoBulk d + 1
  | .slice elems spare => uptoBulkAll elems + uptoBulkAll spare + 1
  | .agg parts => uptoBulkAll parts + 1
  | .iface _ d => uptoBulk d + 1
  | .map entries => uptoBulkEntries entries + 1
  | .held _ => 1
def uptoBulkAll {H : Type} : List (DataW H) → Nat
  | [] => 0
  | d :: r => uptoBulk d + uptoBulkAll r
def uptoBulkEntries {H : Type} : List (Lit × DataW H) → Nat
  | [] => 0
  | x :: r => uptoBulkEntry x + uptoBulkEntries r
def uptoBulkEntry {H : Type} : Lit × DataW H → Nat
  | (.string bytes, d) => bytes.length + uptoBulk d + 1
  | (_, d) => uptoBulk d + 1
 end
def uptoSmall : (H : Type) → List (DataW H) → Bool := fun _ ds => decide (uptoBulkAll ds ≤ 1048576)
def OpenSpec.upto (s : _root_.Go.ChangeSpec) : _root_.Go.OpenSpec := { _root_.Go.OpenSpec.ofChange s with cond := some uptoSmall }

/-- 'switchyardlaw19.DeadOwn', WHERE WHAT IT READS IS OF BULK AT MOST 1048576: true; the input reads as it did. -/
def deadOwnUptoRow : OpenClaim := { program := "ytknbebjphjpgpaadoor", sum := "60175e6bfeae72f1a4af52e71ef6a31b2c00d669016c7bd53b4ee8d5b910e9c2", func := "switchyard/switchyardlaw19.DeadOwn", spec := "deadOwn", unfollowed := true, recurses := true, named := ["switchyard/dead.words"], apart := false, laid := [("switchyard/dead.words", laid_switchyard_dead_words)], narrowed := true }
def DeadOwnUptoSaid : Prop := deadOwnUptoRow.holds Tryd.pinned (OpenSpec.upto deadOwnSpec)

/-- 'switchyardlaw19.DeadCounts', WHERE WHAT IT READS IS OF BULK AT MOST 1048576: true; the input reads as it did. -/
def deadCountsUptoRow : OpenClaim := { program := "ytknbebjphjpgpaadoor", sum := "60175e6bfeae72f1a4af52e71ef6a31b2c00d669016c7bd53b4ee8d5b910e9c2", func := "switchyard/switchyardlaw19.DeadCounts", spec := "deadCounts", unfollowed := true, recurses := true, named := ["switchyard/dead.words"], apart := false, laid := [("switchyard/dead.words", laid_switchyard_dead_words)], narrowed := true }
def DeadCountsUptoSaid : Prop := deadCountsUptoRow.holds Tryd.pinned (OpenSpec.upto deadCountsSpec)

/-- 'switchyardlaw19.DeadPuts', WHERE WHAT IT READS IS OF BULK AT MOST 1048576: true; the input reads as it did. -/
def deadPutsUptoRow : OpenClaim := { program := "ytknbebjphjpgpaadoor", sum := "60175e6bfeae72f1a4af52e71ef6a31b2c00d669016c7bd53b4ee8d5b910e9c2", func := "switchyard/switchyardlaw19.DeadPuts", spec := "deadPuts", unfollowed := true, recurses := true, named := ["switchyard/dead.words"], apart := false, laid := [("switchyard/dead.words", laid_switchyard_dead_words)], narrowed := true }
def DeadPutsUptoSaid : Prop := deadPutsUptoRow.holds Tryd.pinned (OpenSpec.upto deadPutsSpec)

/-- 'switchyardlaw19.DeadBack', WHERE WHAT IT READS IS OF BULK AT MOST 1048576: true; the input reads as it did. -/
def deadBackUptoRow : OpenClaim := { program := "ytknbebjphjpgpaadoor", sum := "60175e6bfeae72f1a4af52e71ef6a31b2c00d669016c7bd53b4ee8d5b910e9c2", func := "switchyard/switchyardlaw19.DeadBack", spec := "deadBack", unfollowed := true, recurses := true, named := ["switchyard/dead.words"], apart := false, laid := [("switchyard/dead.words", laid_switchyard_dead_words)], narrowed := true }
def DeadBackUptoSaid : Prop := deadBackUptoRow.holds Tryd.pinned (OpenSpec.upto deadBackSpec)

end Rows
end Go.Proofs.YtknbebjphjpgpaaDoor
