/-
  NARROWER THAN 'FOR EVERY INPUT', by the rows' own cells (each row's printed sentence says how): RouteVerdicts: loops.
  DERIVED. THE GIVEN ROWS OF THIS SEAT. 4 by the template 'for every input the law returns true; each argument reads behind the call as it read before'; 0 by the template 'total and deterministic' (their statements: YtmbojmmboolagaaTotals.lean).
  GIVEN WITH THE SEED: the statements are not yours to turn. If you find one false, say at which input.
  Laid BY PROGRAM, IN A SANDBOX (cutbox-rows.mjs): the forced cells as the released guide's own fill.sh prints them over the translation 12e096ea4e2ad421… (all of the seat's roots in one cut). By AI agents, Wed Nov 11 2026. No macro, syntax, notation, axiom, sorry.
-/
import Derived.Test.YtmbojmmboolagaaChecked
import GoSem.Claim
import GoSem.ClaimJoined
import GoSem.ClaimMapViews
import Derived.JoinedTies
import Derived.KernelRfl
namespace Go.Proofs.Ytmbojmmboolagaa
/- THE CELL 'sum', in the pinned program and in every row, IS THE sha256 OF THE DUMP (.gsa) THAT YtmbojmmboolagaaProg.lean LOADS. Nothing in Lean hashes anything: it is a label: what it is worth is what the hold of that sum in a sandbox is worth. -/
noncomputable def Try.pinned : Pinned := { name := "ytmbojmmboolagaa", sum := "12e096ea4e2ad4217ac3460dc03dcc5c8db3e9d8a3419398a404533d66116223", checked := Try.checked }
namespace Rows
def none {H : Type} : Left H := { results := [], args := [] }

/-- 'switchyardlaw17.RouteVerdicts': WHATEVER THE INPUT: true; the input reads as it did. -/
def routeVerdictsSpec : ChangeSpec := { name := "routeVerdicts", fn := fun _ => fun
  | [d1, d2] => { results := [.lit (.bool true)], args := [d1, d2] }
  | _ => none }
def routeVerdictsRow : OpenClaim := { program := "ytmbojmmboolagaa", sum := "12e096ea4e2ad4217ac3460dc03dcc5c8db3e9d8a3419398a404533d66116223", func := "switchyard/switchyardlaw17.RouteVerdicts", spec := "routeVerdicts", loops := true, apart := false }
def RouteVerdictsSaid : Prop := routeVerdictsRow.holds Try.pinned (OpenSpec.ofChange routeVerdictsSpec)

/-- ITS FALSE NEIGHBOUR: 'it returns false'. Refute it at one input. -/
def routeVerdictsWrong : ChangeSpec := { name := "routeVerdicts", fn := fun _ => fun
  | [d1, d2] => { results := [.lit (.bool false)], args := [d1, d2] }
  | _ => none }
def RouteVerdictsWrongFalsely : Prop := routeVerdictsRow.holds Try.pinned (OpenSpec.ofChange routeVerdictsWrong)

/-- 'switchyardlaw20.SeenAdds': WHATEVER THE INPUT: true; the input reads as it did. -/
def seenAddsSpec : ChangeSpec := { name := "seenAdds", fn := fun _ => fun
  | [d1, d2, d3] => { results := [.lit (.bool true)], args := [d1, d2, d3] }
  | _ => none }
def seenAddsRow : OpenClaim := { program := "ytmbojmmboolagaa", sum := "12e096ea4e2ad4217ac3460dc03dcc5c8db3e9d8a3419398a404533d66116223", func := "switchyard/switchyardlaw20.SeenAdds", spec := "seenAdds", inPlace := ["slices.overlaps[int64]"], apart := false }
def SeenAddsSaid : Prop := seenAddsRow.holds Try.pinned (OpenSpec.ofChange seenAddsSpec)

/-- ITS FALSE NEIGHBOUR: 'it returns false'. Refute it at one input. -/
def seenAddsWrong : ChangeSpec := { name := "seenAdds", fn := fun _ => fun
  | [d1, d2, d3] => { results := [.lit (.bool false)], args := [d1, d2, d3] }
  | _ => none }
def SeenAddsWrongFalsely : Prop := seenAddsRow.holds Try.pinned (OpenSpec.ofChange seenAddsWrong)

/-- 'switchyardlaw20.SeenGrows': WHATEVER THE INPUT: true; the input reads as it did. -/
def seenGrowsSpec : ChangeSpec := { name := "seenGrows", fn := fun _ => fun
  | [d1, d2] => { results := [.lit (.bool true)], args := [d1, d2] }
  | _ => none }
def seenGrowsRow : OpenClaim := { program := "ytmbojmmboolagaa", sum := "12e096ea4e2ad4217ac3460dc03dcc5c8db3e9d8a3419398a404533d66116223", func := "switchyard/switchyardlaw20.SeenGrows", spec := "seenGrows", inPlace := ["slices.overlaps[int64]"], apart := false }
def SeenGrowsSaid : Prop := seenGrowsRow.holds Try.pinned (OpenSpec.ofChange seenGrowsSpec)

/-- ITS FALSE NEIGHBOUR: 'it returns false'. Refute it at one input. -/
def seenGrowsWrong : ChangeSpec := { name := "seenGrows", fn := fun _ => fun
  | [d1, d2] => { results := [.lit (.bool false)], args := [d1, d2] }
  | _ => none }
def SeenGrowsWrongFalsely : Prop := seenGrowsRow.holds Try.pinned (OpenSpec.ofChange seenGrowsWrong)

/-- 'switchyardlaw20.SeenAnyhow': WHATEVER THE INPUT: true; the input reads as it did. -/
def seenAnyhowSpec : ChangeSpec := { name := "seenAnyhow", fn := fun _ => fun
  | [d] => { results := [.lit (.bool true)], args := [d] }
  | _ => none }
def seenAnyhowRow : OpenClaim := { program := "ytmbojmmboolagaa", sum := "12e096ea4e2ad4217ac3460dc03dcc5c8db3e9d8a3419398a404533d66116223", func := "switchyard/switchyardlaw20.SeenAnyhow", spec := "seenAnyhow", inPlace := ["slices.overlaps[int64]"], apart := false }
def SeenAnyhowSaid : Prop := seenAnyhowRow.holds Try.pinned (OpenSpec.ofChange seenAnyhowSpec)

/-- ITS FALSE NEIGHBOUR: 'it returns false'. Refute it at one input. -/
def seenAnyhowWrong : ChangeSpec := { name := "seenAnyhow", fn := fun _ => fun
  | [d] => { results := [.lit (.bool false)], args := [d] }
  | _ => none }
def SeenAnyhowWrongFalsely : Prop := seenAnyhowRow.holds Try.pinned (OpenSpec.ofChange seenAnyhowWrong)

/- THE SECOND FORM. 'bulk': how many values and letters a reading holds, each counted each time it is reached (what is shared counts as often as it is met; a slice's spare places count too). A statement '..UptoSaid' is the law's where the arguments, and the package variables that the reading takes, are together of bulk at most 1048576: NARROWER than '..Said'. Prove '..Said' where nothing that the law and all that it calls make is longer than what came in: it says more and counts as full. Else prove '..UptoSaid'. A law counts once. -/
mutual
def uptoBulk {H : Type} : DataW H → Nat
  | .lit (.string bytes) => bytes.length + 1
  | .lit _ => 1
  | .nil => 1
  | .ptr d => uptoBulk d + 1
  | .slice elems spare => uptoBulkAll elems + uptoBulkAll spare + 1
  | .agg parts => uptoBulkAll parts + 1
  | .iface _ d => uptoBulk d + 1
  | .map entries => uptoBulkEntries entries + 1
  | .held _ => 1
def uptoBulkAll {H : Type} : List (DataW H) → Nat
  | [] => 0
  | d :: r => uptoBulk d + uptoBulkAll r
def uptoBulkEntries {H : Type} : List (Lit × DataW H) → Nat
  | [] => 0
  | x :: r => uptoBulkEntry x + uptoBulkEntries r
def uptoBulkEntry {H : Type} : Lit × DataW H → Nat
  | (.string bytes, d) => bytes.length + uptoBulk d + 1
  | (_, d) => uptoBulk d + 1
 end
def uptoSmall : (H : Type) → List (DataW H) → Bool := fun _ ds => decide (uptoBulkAll ds ≤ 1048576)
def OpenSpec.upto (s : _root_.Go.ChangeSpec) : _root_.Go.OpenSpec := { _root_.Go.OpenSpec.ofChange s with cond := some uptoSmall }

/-- 'switchyardlaw17.RouteVerdicts', WHERE WHAT IT READS IS OF BULK AT MOST 1048576: true; the input reads as it did. -/
def routeVerdictsUptoRow : OpenClaim := { program := "ytmbojmmboolagaa", sum := "12e096ea4e2ad4217ac3460dc03dcc5c8db3e9d8a3419398a404533d66116223", func := "switchyard/switchyardlaw17.RouteVerdicts", spec := "routeVerdicts", loops := true, apart := false, narrowed := true }
def RouteVerdictsUptoSaid : Prop := routeVerdictsUptoRow.holds Try.pinned (OpenSpec.upto routeVerdictsSpec)

/-- 'switchyardlaw20.SeenAdds', WHERE WHAT IT READS IS OF BULK AT MOST 1048576: true; the input reads as it did. -/
def seenAddsUptoRow : OpenClaim := { program := "ytmbojmmboolagaa", sum := "12e096ea4e2ad4217ac3460dc03dcc5c8db3e9d8a3419398a404533d66116223", func := "switchyard/switchyardlaw20.SeenAdds", spec := "seenAdds", inPlace := ["slices.overlaps[int64]"], apart := false, narrowed := true }
def SeenAddsUptoSaid : Prop := seenAddsUptoRow.holds Try.pinned (OpenSpec.upto seenAddsSpec)

/-- 'switchyardlaw20.SeenGrows', WHERE WHAT IT READS IS OF BULK AT MOST 1048576: true; the input reads as it did. -/
def seenGrowsUptoRow : OpenClaim := { program := "ytmbojmmboolagaa", sum := "12e096ea4e2ad4217ac3460dc03dcc5c8db3e9d8a3419398a404533d66116223", func := "switchyard/switchyardlaw20.SeenGrows", spec := "seenGrows", inPlace := ["slices.overlaps[int64]"], apart := false, narrowed := true }
def SeenGrowsUptoSaid : Prop := seenGrowsUptoRow.holds Try.pinned (OpenSpec.upto seenGrowsSpec)

/-- 'switchyardlaw20.SeenAnyhow', WHERE WHAT IT READS IS OF BULK AT MOST 1048576: true; the input reads as it did. -/
def seenAnyhowUptoRow : OpenClaim := { program := "ytmbojmmboolagaa", sum := "12e096ea4e2ad4217ac3460dc03dcc5c8db3e9d8a3419398a404533d66116223", func := "switchyard/switchyardlaw20.SeenAnyhow", spec := "seenAnyhow", inPlace := ["slices.overlaps[int64]"], apart := false, narrowed := true }
def SeenAnyhowUptoSaid : Prop := seenAnyhowUptoRow.holds Try.pinned (OpenSpec.upto seenAnyhowSpec)

end Rows
end Go.Proofs.Ytmbojmmboolagaa
