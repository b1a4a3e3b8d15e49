/- Openings of the structs of the rows of layer 6. No conditions. -/
import Derived.Test.YtdmmgeggljlceaaDoorXV0
import Derived.Test.YtdmmgeggljlceaaDoorOpen
namespace Go.Proofs.YtdmmgeggljlceaaDoor.XV
open Go.RowKit Go.Proofs.YtdmmgeggljlceaaDoorW.PrintWords Go.Proofs.YtdmmgeggljlceaaDoor.Open
set_option linter.unusedVariables false
inductive G24 : S24 → Prop
  | mk {x : S24} (h0 : (Lit.int .i64 x.f0).wf = true) (h1 : (Lit.int .i64 x.f1).wf = true) (h2 : x.f2.size ≤ 140737488351232) (h3a : x.f3.length * Tryd.prog.bytesOf 2 ≤ 140737488351232) (h3b : x.f3.length ≤ maxLen) (h3 : ∀ y ∈ x.f3, (Lit.int .i64 y).wf = true) : G24 x
theorem opens_k24 (n : Nat) : Opens n Tryd.prog 24 k24 G24 := by
  refine Opens.of (opens_struct' (k := (Kd.pair (Kd.int .i64) (Kd.pair (Kd.int .i64) (Kd.pair Kd.string (Kd.slice 2 (Kd.int .i64)))))) id id (fun _ => rfl) Tryd.underlying24 (by kernel_rfl) (fun _ _ => (OpensF.cons rfl (by kernel_rfl) (opens_int Tryd.underlying3) (OpensF.cons rfl (by kernel_rfl) (opens_int Tryd.underlying2) (OpensF.cons rfl (by kernel_rfl) (opens_string Tryd.underlying9) (OpensF.last rfl (by kernel_rfl) (opens_slice' Tryd.underlying22 (by kernel_rfl) (fun _ _ => (opens_int Tryd.underlying2))))))))) (fun v => (⟨v.1, v.2.1, v.2.2.1, v.2.2.2⟩ : S24)) (fun _ _ _ h => h) ?_
  rintro ⟨v0, v1, v2, v3⟩ ⟨g0, g1, g2, g3⟩
  exact .mk g0 g1 g2 g3.1 g3.2.1 g3.2.2
end Go.Proofs.YtdmmgeggljlceaaDoor.XV
