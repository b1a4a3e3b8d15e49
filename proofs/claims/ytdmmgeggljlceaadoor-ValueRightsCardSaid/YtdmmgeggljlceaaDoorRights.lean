/- ValueRights: the law's own call answers true. No conditions. -/
import Derived.Test.YtdmmgeggljlceaaDoorXV8
import Derived.Test.YtdmmgeggljlceaaDoorPureA
import Derived.Test.YtdmmgeggljlceaaDoorOpen
namespace Go.Proofs.YtdmmgeggljlceaaDoor.XV
open Go.RowKit Go.Proofs.YtdmmgeggljlceaaDoorW.PrintWords Go.Proofs.YtdmmgeggljlceaaDoorW.PrintLast Go.Proofs.YtdmmgeggljlceaaDoorW.PrintMore
set_option linter.unusedVariables false
theorem rights_true (s : ByteArray) (hs : s.size ≤ 140737488351232) (a n : Int) (t : ByteArray) (ht : t.size ≤ 140737488351232) (l : List Int) : ∃ k, switchyardlaw06_ValueRights.f k s a n t l = some true := by
  refine Ev.rounds ?_
  unfold switchyardlaw06_ValueRights.f
  refine Ev.bind awake_ev (Ev.pos rfl ?_)
  refine Ev.bind (Ev.now (nameB s)) (Ev.bind (name_ev s (by omega)) (Ev.pos (by simp) ?_))
  rw [right_code]
  refine Ev.bind (Ev.now _) (Ev.bind (right_ev a n t l (by omega)) (Ev.val (by simp)))
theorem rights_walk (a0 : ByteArray) (a1_0 : Int) (a1_1 : Int) (a1_2 : ByteArray) (A1_3 : Option Addr) (c1_3 : Nat) (l1_3 : (List Int)) (W : World) (hG0 : a0.size ≤ 140737488351232) (hG1_0 : (Lit.int .i64 a1_0).wf = true) (hG1_1 : (Lit.int .i64 a1_1).wf = true) (hG1_2 : a1_2.size ≤ 140737488351232) (hC1_3 : Kd.C (Kd.int .i64) W A1_3 l1_3.length l1_3) (hc1_3 : l1_3.length ≤ c1_3) (hG1_3 : (l1_3.length * Tryd.prog.bytesOf 2 ≤ 140737488351232 ∧ l1_3.length ≤ maxLen ∧ ∀ y ∈ l1_3, (Lit.int .i64 y).wf = true)) (hT : Tabs W) :
    Calls Tryd.prog 3 #[.string a0, .agg #[.int .i64 a1_0, .int .i64 a1_1, .string a1_2, .slice A1_3 l1_3.length c1_3]] W fun e w' => e = .returned (.bool true) ∧ Below W.heap.size W w' := by
  obtain ⟨k, hk⟩ := rights_true a0 hG0 a1_0 a1_1 a1_2 hG1_2 l1_3
  exact switchyardlaw06_ValueRights.calls k a0 a1_0 a1_1 a1_2 A1_3 c1_3 l1_3 true W hC1_3 hc1_3 hk hT
end Go.Proofs.YtdmmgeggljlceaaDoor.XV
