/- ValueOrders: the law's own call answers true. No conditions. -/
import Derived.Test.YtdmmgeggljlceaaDoorXV20
import Derived.Test.YtdmmgeggljlceaaDoorPureB
import Derived.Test.YtdmmgeggljlceaaDoorOpen
namespace Go.Proofs.YtdmmgeggljlceaaDoor.XV
open Go.RowKit Go.Proofs.YtdmmgeggljlceaaDoorW.PrintWords Go.Proofs.YtdmmgeggljlceaaDoorW.PrintLast Go.Proofs.YtdmmgeggljlceaaDoorW.PrintMore
set_option linter.unusedVariables false
theorem orders_j0 (b : Bool) (a n : Int) (t : ByteArray) (l : List Int) (b' m : Int) (u : ByteArray) (p : List Int) (hl : l.length ≤ 4611686018427387904) : Ev (fun k => switchyardlaw06_ValueOrders.j0 k b a n t l b' m u p) true := by
  refine Ev.step (fun k => by simp only [switchyardlaw06_ValueOrders.j0]; rfl) ?_
  cases b with
  | true => exact Ev.pos rfl (Ev.bind awake_ev (Ev.now _))
  | false =>
    refine Ev.neg (by simp) (Ev.bind awake_ev (Ev.pos rfl ?_))
    refine Ev.bind (order_ev a n t l b' m u p hl) (Ev.bind (ref_order_ev a n t l b' m u p hl) (Ev.pos rfl ?_))
    refine Ev.bind (same_code_ev a n t l b' m u p hl) (Ev.bind (ref_same_ev a n t l b' m u p hl) (Ev.pos (by simp) ?_))
    refine Ev.bind (same_code_ev a n t l b' m u p hl) (Ev.bind (order_ev a n t l b' m u p hl) (Ev.val ?_))
    rw [order_zero]; simp
theorem orders_true (a n : Int) (t : ByteArray) (ht : t.size ≤ 140737488351232) (l : List Int) (b m : Int) (u : ByteArray) (hu : u.size ≤ 140737488351232) (p : List Int) (hl : l.length ≤ 4611686018427387904) : ∃ k, switchyardlaw06_ValueOrders.f k a n t l b m u p = some true := by
  refine Ev.rounds ?_
  unfold switchyardlaw06_ValueOrders.f
  refine Ev.bind awake_ev (Ev.pos rfl (Ev.bind (right_ev a n t l (by omega)) ?_))
  by_cases h : rightB a n t l = true
  · exact Ev.pos h (Ev.bind (right_ev b m u p (by omega)) (orders_j0 _ a n t l b m u p hl))
  · exact Ev.neg h (orders_j0 _ a n t l b m u p hl)
theorem orders_walk (a0_0 : Int) (a0_1 : Int) (a0_2 : ByteArray) (A0_3 : Option Addr) (c0_3 : Nat) (l0_3 : (List Int)) (a1_0 : Int) (a1_1 : Int) (a1_2 : ByteArray) (A1_3 : Option Addr) (c1_3 : Nat) (l1_3 : (List Int)) (W : World) (hG0_0 : (Lit.int .i64 a0_0).wf = true) (hG0_1 : (Lit.int .i64 a0_1).wf = true) (hG0_2 : a0_2.size ≤ 140737488351232) (hC0_3 : Kd.C (Kd.int .i64) W A0_3 l0_3.length l0_3) (hc0_3 : l0_3.length ≤ c0_3) (hG0_3 : (l0_3.length * Tryd.prog.bytesOf 2 ≤ 140737488351232 ∧ l0_3.length ≤ maxLen ∧ ∀ y ∈ l0_3, (Lit.int .i64 y).wf = true)) (hG1_0 : (Lit.int .i64 a1_0).wf = true) (hG1_1 : (Lit.int .i64 a1_1).wf = true) (hG1_2 : a1_2.size ≤ 140737488351232) (hC1_3 : Kd.C (Kd.int .i64) W A1_3 l1_3.length l1_3) (hc1_3 : l1_3.length ≤ c1_3) (hG1_3 : (l1_3.length * Tryd.prog.bytesOf 2 ≤ 140737488351232 ∧ l1_3.length ≤ maxLen ∧ ∀ y ∈ l1_3, (Lit.int .i64 y).wf = true)) (hT : Tabs W) :
    Calls Tryd.prog 9 #[.agg #[.int .i64 a0_0, .int .i64 a0_1, .string a0_2, .slice A0_3 l0_3.length c0_3], .agg #[.int .i64 a1_0, .int .i64 a1_1, .string a1_2, .slice A1_3 l1_3.length c1_3]] W fun e w' => e = .returned (.bool true) ∧ Below W.heap.size W w' := by
  have e : Tryd.prog.bytesOf 2 = 8 := by kernel_rfl
  obtain ⟨k, hk⟩ := orders_true a0_0 a0_1 a0_2 hG0_2 l0_3 a1_0 a1_1 a1_2 hG1_2 l1_3 (by have := hG0_3.1; rw [e] at this; omega)
  exact switchyardlaw06_ValueOrders.calls k a0_0 a0_1 a0_2 A0_3 c0_3 l0_3 a1_0 a1_1 a1_2 A1_3 c1_3 l1_3 true W hC0_3 hc0_3 hC1_3 hc1_3 hk hT
end Go.Proofs.YtdmmgeggljlceaaDoor.XV
