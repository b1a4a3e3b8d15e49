/- switchyard/switchyardlaw17.RouteVerdicts: for every input the law answers true, and its arguments read as before. Conditions: none but the row's own. -/
import Derived.Test.YtmbojmmboolagaaRows
import Derived.Test.YtmbojmmboolagaaRoute
import Derived.WalkKit
import Derived.ProofKit
import Derived.OpenShut
import Derived.ShutString
import Derived.ChangeOld
import Derived.Below
import Derived.SizedLaws
namespace Go.Proofs.Ytmbojmmboolagaa.routeVerdicts
open Go.ChangeShapes Go.WideShapes Go.ChangeAt Go.RowKit
open Go.ChangeMaps (open_string shut_string)
open Go.Proofs.YtmbojmmboolagaaW.PrintWords Go.Proofs.Ytmbojmmboolagaa.Open Go.Proofs.Ytmbojmmboolagaa.PRouteVerdicts
set_option linter.unusedVariables false
theorem own : ownKnob Try.prog.godebug = none := by kernel_rfl
theorem laidOut : laidOutB Try.prog = true := by kernel_rfl
set_option maxRecDepth 100000 in
theorem lifted (os : Os) (started : os.Started) (H : Type) (enc : TypeId × Value → H) :
    ReturnsInHanded {} Try.checked os 3 .any (Rows.routeVerdictsSpec.pre6 enc Try.prog Try.f3 Rows.routeVerdictsRow.domain false) (Rows.routeVerdictsSpec.post enc Try.prog Try.f3 false true false false) := by
  refine returnsInHanded_of_change_sized (C := Try.checked) own started (by kernel_rfl) Try.func3
    (ChangeSpec.witness6 (enc := enc) (C := Try.checked) false ⟨#[], #[.agg #[.string ByteArray.empty, .string ByteArray.empty, .string ByteArray.empty, .string ByteArray.empty, .string ByteArray.empty, .slice none 0 0, .int .i64 0, .int .i64 0, .bool false, .slice none 0 0], .int .i64 0], []⟩ 8 (by kernel_rfl) (by kernel_rfl) (by kernel_rfl) (by kernel_rfl)) ?_
  intro W base args ds gs before hval0 hW hcnd hsz0 _
  have hsz : (DataW.weightsEach Try.prog (Try.f3.params.toList ++ Rows.routeVerdictsSpec.plain.varTypes Try.prog) (ds ++ gs)).all (· ≤ reachBytes) = true := hsz0
  have hval : ∀ (j : Nat) t v, Try.f3.params[j]? = some t → args[j]? = some v → Value.okWide Try.prog W .any base t v := hval0
  have hW' := hW
  obtain ⟨p, q, hA0, hV, rfl, hfz, hnd⟩ := hW
  have hA : DataW.TrodAll enc Try.prog W 0 (fun _ => true) true Try.f3.params.toList args.toList ds p := hA0
  rw [Try.params3] at hA hval hsz
  obtain ⟨v0, vs0, d0, ds0, p0, q0, hargs, rfl, rfl, h0, r0⟩ := trodAll_cons hA
  obtain ⟨v1, vs1, d1, ds1, p1, q1, rfl, rfl, rfl, h1, r1⟩ := trodAll_cons r0
  obtain ⟨rfl, rfl, rfl⟩ := trodAll_nil r1
  obtain rfl : args = #[v0, v1] := by cases args; simp_all
  obtain ⟨rfl, rfl⟩ := trodVars_none hV
  have k0 := h0
  have lt0 : ∀ x ∈ p0, x.block < W.heap.size := by obtain ⟨m, hm⟩ := k0; exact DataW.trod_lt m _ _ _ hm
  have wt0 := Open.arg_weights hsz (j := 0) (t := 25) (d := d0) rfl rfl
  obtain ⟨x0, hK0, hG0⟩ := Opens.arg (k := (Kd.pair Kd.string (Kd.pair Kd.string (Kd.pair Kd.string (Kd.pair Kd.string (Kd.pair Kd.string (Kd.pair (Kd.slice 66 k66) (Kd.pair (Kd.int .i64) (Kd.pair (Kd.int .i64) (Kd.pair Kd.bool (Kd.slice 9 Kd.string))))))))))) (fun _ => (opens_struct' id id (fun _ => rfl) Try.underlying25 (by kernel_rfl) (fun _ _ => (OpensF.cons rfl (by kernel_rfl) (opens_string Try.underlying9) (OpensF.cons rfl (by kernel_rfl) (opens_string Try.underlying9) (OpensF.cons rfl (by kernel_rfl) (opens_string Try.underlying9) (OpensF.cons rfl (by kernel_rfl) (opens_string Try.underlying9) (OpensF.cons rfl (by kernel_rfl) (opens_string Try.underlying9) (OpensF.cons rfl (by kernel_rfl) (opens_slice' Try.underlying22 (by kernel_rfl) (fun _ _ => (opens_k66 _))) (OpensF.cons rfl (by kernel_rfl) (opens_int Try.underlying3) (OpensF.cons rfl (by kernel_rfl) (opens_int Try.underlying3) (OpensF.cons rfl (by kernel_rfl) (opens_bool Try.underlying4) (OpensF.last rfl (by kernel_rfl) (opens_slice' Try.underlying23 (by kernel_rfl) (fun _ _ => (opens_string Try.underlying9)))))))))))))))) h0 wt0
  obtain ⟨cs0, rfl, hs0⟩ := okWide_struct Try.underlying25 (hval 0 25 v0 rfl rfl)
  obtain ⟨a0_0, a0_1, a0_2, a0_3, a0_4, l0_5, a0_6, a0_7, a0_8, l0_9⟩ := x0
  simp only [Value.cells] at hK0
  generalize hcs0 : cs0.toList = ct0 at hK0
  obtain ⟨_, _, rfl, rfl, ⟨_, _, rfl, rfl, ⟨_, _, rfl, rfl, ⟨_, _, rfl, rfl, ⟨_, _, rfl, rfl, ⟨_, _, rfl, ⟨A0_5, c0_5, rfl, hc0_5, hC0_5⟩, ⟨_, _, rfl, rfl, ⟨_, _, rfl, rfl, ⟨_, _, rfl, rfl, ⟨A0_9, c0_9, rfl, hc0_9, hC0_9⟩⟩⟩⟩⟩⟩⟩⟩⟩⟩ := hK0
  obtain rfl : cs0 = #[.string a0_0, .string a0_1, .string a0_2, .string a0_3, .string a0_4, .slice A0_5 l0_5.length c0_5, .int .i64 a0_6, .int .i64 a0_7, .bool a0_8, .slice A0_9 l0_9.length c0_9] := by cases cs0; simpa using hcs0
  have k1 := h1
  have lt1 : ∀ x ∈ p1, x.block < W.heap.size := by obtain ⟨m, hm⟩ := k1; exact DataW.trod_lt m _ _ _ hm
  have wt1 := Open.arg_weights hsz (j := 1) (t := 3) (d := d1) rfl rfl
  obtain ⟨a1, rfl, rfl, rfl, w1⟩ := open_int Try.underlying3 (hval 1 3 v1 rfl rfl) h1
  clear hA0 hval0 hsz0 hsz
  refine (PRouteVerdicts.walk a0_0 a0_1 a0_2 a0_3 a0_4 A0_5 c0_5 l0_5 a0_6 a0_7 a0_8 A0_9 c0_9 l0_9 a1 W hG0.1 hG0.2.1 hG0.2.2.1 hG0.2.2.2.1 hG0.2.2.2.2.1 hC0_5 hc0_5 hG0.2.2.2.2.2.1 hG0.2.2.2.2.2.2.1 hG0.2.2.2.2.2.2.2.1 hG0.2.2.2.2.2.2.2.2.1 hC0_9 hc0_9 hG0.2.2.2.2.2.2.2.2.2 w1).mono fun e W' ⟨he, bel⟩ => ?_
  subst he
  exact ⟨_, rfl, _, _, _, [], _, [], hW', trodAll_mk1 (shut_bool Try.underlying4 _), (trodAll_cons_mk (Below.trod laidOut (by kernel_rfl) (of_decide_eq_true (by kernel_rfl)) k0 bel lt0) (trodAll_cons_mk (Below.trod laidOut (by kernel_rfl) (of_decide_eq_true (by kernel_rfl)) k1 bel lt1) trodAll_mk0)), rfl, bel.frame _, fun h => by cases h⟩
theorem over : Rows.routeVerdictsRow.holds Try.pinned (OpenSpec.ofChange Rows.routeVerdictsSpec) :=
  OpenClaim.holds_of_wide 3 Try.f3 rfl rfl rfl rfl rfl rfl rfl ⟨rfl, rfl, rfl, rfl, rfl⟩ rfl rfl rfl rfl rfl (by kernel_rfl) Try.func3 (by kernel_rfl)
    (of_decide_eq_true (by kernel_rfl)) (by unfold Func.isWrapper; first | (rw [if_pos (by decide +kernel)]; kernel_rfl) | (rw [if_neg (by decide +kernel)]; exact ⟨rfl, rfl⟩))
    (fun os started H enc _ => lifted os started H enc)
theorem proved : Rows.RouteVerdictsSaid := over
#print axioms proved
end Go.Proofs.Ytmbojmmboolagaa.routeVerdicts
namespace Go.Proofs.Ytmbojmmboolagaa
/-- The row, under a short name, for the claim. -/
theorem routeVerdicts_holds : Rows.RouteVerdictsSaid := routeVerdicts.proved
end Go.Proofs.Ytmbojmmboolagaa
