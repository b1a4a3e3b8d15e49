/- switchyard/switchyardlaw06.ValuePrints: for every input the law answers true, and its arguments read as before; the listed library tables are tied to the program's text by the given tie. Conditions: none but the card's own. -/
import Derived.Test.YtdmmgeggljlceaaDoorRows
import Derived.Test.YtdmmgeggljlceaaDoorCards
import Derived.Test.YtdmmgeggljlceaaDoorTie
import Derived.Test.YtdmmgeggljlceaaDoorPrints
import Derived.Test.YtdmmgeggljlceaaDoorOpens24
import Derived.WalkKit
import Derived.ProofKit
import Derived.OpenShut
import Derived.ShutString
import Derived.ChangeOld
import Derived.Below
import Derived.SizedLaws
import Derived.LaidMore
import Derived.Stop.Joined
import Derived.SevenTiedAt
namespace Go.Proofs.YtdmmgeggljlceaaDoor.valuePrints
open Go.ChangeShapes Go.WideShapes Go.ChangeAt Go.RowKit
open Go.ChangeMaps (open_string shut_string)
open Go.Proofs.YtdmmgeggljlceaaDoorW.PrintWords Go.Proofs.YtdmmgeggljlceaaDoor.Open Go.Proofs.YtdmmgeggljlceaaDoor.XV
set_option linter.unusedVariables false
theorem door_met (os : Os) (args : Array Value) : laidMetH Tryd.prog Rows.valuePrintsRow.laid ((World.doorLaid Tryd.prog 24 os).forCall (fun _ _ => 0) ⟨#[], args, []⟩).memory :=
  laidMetH_of_parts3 (fuel := 8) (laidMet_of_run' 8 (by kernel_rfl) (by kernel_rfl)) (by kernel_rfl) (by kernel_rfl)
theorem tabs_of {W : World} (h : laidMetH Tryd.prog Rows.valuePrintsRow.laid W) : Tabs W :=
  tab_of_reads (by kernel_rfl) h (by exact .tail _ (.tail _ (.head _))) (g := 1) (by kernel_rfl) (by kernel_rfl) (n := 20) Tryd.underlying84 Tryd.underlying74 (by kernel_rfl) (by kernel_rfl)
theorem own : ownKnob Tryd.prog.godebug = none := by kernel_rfl
theorem laidOut : laidOutB Tryd.prog = true := by kernel_rfl
set_option maxRecDepth 100000 in
theorem lifted (os : Os) (started : os.Started) (H : Type) (enc : TypeId × Value → H) :
    ReturnsInHanded {} Tryd.checked os 6 .any (fun w args => (Rows.valuePrintsSpec.pre enc Tryd.prog Tryd.f6 [] false w args ∧ laidMetH Tryd.prog Rows.valuePrintsRow.laid w) ∧ sizedMet enc Tryd.prog Tryd.f6 (OpenSpec.ofChange Rows.valuePrintsSpec) false w args) (Rows.valuePrintsSpec.post enc Tryd.prog Tryd.f6 false true false false) := by
  refine returnsInHanded_of_change_and (C := Tryd.checked) (X := fun w _ => laidMetH Tryd.prog Rows.valuePrintsRow.laid w) (fun _ _ _ hh h => h.of_heap hh) own started (by kernel_rfl) Tryd.func6
    (ChangeSpec.witness_shaped (enc := enc) (C := Tryd.checked) (os := os) (X := fun w _ => laidMetH Tryd.prog Rows.valuePrintsRow.laid w) false (World.doorLaid Tryd.prog 24 os) #[.slice none 0 0] 8 rfl (World.shaped_of_RefB (by kernel_rfl) (by kernel_rfl)) (by kernel_rfl) (by kernel_rfl) (by kernel_rfl) (door_met os _)) ?_
  intro W base args ds gs before hval0 hW hcnd hsz0 hL _
  have hsz : (DataW.weightsEach Tryd.prog (Tryd.f6.params.toList ++ Rows.valuePrintsSpec.plain.varTypes Tryd.prog) (ds ++ gs)).all (· ≤ reachBytes) = true := hsz0
  have hval : ∀ (j : Nat) t v, Tryd.f6.params[j]? = some t → args[j]? = some v → Value.okWide Tryd.prog W .any base t v := hval0
  have hW' := hW
  obtain ⟨p, q, hA0, hV, rfl, hfz, hnd⟩ := hW
  have hA : DataW.TrodAll enc Tryd.prog W 0 (fun _ => true) true Tryd.f6.params.toList args.toList ds p := hA0
  rw [Tryd.params6] at hA hval hsz
  obtain ⟨v0, vs0, d0, ds0, p0, q0, hargs, rfl, rfl, h0, r0⟩ := trodAll_cons hA
  obtain ⟨rfl, rfl, rfl⟩ := trodAll_nil r0
  obtain rfl : args = #[v0] := by cases args; simp_all
  obtain ⟨rfl, rfl⟩ := trodVars_none hV
  have k0 := h0
  have lt0 : ∀ x ∈ p0, x.block < W.heap.size := by obtain ⟨m, hm⟩ := k0; exact DataW.trod_lt m _ _ _ hm
  have wt0 := Open.arg_weights hsz (j := 0) (t := 29) (d := d0) rfl rfl
  obtain ⟨l0, hK0, hG0⟩ := Opens.arg (k := (Kd.slice 24 k24)) (fun _ => (opens_slice' Tryd.underlying29 (by kernel_rfl) (fun _ _ => (opens_k24 _)))) h0 wt0
  obtain ⟨b0, len0, cap0, rfl⟩ := okWide_slice Tryd.underlying29 (hval 0 29 v0 rfl rfl)
  obtain ⟨A0, c0, he0, hc0, hC0⟩ := hK0
  simp only [Value.cells] at he0
  injection he0 with he0 _
  injection he0 with e10 e20 e30
  subst e10 e20 e30
  clear hA0 hval0 hsz0 hsz
  have hT := tabs_of hL
  refine (prints_walk b0 cap0 l0 W hC0 hc0 hG0 hT).mono fun e W' ⟨he, bel⟩ => ?_
  subst he
  exact ⟨_, rfl, _, _, _, [], _, [], hW', trodAll_mk1 (shut_bool Tryd.underlying4 _), (trodAll_cons_mk (Below.trod laidOut (by kernel_rfl) (of_decide_eq_true (by kernel_rfl)) k0 bel lt0) trodAll_mk0), rfl, bel.frame _, fun h => by cases h⟩
theorem over : Rows.valuePrintsRow.holds Tryd.pinned (OpenSpec.ofChange Rows.valuePrintsSpec) :=
  OpenClaim.holds_of_wide 6 Tryd.f6 rfl rfl rfl rfl rfl rfl rfl ⟨rfl, rfl, rfl, rfl, rfl⟩ rfl rfl rfl rfl rfl (by kernel_rfl) Tryd.func6 (by kernel_rfl)
    (of_decide_eq_true (by kernel_rfl)) (by unfold Func.isWrapper; first | (rw [if_pos (by decide +kernel)]; kernel_rfl) | (rw [if_neg (by decide +kernel)]; exact ⟨rfl, rfl⟩))
    (fun os started H enc _ => lifted os started H enc)
theorem proved : Rows.ValuePrintsSaid := over
theorem card_proved : Rows.ValuePrintsCardSaid :=
  Claim7.holds_tied_plain_at .later [] [.data, .data, .data] true (true, "4217ac3d9a386417f05a36520f5f6a1bf1c8cb3f11235e2b184399bf5f78575d") false proved (fun _ h => by cases h) (by kernel_rfl) (fun _ h => by cases h) valuePrints_row_tie rfl ⟨rfl, rfl⟩ (by kernel_rfl) rfl
    (fun f fn hf hfn => by
      obtain rfl : f = 6 := Option.some.inj ((show Tryd.prog.funcNamed "switchyard/switchyardlaw06.ValuePrints" = some 6 by kernel_rfl).symm.trans hf) |>.symm
      obtain rfl : fn = Tryd.f6 := (Option.some.inj (Tryd.func6.symm.trans hfn)).symm
      exact ⟨by kernel_rfl, fun j t ht => by
        rw [Tryd.params6] at ht
        have hm : t ∈ [29] := by simpa using Array.mem_of_getElem? ht
        have hall : ([29].all fun u => !Tryd.prog.wantsStandIn u) = true := by kernel_rfl
        exact (show Tryd.prog.wantsStandIn t = false by simpa using List.all_eq_true.1 hall t hm)⟩)
    (by kernel_rfl)
#print axioms card_proved
end Go.Proofs.YtdmmgeggljlceaaDoor.valuePrints
namespace Go.Proofs.YtdmmgeggljlceaaDoor
/-- The card, under a short name, for the claim. -/
theorem valuePrints_holds : Rows.ValuePrintsCardSaid := valuePrints.card_proved
end Go.Proofs.YtdmmgeggljlceaaDoor
